/-
  Chapter 2's reference: Inside, Of, Edges, Steps.
  Chapters 2 and 5's references: Edges, Steps, units.
-/
import Derived.Test.YtliphfgiaioebaaDoorB17
namespace Go.Proofs.YtliphfgiaioebaaDoor
set_option linter.unusedVariables false
set_option linter.unusedSimpArgs false
open Go.RowKit
set_option maxRecDepth 100000
set_option maxHeartbeats 16000000
theorem edge_not {l : List UInt8} {p k : Nat} (hk : 1 ≤ k) (h : overB l p k) : edgeB l p = false := by
  rw [overB_iff _ _ _ hk] at h
  rw [← Bool.not_eq_true, edgeB_iff]
  intro h'
  have := h' (p - k) (by omega)
  omega
theorem edge_yes {l : List UInt8} {p : Nat} (h : ∀ j, 1 ≤ j → j < 4 → ¬ overB l p j) : edgeB l p = true := by
  unfold edgeB
  rw [insideOf_none fun j h1 h3 => h j h1 (by omega)]; rfl
theorem over_next {l : List UInt8} {p k : Nat} (h : ∀ j, 1 ≤ j → j < k → ¬ overB l p j) (hk : ¬ (k ≤ p ∧ k < eL l (p - k))) (h1 : 1 ≤ k) : ∀ j, 1 ≤ j → j < k + 1 → ¬ overB l p j := fun j h2 h3 => by
  rcases Nat.lt_or_ge j k with h' | h'
  · exact h j h2 h'
  · rw [show j = k by omega, overB_iff _ _ _ h1]; exact hk
theorem Inside_alt (A : Option Addr) (c : Nat) (l : List UInt8) (p : Nat) (w : World) (hA : BytesAt w A l) (hc : l.length ≤ c) (hp : p ≤ 400000000) :
    Calls Tryd.prog 128 #[.slice A l.length c, .int .i64 p] w fun e w' => (e = .returned (.bool true) ∧ edgeB l p = false ∧ Ltr w w') ∨ (e = .returned (.bool false) ∧ edgeB l p = true ∧ Ltr w w') := by
  have hB := Ltr.refl w
  go_enter Tryd.func128, Tryd.ntmps128
  refine wp_seq_k fun KK1 hKK1 => rl_begin fun hgK hgo => tk 4 (.bool false) ?_
  simp only [pp]
  refine rl_end hgo <| hKK1 _ _ <| wp_seq_k fun KK2 hKK2 => wp_seq_k fun KK3 hKK3 => rl_begin fun hgK hgo => tk 5 (.int .i64 1) ?_
  simp only [pp]
  refine rl_end hgo <| hKK3 _ _ <| wp_block ?_
  refine wp_loop_ghost (fun gn ga wl => ∃ (u : Nat → Value) (k : Nat), gn = 4 - k ∧ ga = ⟨#[.slice A l.length c, .int .i64 p, undef, undef, u 4, .int .i64 k, u 6, u 7, u 8, u 9, u 10, u 11, u 12, u 13, u 14, u 15, u 16, u 17, u 18, u 19, u 20, u 21, u 22], []⟩ ∧ (1 ≤ k) ∧ (k ≤ 4) ∧ (∀ j, 1 ≤ j → j < k → ¬ overB l p j) ∧ (Ltr w wl) ∧ (BytesAt wl A l)) ((fun (k : Nat) => (4 - k : Nat)) 1) ?_ ?_
  ·exact ⟨fun gj => (#[.slice A l.length c, .int .i64 p, undef, undef, .bool false, .int .i64 1, undef, undef, undef, undef, undef, undef, undef, undef, undef, undef, undef, undef, undef, undef, undef, undef, undef]).getD gj undef, 1, rfl, rfl, Nat.le_refl _, (by omega), (fun j h1 h2 => absurd h1 (by omega)), by assumption, by assumption⟩
  rintro n4 a4 w4 ⟨u, k, rfl, rfl, hk1', hk4', hno', hB', hA'⟩
  clear hA hB
  have hk1 := hk1'
  clear hk1'
  have hk4 := hk4'
  clear hk4'
  have hno := hno'
  clear hno'
  have hB := hB'
  clear hB'
  have hA := hA'
  clear hA'
  refine wp_seq_k fun KK5 hKK5 => wp_seq_k fun KK6 hKK6 => rl_begin fun hgK hgo => tk 6 (.int .i64 k) ?_
  simp only [pp]
  by_cases h1 : (k : Int) ≤ 3
  ·refine tx 7 (.bool true) (by exact ebt (c := (k : Int) ≤ 3) (by omega)) ?_
   simp only [pp]
   refine rl_end hgo <| hKK6 _ _ <| wp_cond_true (by kernel_rfl) <| wp_skip <| hKK5 _ _ <| wp_seq_k fun KK7 hKK7 => wp_block <| wp_seq_k fun KK8 hKK8 => rl_begin fun hgK hgo => tk 10 (.int .i64 p) <| tk 11 (.int .i64 k) ?_
   simp only [pp]
   refine tx 12 (.int .i64 ((p : Int) - k)) (by exact ex_arith (e := (p : Int) - k) (r := (p : Int) - k) (by kernel_rfl) (by omega) (by omega)) ?_
   simp only [pp]
   by_cases h2 : (p : Int) - k ≥ 0
   ·refine tx 13 (.bool true) (by exact ex_bool (c := (((p : Int) - k) : Int) ≥ 0) (by kernel_rfl) ⟨fun _ => by omega, fun _ => rfl⟩) <| tk 14 (.bool true) <| tk 15 (.slice A l.length c) <| tk 16 (.int .i64 p) <| tk 17 (.int .i64 k) ?_
    simp only [pp]
    refine tx 18 (.int .i64 (((p - k : Nat) : Int))) (by exact ex_arith (e := (p : Int) - k) (r := ((p - k : Nat) : Int)) (by kernel_rfl) (by omega) (by omega)) ?_
    simp only [pp]
    refine rl_call (some 19) 129 #[.slice A l.length c, .int .i64 (((p - k : Nat) : Int))] rfl (by kernel_rfl) (by kernel_rfl) (Long_any A c l (p - k) _ hA hc (by omega)) ?_
    rintro e w9 ⟨rfl, hL9⟩
    refine ⟨_, rfl, ?_⟩
    have hz9 := hL9.size
    try simp only [pp]
    refine tk 20 (.int .i64 k) ?_
    simp only [pp]
    replace hB := hB.later hL9
    replace hA := hA.later hL9
    by_cases h3 : (eL l (p - k) : Int) > k
    ·refine tx 21 (.bool true) (by exact ebt (c := (eL l (p - k) : Int) > k) (by omega)) <| tk 22 (.bool true) ?_
     simp only [pp]
     refine rl_end hgo <| hKK8 _ _ <| wp_cond_true (by kernel_rfl) <| wp_seq_k fun KK10 hKK10 => rl_begin fun hgK hgo => tk 4 (.bool true) ?_
     simp only [pp]
     refine rl_end hgo <| hKK10 _ _ ?_
     refine wp_ret ?_
     try simp only [Exit.then, Exit.inBlock]
     refine bp_ret (v := .bool true) (res1 rfl (res_tmp (by kernel_rfl))) ?_
     exact .inl ⟨rfl, edge_not hk1 ((overB_iff _ _ _ hk1).2 ⟨by omega, by omega⟩), hB⟩
    ·refine tx 21 (.bool false) (by exact ebf (c := (eL l (p - k) : Int) > k) (by omega)) <| tk 22 (.bool false) ?_
     simp only [pp]
     refine rl_end hgo <| hKK8 _ _ <| wp_cond_false (by kernel_rfl) <| wp_skip <| hKK7 _ _ <| rl_begin fun hgK hgo => tk 8 (.int .i64 k) ?_
     simp only [pp]
     refine tx 9 (.int .i64 (((k + 1 : Nat) : Int))) (by exact ex_arith (e := (k : Int) + 1) (r := ((k + 1 : Nat) : Int)) (by kernel_rfl) (by omega) (by omega)) <| tk 5 (.int .i64 (((k + 1 : Nat) : Int))) ?_
     simp only [pp]
     refine rl_end hgo ?_
     exact ⟨_, (by omega), fun gj => (#[.slice A l.length c, .int .i64 p, undef, undef, u 4, .int .i64 (((k + 1 : Nat) : Int)), .int .i64 k, .bool true, .int .i64 k, .int .i64 (((k + 1 : Nat) : Int)), .int .i64 p, .int .i64 k, .int .i64 ((p : Int) - k), .bool true, .bool true, .slice A l.length c, .int .i64 p, .int .i64 k, .int .i64 (((p - k : Nat) : Int)), .int .i64 (eL l (p - k)), .int .i64 k, .bool false, .bool false]).getD gj undef, k + 1, rfl, rfl, by omega, by omega, over_next hno (by omega) hk1, by assumption, by assumption⟩
   ·refine tx 13 (.bool false) (by exact ex_bool (c := (((p : Int) - k) : Int) ≥ 0) (by kernel_rfl) ⟨fun q => (by cases q), fun q => absurd q (by omega)⟩) <| tk 14 (.bool false) ?_
    simp only [pp]
    refine rl_pass (some 15) rfl (by kernel_rfl) ?_
    try simp only [pp]
    refine rl_pass (some 16) rfl (by kernel_rfl) ?_
    try simp only [pp]
    refine rl_pass (some 17) rfl (by kernel_rfl) ?_
    try simp only [pp]
    refine rl_pass (some 18) rfl (by kernel_rfl) ?_
    try simp only [pp]
    refine rl_pass (some 19) rfl (by kernel_rfl) ?_
    try simp only [pp]
    refine rl_pass (some 20) rfl (by kernel_rfl) ?_
    try simp only [pp]
    refine rl_pass (some 21) rfl (by kernel_rfl) ?_
    try simp only [pp]
    refine tk 22 (.bool false) ?_
    simp only [pp]
    refine rl_end hgo <| hKK8 _ _ <| wp_cond_false (by kernel_rfl) <| wp_skip <| hKK7 _ _ <| rl_begin fun hgK hgo => tk 8 (.int .i64 k) ?_
    simp only [pp]
    refine tx 9 (.int .i64 (((k + 1 : Nat) : Int))) (by exact ex_arith (e := (k : Int) + 1) (r := ((k + 1 : Nat) : Int)) (by kernel_rfl) (by omega) (by omega)) <| tk 5 (.int .i64 (((k + 1 : Nat) : Int))) ?_
    simp only [pp]
    refine rl_end hgo ?_
    exact ⟨_, (by omega), fun gj => (#[.slice A l.length c, .int .i64 p, undef, undef, u 4, .int .i64 (((k + 1 : Nat) : Int)), .int .i64 k, .bool true, .int .i64 k, .int .i64 (((k + 1 : Nat) : Int)), .int .i64 p, .int .i64 k, .int .i64 ((p : Int) - k), .bool false, .bool false, undef, undef, undef, undef, undef, undef, undef, .bool false]).getD gj undef, k + 1, rfl, rfl, by omega, by omega, over_next hno (by omega) hk1, by assumption, by assumption⟩
  ·refine tx 7 (.bool false) (by exact ebf (c := (k : Int) ≤ 3) (by omega)) ?_
   simp only [pp]
   refine rl_end hgo <| hKK6 _ _ <| wp_cond_false (by kernel_rfl) <| wp_exit <| hKK2 _ _ <| wp_seq_k fun KK11 hKK11 => rl_begin fun hgK hgo => tk 4 (.bool false) ?_
   simp only [pp]
   refine rl_end hgo <| hKK11 _ _ ?_
   refine wp_ret ?_
   try simp only [Exit.then, Exit.inBlock]
   refine bp_ret (v := .bool false) (res1 rfl (res_tmp (by kernel_rfl))) ?_
   exact .inr ⟨rfl, edge_yes (fun j h1 h2 => hno j h1 (by omega)), hB⟩
theorem ex_mod {o : Oper} {ρ : Operand → Value} {ty ty2 : TypeId} {x y : Operand} (k : Int) (n : Nat) (ho : o.op = .binOp .rem ty x y ty2) (hx : ρ x = .int .i64 k) (hy : ρ y = .int .i64 (n : Int)) (hu : Tryd.prog.underlying ty = some (.int .i64)) (h0 : 0 < n) (hk : 0 ≤ k) (w : World) :
    (execOp ρ o).run Tryd.prog w = .ok (.value (.int .i64 (k % n))) w := by
  rw [ex_rem k n ho hx hy hu h0 w, Int.tmod_eq_emod_of_nonneg hk]
theorem ex_i32 {o : Oper} {ρ : Operand → Value} {w : World} {x : Int} (h : (execOp ρ o).run Tryd.prog w = .ok (.value (.int .i32 (IntKind.i32.wrap x))) w) (h0 : 0 ≤ x) (h1 : x < 2147483648) : (execOp ρ o).run Tryd.prog w = .ok (.value (.int .i32 x)) w := by
  rw [h, IntWalk.i32_in _ (by omega)]
def leadR (l : List UInt8) (p : Nat) : Int := if eL l p = 2 then gb l p % 32 else if eL l p = 3 then gb l p % 16 else if eL l p = 4 then gb l p % 8 else gb l p
def partR (l : List UInt8) (p : Nat) : Nat → Int
  | 0 => 0
  | 1 => leadR l p
  | k + 2 => partR l p (k + 1) * 64 + gb l (p + (k + 1)) % 64
theorem partR_next (l : List UInt8) (p i : Nat) (h : 1 ≤ i) : partR l p (i + 1) = partR l p i * 64 + gb l (p + i) % 64 := by
  obtain ⟨k, rfl⟩ : ∃ k, i = k + 1 := ⟨i - 1, by omega⟩
  rfl
theorem partR_rune (l : List UInt8) (p : Nat) (h : eL l p ≠ 0) : partR l p (eL l p) = runeOf (l.drop p) := by
  have h4 := eL_le4 l p
  have he : eL l p = encLen (l.drop p) := rfl
  rcases (by omega : eL l p = 1 ∨ eL l p = 2 ∨ eL l p = 3 ∨ eL l p = 4) with e | e | e | e
  · rw [runeOf_1 (by rw [← he]; exact e), e, gb_drop]; simp [partR, leadR, e]
  · rw [runeOf_2 (by rw [← he]; exact e), e, gb_drop, gb_drop]; simp [partR, leadR, e]
  · rw [runeOf_3 (by rw [← he]; exact e), e, gb_drop, gb_drop, gb_drop]; simp [partR, leadR, e]
  · rw [runeOf_4 (by rw [← he]; exact e), e, gb_drop, gb_drop, gb_drop, gb_drop]; simp [partR, leadR, e]
theorem Of_any' (A : Option Addr) (c : Nat) (l : List UInt8) (p : Nat) (w : World) (hA : BytesAt w A l) (hc : l.length ≤ c) (hp : p < l.length) (hm : l.length ≤ 400000000) :
    Calls Tryd.prog 118 #[.slice A l.length c, .int .i64 p] w fun e w' => e = .returned (.agg #[.int .i32 (runeOf (l.drop p)), .int .i64 (stepW (l.drop p)), .bool (decide (eL l p ≠ 0))]) ∧ Ltr w w' := by
  have hB := Ltr.refl w
  have h4 := eL_le4 l p
  have hle := eL_le l p
  have hg0 := gb_lo l p
  have hg1 := gb_hi l p
  have hsw : stepW (l.drop p) = if eL l p = 0 then 1 else eL l p := rfl
  have hpr := partR_rune l p
  have hld : leadR l p = if eL l p = 2 then gb l p % 32 else if eL l p = 3 then gb l p % 16 else if eL l p = 4 then gb l p % 8 else gb l p := rfl
  have hp1 : partR l p 1 = leadR l p := rfl
  go_enter Tryd.func118, Tryd.ntmps118
  refine wp_seq_k fun KK1 hKK1 => rl_begin fun hgK hgo => ?_
  refine rl_alloc (some 4) 158 #[.int .i32 0, .int .i64 0, .bool false] rfl (by kernel_rfl) (fun W => by kernel_rfl) fun rb w2 hL2 hp2 hrb => ?_
  have hz2 := hL2.size
  have hlt2 := hrb.lt
  try simp only [pp]
  refine rl_end hgo <| hKK1 _ _ <| wp_seq_k fun KK3 hKK3 => rl_begin fun hgK hgo => tk 8 (.slice A l.length c) <| tk 9 (.int .i64 p) ?_
  simp only [pp]
  replace hA := hA.later hL2
  refine rl_call (some 10) 129 #[.slice A l.length c, .int .i64 p] rfl (by kernel_rfl) (by kernel_rfl) (Long_any A c l p _ hA hc (by omega)) ?_
  rintro e w4 ⟨rfl, hL4⟩
  refine ⟨_, rfl, ?_⟩
  have hz4 := hL4.size
  try simp only [pp]
  refine tk 5 (.int .i64 (eL l p)) ?_
  simp only [pp]
  refine rl_end hgo <| hKK3 _ _ <| wp_seq_k fun KK5 hKK5 => wp_seq_k fun KK6 hKK6 => rl_begin fun hgK hgo => tk 11 (.int .i64 (eL l p)) ?_
  simp only [pp]
  replace hB := (hB.later hL2).later hL4
  replace hA := hA.later hL4
  replace hrb := hrb.later hL4
  by_cases h0 : (eL l p : Int) = 0
  ·refine tx 12 (.bool true) (by exact eqt (x := eL l p) (y := 0) (by omega)) ?_
   simp only [pp]
   refine rl_end hgo <| hKK6 _ _ <| wp_cond_true (by kernel_rfl) <| wp_seq_k fun KK7 hKK7 => rl_begin fun hgK hgo => tk 13 (.agg #[.int .i32 65533, .int .i64 1, .bool false]) ?_
   simp only [pp]
   refine rl_store rb #[.int .i32 65533, .int .i64 1, .bool false] rfl rfl (by kernel_rfl) rfl rfl (by kernel_rfl) hrb rfl (by kernel_rfl) fun w8 hU8 hn8 => ?_
   have hz8 := hU8.size
   clear hA
   replace hB := hB.upd hU8 (by omega)
   clear hrb
   have hrb := hn8
   clear hn8
   try simp only [pp]
   refine rl_end hgo <| hKK7 _ _ ?_
   refine wp_ret ?_
   try simp only [Exit.then, Exit.inBlock]
   refine bp_ret (v := .agg #[.int .i32 65533, .int .i64 1, .bool false]) (res1 rfl (res_cell (b := rb) (cs := [.int .i32 65533, .int .i64 1, .bool false]) (by kernel_rfl) (fun _ => by kernel_rfl) (by kernel_rfl) hrb)) ?_
   exact ⟨by rw [hsw, if_pos (by omega), runeOf_0 (show eL l p = 0 by omega), decide_eq_false (by omega)]; rfl, hB⟩
  ·refine tx 12 (.bool false) (by exact eqf (x := eL l p) (y := 0) (by omega)) ?_
   simp only [pp]
   refine rl_end hgo <| hKK6 _ _ <| wp_cond_false (by kernel_rfl) <| wp_skip <| hKK5 _ _ <| wp_seq_k fun KK9 hKK9 => rl_begin fun hgK hgo => tk 14 (.slice A l.length c) <| tk 15 (.int .i64 p) ?_
   simp only [pp]
   obtain ⟨ab, ao, hAe, hac⟩ := hA (by omega)
   refine tx 16 (.pointer (some ⟨ab, ao + p, none⟩)) (by exact ex_indexA p rfl rfl hAe rfl (by kernel_rfl) (fun _ => by kernel_rfl) (by omega) _) ?_
   simp only [pp]
   refine tx 17 (.int .u8 (gb l p)) (by exact ld1 5 _ rfl ab (ao + p) rfl (fun _ => by kernel_rfl) _ (hac p (by omega))) ?_
   simp only [pp]
   refine tx 18 (.int .i64 (gb l p)) (by exact ex_u8int (by kernel_rfl) hg0 hg1) <| tk 6 (.int .i64 (gb l p)) ?_
   simp only [pp]
   refine rl_end hgo <| hKK9 _ _ <| wp_seq_k fun KK10 hKK10 => wp_seq_k fun KK11 hKK11 => rl_begin fun hgK hgo => tk 19 (.int .i64 (eL l p)) ?_
   simp only [pp]
   refine rl_end hgo <| hKK11 _ _ <| wp_block <| wp_seq_k fun KK12 hKK12 => rl_begin fun hgK hgo => ?_
   by_cases h2 : (eL l p : Int) = 2
   ·refine tx 21 (.bool true) (by exact eqt (x := eL l p) (y := 2) (by omega)) <| tk 20 (.bool true) ?_
    simp only [pp]
    refine rl_end hgo <| hKK12 _ _ <| wp_cond_true (by kernel_rfl) <| rl_begin fun hgK hgo => tk 22 (.int .i64 (gb l p)) ?_
    simp only [pp]
    refine tx 23 (.int .i64 (gb l p % 32)) (by exact ex_mod (gb l p) 32 rfl rfl rfl (by kernel_rfl) (by omega) hg0 _) <| tk 6 (.int .i64 (gb l p % 32)) ?_
    simp only [pp]
    refine rl_end hgo <| hKK10 _ _ <| wp_seq_k fun KK13 hKK13 => wp_seq_k fun KK14 hKK14 => rl_begin fun hgK hgo => ?_
    (have hl2 : leadR l p = gb l p % 32 := by rw [hld, if_pos (by omega)]); rw [← hl2]
    refine tk 7 (.int .i64 1) ?_
    simp only [pp]
    refine rl_end hgo <| hKK14 _ _ <| wp_block ?_
    refine wp_loop_ghost (fun gn ga wl => ∃ (u : Nat → Value) (i : Nat) (r : Int), gn = 5 - i ∧ ga = ⟨#[.slice A l.length c, .int .i64 p, undef, undef, .pointer (some ⟨rb, 0, none⟩), .int .i64 (eL l p), .int .i64 r, .int .i64 i, .slice A l.length c, .int .i64 p, .int .i64 (eL l p), .int .i64 (eL l p), .bool false, undef, .slice A l.length c, .int .i64 p, .pointer (some ⟨ab, ao + p, none⟩), .int .u8 (gb l p), .int .i64 (gb l p), .int .i64 (eL l p), .bool true, .bool true, .int .i64 (gb l p), .int .i64 (leadR l p), undef, undef, undef, undef, undef, undef, undef, undef, u 32, u 33, u 34, u 35, u 36, u 37, u 38, u 39, u 40, u 41, u 42, u 43, u 44, u 45, u 46, u 47, undef, undef, undef, undef], []⟩ ∧ (1 ≤ i) ∧ (i ≤ eL l p) ∧ (r = partR l p i) ∧ (0 ≤ r) ∧ (i ≤ 1 → r < 256) ∧ (i ≤ 2 → r < 16448) ∧ (i ≤ 3 → r < 1052736) ∧ (r < 67375168) ∧ (Ltr w wl) ∧ (BytesAt wl A l) ∧ (Blk wl rb 158 #[.int .i32 0, .int .i64 0, .bool false])) ((fun (i : Nat) (r : Int) => (5 - i : Nat)) 1 (leadR l p)) ?_ ?_
    ·exact ⟨fun gj => (#[.slice A l.length c, .int .i64 p, undef, undef, .pointer (some ⟨rb, 0, none⟩), .int .i64 (eL l p), .int .i64 (leadR l p), .int .i64 1, .slice A l.length c, .int .i64 p, .int .i64 (eL l p), .int .i64 (eL l p), .bool false, undef, .slice A l.length c, .int .i64 p, .pointer (some ⟨ab, ao + p, none⟩), .int .u8 (gb l p), .int .i64 (gb l p), .int .i64 (eL l p), .bool true, .bool true, .int .i64 (gb l p), .int .i64 (leadR l p), undef, undef, undef, undef, undef, undef, undef, undef, undef, undef, undef, undef, undef, undef, undef, undef, undef, undef, undef, undef, undef, undef, undef, undef, undef, undef, undef, undef]).getD gj undef, 1, leadR l p, rfl, rfl, Nat.le_refl _, (by omega), hp1.symm, (by omega), (by omega), (by omega), (by omega), (by omega), by assumption, by assumption, by assumption⟩
    rintro n15 a15 w15 ⟨u, i, r, rfl, rfl, hi1', hi4', hr', hb0', hb1', hb2', hb3', hb4', hB', hA', hrb'⟩
    clear hrb hA hB
    have hi1 := hi1'
    clear hi1'
    have hi4 := hi4'
    clear hi4'
    have hr := hr'
    clear hr'
    have hb0 := hb0'
    clear hb0'
    have hb1 := hb1'
    clear hb1'
    have hb2 := hb2'
    clear hb2'
    have hb3 := hb3'
    clear hb3'
    have hb4 := hb4'
    clear hb4'
    have hB := hB'
    clear hB'
    have hA := hA'
    clear hA'
    have hrb := hrb'
    clear hrb'
    have hlt_hrb_15 := hrb.lt
    refine wp_seq_k fun KK16 hKK16 => wp_seq_k fun KK17 hKK17 => rl_begin fun hgK hgo => tk 32 (.int .i64 i) <| tk 33 (.int .i64 (eL l p)) ?_
    simp only [pp]
    by_cases h5 : (i : Int) < eL l p
    ·refine tx 34 (.bool true) (by exact ebt (c := (i : Int) < (eL l p)) (by omega)) ?_
     simp only [pp]
     refine rl_end hgo <| hKK17 _ _ <| wp_cond_true (by kernel_rfl) <| wp_skip <| hKK16 _ _ <| wp_seq_k fun KK18 hKK18 => wp_block <| rl_begin fun hgK hgo => tk 37 (.int .i64 r) ?_
     simp only [pp]
     refine tx 38 (.int .i64 ((r : Int) * 64)) (by exact ex_arith (e := (r : Int) * 64) (r := (r : Int) * 64) (by kernel_rfl) (by omega) (by omega)) <| tk 39 (.slice A l.length c) <| tk 40 (.int .i64 p) <| tk 41 (.int .i64 i) ?_
     simp only [pp]
     refine tx 42 (.int .i64 (((p + i : Nat) : Int))) (by exact ex_arith (e := (p : Int) + i) (r := ((p + i : Nat) : Int)) (by kernel_rfl) (by omega) (by omega)) ?_
     simp only [pp]
     (obtain ⟨bb, bo, hBe, hbc⟩ := hA (by omega)); (have hj0 := gb_lo l (p + i)); (have hj1 := gb_hi l (p + i)); (have hpn := partR_next l p i hi1)
     refine tx 43 (.pointer (some ⟨bb, bo + (p + i), none⟩)) (by exact ex_indexA (p + i) rfl rfl hBe rfl (by kernel_rfl) (fun _ => by kernel_rfl) (by omega) _) ?_
     simp only [pp]
     refine tx 44 (.int .u8 (gb l (p + i))) (by exact ld1 5 _ rfl bb (bo + (p + i)) rfl (fun _ => by kernel_rfl) _ (hbc (p + i) (by omega))) ?_
     simp only [pp]
     refine tx 45 (.int .i64 (gb l (p + i))) (by exact ex_u8int (by kernel_rfl) hj0 hj1) ?_
     simp only [pp]
     refine tx 46 (.int .i64 (gb l (p + i) % 64)) (by exact ex_mod (gb l (p + i)) 64 rfl rfl rfl (by kernel_rfl) (by omega) hj0 _) ?_
     simp only [pp]
     refine tx 47 (.int .i64 (r * 64 + gb l (p + i) % 64)) (by exact ex_arith (e := (((r : Int) * 64) : Int) + (gb l (p + i) % 64)) (r := r * 64 + gb l (p + i) % 64) (by kernel_rfl) (by omega) (by omega)) <| tk 6 (.int .i64 (r * 64 + gb l (p + i) % 64)) ?_
     simp only [pp]
     refine rl_end hgo <| hKK18 _ _ <| rl_begin fun hgK hgo => tk 35 (.int .i64 i) ?_
     simp only [pp]
     refine tx 36 (.int .i64 (((i + 1 : Nat) : Int))) (by exact ex_arith (e := (i : Int) + 1) (r := ((i + 1 : Nat) : Int)) (by kernel_rfl) (by omega) (by omega)) <| tk 7 (.int .i64 (((i + 1 : Nat) : Int))) ?_
     simp only [pp]
     refine rl_end hgo ?_
     exact ⟨_, (by omega), fun gj => (#[.slice A l.length c, .int .i64 p, undef, undef, .pointer (some ⟨rb, 0, none⟩), .int .i64 (eL l p), .int .i64 (r * 64 + gb l (p + i) % 64), .int .i64 (((i + 1 : Nat) : Int)), .slice A l.length c, .int .i64 p, .int .i64 (eL l p), .int .i64 (eL l p), .bool false, undef, .slice A l.length c, .int .i64 p, .pointer (some ⟨ab, ao + p, none⟩), .int .u8 (gb l p), .int .i64 (gb l p), .int .i64 (eL l p), .bool true, .bool true, .int .i64 (gb l p), .int .i64 (leadR l p), undef, undef, undef, undef, undef, undef, undef, undef, .int .i64 i, .int .i64 (eL l p), .bool true, .int .i64 i, .int .i64 (((i + 1 : Nat) : Int)), .int .i64 r, .int .i64 ((r : Int) * 64), .slice A l.length c, .int .i64 p, .int .i64 i, .int .i64 (((p + i : Nat) : Int)), .pointer (some ⟨bb, bo + (p + i), none⟩), .int .u8 (gb l (p + i)), .int .i64 (gb l (p + i)), .int .i64 (gb l (p + i) % 64), .int .i64 (r * 64 + gb l (p + i) % 64), undef, undef, undef, undef]).getD gj undef, i + 1, r * 64 + gb l (p + i) % 64, rfl, rfl, by omega, by omega, by rw [hpn, ← hr], by omega, by omega, by omega, by omega, by omega, by assumption, by assumption, by assumption⟩
    ·refine tx 34 (.bool false) (by exact ebf (c := (i : Int) < (eL l p)) (by omega)) ?_
     simp only [pp]
     refine rl_end hgo <| hKK17 _ _ <| wp_cond_false (by kernel_rfl) <| wp_exit <| hKK13 _ _ <| wp_seq_k fun KK19 hKK19 => rl_begin fun hgK hgo => tk 48 (.int .i64 r) ?_
     simp only [pp]
     refine tx 49 (.int .i32 r) (by exact ex_i32 (by kernel_rfl) (by omega) (by omega)) <| tk 50 (.int .i64 (eL l p)) <| tk 51 (.agg #[.int .i32 r, .int .i64 (eL l p), .bool true]) ?_
     simp only [pp]
     refine rl_store rb #[.int .i32 r, .int .i64 (eL l p), .bool true] rfl rfl (by kernel_rfl) rfl rfl (by kernel_rfl) hrb rfl (by kernel_rfl) fun w20 hU20 hn20 => ?_
     have hz20 := hU20.size
     clear hA
     replace hB := hB.upd hU20 (by omega)
     clear hrb
     have hrb := hn20
     clear hn20
     try simp only [pp]
     refine rl_end hgo <| hKK19 _ _ ?_
     refine wp_ret ?_
     try simp only [Exit.then, Exit.inBlock]
     refine bp_ret (v := .agg #[.int .i32 r, .int .i64 (eL l p), .bool true]) (res1 rfl (res_cell (b := rb) (cs := [.int .i32 r, .int .i64 (eL l p), .bool true]) (by kernel_rfl) (fun _ => by kernel_rfl) (by kernel_rfl) hrb)) ?_
     exact ⟨by rw [hsw, if_neg (by omega), ← hpr (by omega), hr, show i = eL l p by omega, decide_eq_true (by omega)], hB⟩
   ·refine tx 21 (.bool false) (by exact eqf (x := eL l p) (y := 2) (by omega)) <| tk 20 (.bool false) ?_
    simp only [pp]
    refine rl_end hgo <| hKK12 _ _ <| wp_cond_false (by kernel_rfl) <| wp_seq_k fun KK21 hKK21 => rl_begin fun hgK hgo => ?_
    by_cases h3 : (eL l p : Int) = 3
    ·refine tx 25 (.bool true) (by exact eqt (x := eL l p) (y := 3) (by omega)) <| tk 24 (.bool true) ?_
     simp only [pp]
     refine rl_end hgo <| hKK21 _ _ <| wp_cond_true (by kernel_rfl) <| rl_begin fun hgK hgo => tk 26 (.int .i64 (gb l p)) ?_
     simp only [pp]
     refine tx 27 (.int .i64 (gb l p % 16)) (by exact ex_mod (gb l p) 16 rfl rfl rfl (by kernel_rfl) (by omega) hg0 _) <| tk 6 (.int .i64 (gb l p % 16)) ?_
     simp only [pp]
     refine rl_end hgo <| hKK10 _ _ <| wp_seq_k fun KK22 hKK22 => wp_seq_k fun KK23 hKK23 => rl_begin fun hgK hgo => ?_
     (have hl2 : leadR l p = gb l p % 16 := by rw [hld, if_neg (by omega), if_pos (by omega)]); rw [← hl2]
     refine tk 7 (.int .i64 1) ?_
     simp only [pp]
     refine rl_end hgo <| hKK23 _ _ <| wp_block ?_
     refine wp_loop_ghost (fun gn ga wl => ∃ (u : Nat → Value) (i : Nat) (r : Int), gn = 5 - i ∧ ga = ⟨#[.slice A l.length c, .int .i64 p, undef, undef, .pointer (some ⟨rb, 0, none⟩), .int .i64 (eL l p), .int .i64 r, .int .i64 i, .slice A l.length c, .int .i64 p, .int .i64 (eL l p), .int .i64 (eL l p), .bool false, undef, .slice A l.length c, .int .i64 p, .pointer (some ⟨ab, ao + p, none⟩), .int .u8 (gb l p), .int .i64 (gb l p), .int .i64 (eL l p), .bool false, .bool false, undef, undef, .bool true, .bool true, .int .i64 (gb l p), .int .i64 (leadR l p), undef, undef, undef, undef, u 32, u 33, u 34, u 35, u 36, u 37, u 38, u 39, u 40, u 41, u 42, u 43, u 44, u 45, u 46, u 47, undef, undef, undef, undef], []⟩ ∧ (1 ≤ i) ∧ (i ≤ eL l p) ∧ (r = partR l p i) ∧ (0 ≤ r) ∧ (i ≤ 1 → r < 256) ∧ (i ≤ 2 → r < 16448) ∧ (i ≤ 3 → r < 1052736) ∧ (r < 67375168) ∧ (Ltr w wl) ∧ (BytesAt wl A l) ∧ (Blk wl rb 158 #[.int .i32 0, .int .i64 0, .bool false])) ((fun (i : Nat) (r : Int) => (5 - i : Nat)) 1 (leadR l p)) ?_ ?_
     ·exact ⟨fun gj => (#[.slice A l.length c, .int .i64 p, undef, undef, .pointer (some ⟨rb, 0, none⟩), .int .i64 (eL l p), .int .i64 (leadR l p), .int .i64 1, .slice A l.length c, .int .i64 p, .int .i64 (eL l p), .int .i64 (eL l p), .bool false, undef, .slice A l.length c, .int .i64 p, .pointer (some ⟨ab, ao + p, none⟩), .int .u8 (gb l p), .int .i64 (gb l p), .int .i64 (eL l p), .bool false, .bool false, undef, undef, .bool true, .bool true, .int .i64 (gb l p), .int .i64 (leadR l p), undef, undef, undef, undef, undef, undef, undef, undef, undef, undef, undef, undef, undef, undef, undef, undef, undef, undef, undef, undef, undef, undef, undef, undef]).getD gj undef, 1, leadR l p, rfl, rfl, Nat.le_refl _, (by omega), hp1.symm, (by omega), (by omega), (by omega), (by omega), (by omega), by assumption, by assumption, by assumption⟩
     rintro n24 a24 w24 ⟨u, i, r, rfl, rfl, hi1', hi4', hr', hb0', hb1', hb2', hb3', hb4', hB', hA', hrb'⟩
     clear hrb hA hB
     have hi1 := hi1'
     clear hi1'
     have hi4 := hi4'
     clear hi4'
     have hr := hr'
     clear hr'
     have hb0 := hb0'
     clear hb0'
     have hb1 := hb1'
     clear hb1'
     have hb2 := hb2'
     clear hb2'
     have hb3 := hb3'
     clear hb3'
     have hb4 := hb4'
     clear hb4'
     have hB := hB'
     clear hB'
     have hA := hA'
     clear hA'
     have hrb := hrb'
     clear hrb'
     have hlt_hrb_24 := hrb.lt
     refine wp_seq_k fun KK25 hKK25 => wp_seq_k fun KK26 hKK26 => rl_begin fun hgK hgo => tk 32 (.int .i64 i) <| tk 33 (.int .i64 (eL l p)) ?_
     simp only [pp]
     by_cases h5 : (i : Int) < eL l p
     ·refine tx 34 (.bool true) (by exact ebt (c := (i : Int) < (eL l p)) (by omega)) ?_
      simp only [pp]
      refine rl_end hgo <| hKK26 _ _ <| wp_cond_true (by kernel_rfl) <| wp_skip <| hKK25 _ _ <| wp_seq_k fun KK27 hKK27 => wp_block <| rl_begin fun hgK hgo => tk 37 (.int .i64 r) ?_
      simp only [pp]
      refine tx 38 (.int .i64 ((r : Int) * 64)) (by exact ex_arith (e := (r : Int) * 64) (r := (r : Int) * 64) (by kernel_rfl) (by omega) (by omega)) <| tk 39 (.slice A l.length c) <| tk 40 (.int .i64 p) <| tk 41 (.int .i64 i) ?_
      simp only [pp]
      refine tx 42 (.int .i64 (((p + i : Nat) : Int))) (by exact ex_arith (e := (p : Int) + i) (r := ((p + i : Nat) : Int)) (by kernel_rfl) (by omega) (by omega)) ?_
      simp only [pp]
      (obtain ⟨bb, bo, hBe, hbc⟩ := hA (by omega)); (have hj0 := gb_lo l (p + i)); (have hj1 := gb_hi l (p + i)); (have hpn := partR_next l p i hi1)
      refine tx 43 (.pointer (some ⟨bb, bo + (p + i), none⟩)) (by exact ex_indexA (p + i) rfl rfl hBe rfl (by kernel_rfl) (fun _ => by kernel_rfl) (by omega) _) ?_
      simp only [pp]
      refine tx 44 (.int .u8 (gb l (p + i))) (by exact ld1 5 _ rfl bb (bo + (p + i)) rfl (fun _ => by kernel_rfl) _ (hbc (p + i) (by omega))) ?_
      simp only [pp]
      refine tx 45 (.int .i64 (gb l (p + i))) (by exact ex_u8int (by kernel_rfl) hj0 hj1) ?_
      simp only [pp]
      refine tx 46 (.int .i64 (gb l (p + i) % 64)) (by exact ex_mod (gb l (p + i)) 64 rfl rfl rfl (by kernel_rfl) (by omega) hj0 _) ?_
      simp only [pp]
      refine tx 47 (.int .i64 (r * 64 + gb l (p + i) % 64)) (by exact ex_arith (e := (((r : Int) * 64) : Int) + (gb l (p + i) % 64)) (r := r * 64 + gb l (p + i) % 64) (by kernel_rfl) (by omega) (by omega)) <| tk 6 (.int .i64 (r * 64 + gb l (p + i) % 64)) ?_
      simp only [pp]
      refine rl_end hgo <| hKK27 _ _ <| rl_begin fun hgK hgo => tk 35 (.int .i64 i) ?_
      simp only [pp]
      refine tx 36 (.int .i64 (((i + 1 : Nat) : Int))) (by exact ex_arith (e := (i : Int) + 1) (r := ((i + 1 : Nat) : Int)) (by kernel_rfl) (by omega) (by omega)) <| tk 7 (.int .i64 (((i + 1 : Nat) : Int))) ?_
      simp only [pp]
      refine rl_end hgo ?_
      exact ⟨_, (by omega), fun gj => (#[.slice A l.length c, .int .i64 p, undef, undef, .pointer (some ⟨rb, 0, none⟩), .int .i64 (eL l p), .int .i64 (r * 64 + gb l (p + i) % 64), .int .i64 (((i + 1 : Nat) : Int)), .slice A l.length c, .int .i64 p, .int .i64 (eL l p), .int .i64 (eL l p), .bool false, undef, .slice A l.length c, .int .i64 p, .pointer (some ⟨ab, ao + p, none⟩), .int .u8 (gb l p), .int .i64 (gb l p), .int .i64 (eL l p), .bool false, .bool false, undef, undef, .bool true, .bool true, .int .i64 (gb l p), .int .i64 (leadR l p), undef, undef, undef, undef, .int .i64 i, .int .i64 (eL l p), .bool true, .int .i64 i, .int .i64 (((i + 1 : Nat) : Int)), .int .i64 r, .int .i64 ((r : Int) * 64), .slice A l.length c, .int .i64 p, .int .i64 i, .int .i64 (((p + i : Nat) : Int)), .pointer (some ⟨bb, bo + (p + i), none⟩), .int .u8 (gb l (p + i)), .int .i64 (gb l (p + i)), .int .i64 (gb l (p + i) % 64), .int .i64 (r * 64 + gb l (p + i) % 64), undef, undef, undef, undef]).getD gj undef, i + 1, r * 64 + gb l (p + i) % 64, rfl, rfl, by omega, by omega, by rw [hpn, ← hr], by omega, by omega, by omega, by omega, by omega, by assumption, by assumption, by assumption⟩
     ·refine tx 34 (.bool false) (by exact ebf (c := (i : Int) < (eL l p)) (by omega)) ?_
      simp only [pp]
      refine rl_end hgo <| hKK26 _ _ <| wp_cond_false (by kernel_rfl) <| wp_exit <| hKK22 _ _ <| wp_seq_k fun KK28 hKK28 => rl_begin fun hgK hgo => tk 48 (.int .i64 r) ?_
      simp only [pp]
      refine tx 49 (.int .i32 r) (by exact ex_i32 (by kernel_rfl) (by omega) (by omega)) <| tk 50 (.int .i64 (eL l p)) <| tk 51 (.agg #[.int .i32 r, .int .i64 (eL l p), .bool true]) ?_
      simp only [pp]
      refine rl_store rb #[.int .i32 r, .int .i64 (eL l p), .bool true] rfl rfl (by kernel_rfl) rfl rfl (by kernel_rfl) hrb rfl (by kernel_rfl) fun w29 hU29 hn29 => ?_
      have hz29 := hU29.size
      clear hA
      replace hB := hB.upd hU29 (by omega)
      clear hrb
      have hrb := hn29
      clear hn29
      try simp only [pp]
      refine rl_end hgo <| hKK28 _ _ ?_
      refine wp_ret ?_
      try simp only [Exit.then, Exit.inBlock]
      refine bp_ret (v := .agg #[.int .i32 r, .int .i64 (eL l p), .bool true]) (res1 rfl (res_cell (b := rb) (cs := [.int .i32 r, .int .i64 (eL l p), .bool true]) (by kernel_rfl) (fun _ => by kernel_rfl) (by kernel_rfl) hrb)) ?_
      exact ⟨by rw [hsw, if_neg (by omega), ← hpr (by omega), hr, show i = eL l p by omega, decide_eq_true (by omega)], hB⟩
    ·refine tx 25 (.bool false) (by exact eqf (x := eL l p) (y := 3) (by omega)) <| tk 24 (.bool false) ?_
     simp only [pp]
     refine rl_end hgo <| hKK21 _ _ <| wp_cond_false (by kernel_rfl) <| wp_seq_k fun KK30 hKK30 => rl_begin fun hgK hgo => ?_
     by_cases h4' : (eL l p : Int) = 4
     ·refine tx 29 (.bool true) (by exact eqt (x := eL l p) (y := 4) (by omega)) <| tk 28 (.bool true) ?_
      simp only [pp]
      refine rl_end hgo <| hKK30 _ _ <| wp_cond_true (by kernel_rfl) <| rl_begin fun hgK hgo => tk 30 (.int .i64 (gb l p)) ?_
      simp only [pp]
      refine tx 31 (.int .i64 (gb l p % 8)) (by exact ex_mod (gb l p) 8 rfl rfl rfl (by kernel_rfl) (by omega) hg0 _) <| tk 6 (.int .i64 (gb l p % 8)) ?_
      simp only [pp]
      refine rl_end hgo <| hKK10 _ _ <| wp_seq_k fun KK31 hKK31 => wp_seq_k fun KK32 hKK32 => rl_begin fun hgK hgo => ?_
      (have hl2 : leadR l p = gb l p % 8 := by rw [hld, if_neg (by omega), if_neg (by omega), if_pos (by omega)]); rw [← hl2]
      refine tk 7 (.int .i64 1) ?_
      simp only [pp]
      refine rl_end hgo <| hKK32 _ _ <| wp_block ?_
      refine wp_loop_ghost (fun gn ga wl => ∃ (u : Nat → Value) (i : Nat) (r : Int), gn = 5 - i ∧ ga = ⟨#[.slice A l.length c, .int .i64 p, undef, undef, .pointer (some ⟨rb, 0, none⟩), .int .i64 (eL l p), .int .i64 r, .int .i64 i, .slice A l.length c, .int .i64 p, .int .i64 (eL l p), .int .i64 (eL l p), .bool false, undef, .slice A l.length c, .int .i64 p, .pointer (some ⟨ab, ao + p, none⟩), .int .u8 (gb l p), .int .i64 (gb l p), .int .i64 (eL l p), .bool false, .bool false, undef, undef, .bool false, .bool false, undef, undef, .bool true, .bool true, .int .i64 (gb l p), .int .i64 (leadR l p), u 32, u 33, u 34, u 35, u 36, u 37, u 38, u 39, u 40, u 41, u 42, u 43, u 44, u 45, u 46, u 47, undef, undef, undef, undef], []⟩ ∧ (1 ≤ i) ∧ (i ≤ eL l p) ∧ (r = partR l p i) ∧ (0 ≤ r) ∧ (i ≤ 1 → r < 256) ∧ (i ≤ 2 → r < 16448) ∧ (i ≤ 3 → r < 1052736) ∧ (r < 67375168) ∧ (Ltr w wl) ∧ (BytesAt wl A l) ∧ (Blk wl rb 158 #[.int .i32 0, .int .i64 0, .bool false])) ((fun (i : Nat) (r : Int) => (5 - i : Nat)) 1 (leadR l p)) ?_ ?_
      ·exact ⟨fun gj => (#[.slice A l.length c, .int .i64 p, undef, undef, .pointer (some ⟨rb, 0, none⟩), .int .i64 (eL l p), .int .i64 (leadR l p), .int .i64 1, .slice A l.length c, .int .i64 p, .int .i64 (eL l p), .int .i64 (eL l p), .bool false, undef, .slice A l.length c, .int .i64 p, .pointer (some ⟨ab, ao + p, none⟩), .int .u8 (gb l p), .int .i64 (gb l p), .int .i64 (eL l p), .bool false, .bool false, undef, undef, .bool false, .bool false, undef, undef, .bool true, .bool true, .int .i64 (gb l p), .int .i64 (leadR l p), undef, undef, undef, undef, undef, undef, undef, undef, undef, undef, undef, undef, undef, undef, undef, undef, undef, undef, undef, undef]).getD gj undef, 1, leadR l p, rfl, rfl, Nat.le_refl _, (by omega), hp1.symm, (by omega), (by omega), (by omega), (by omega), (by omega), by assumption, by assumption, by assumption⟩
      rintro n33 a33 w33 ⟨u, i, r, rfl, rfl, hi1', hi4', hr', hb0', hb1', hb2', hb3', hb4', hB', hA', hrb'⟩
      clear hrb hA hB
      have hi1 := hi1'
      clear hi1'
      have hi4 := hi4'
      clear hi4'
      have hr := hr'
      clear hr'
      have hb0 := hb0'
      clear hb0'
      have hb1 := hb1'
      clear hb1'
      have hb2 := hb2'
      clear hb2'
      have hb3 := hb3'
      clear hb3'
      have hb4 := hb4'
      clear hb4'
      have hB := hB'
      clear hB'
      have hA := hA'
      clear hA'
      have hrb := hrb'
      clear hrb'
      have hlt_hrb_33 := hrb.lt
      refine wp_seq_k fun KK34 hKK34 => wp_seq_k fun KK35 hKK35 => rl_begin fun hgK hgo => tk 32 (.int .i64 i) <| tk 33 (.int .i64 (eL l p)) ?_
      simp only [pp]
      by_cases h5 : (i : Int) < eL l p
      ·refine tx 34 (.bool true) (by exact ebt (c := (i : Int) < (eL l p)) (by omega)) ?_
       simp only [pp]
       refine rl_end hgo <| hKK35 _ _ <| wp_cond_true (by kernel_rfl) <| wp_skip <| hKK34 _ _ <| wp_seq_k fun KK36 hKK36 => wp_block <| rl_begin fun hgK hgo => tk 37 (.int .i64 r) ?_
       simp only [pp]
       refine tx 38 (.int .i64 ((r : Int) * 64)) (by exact ex_arith (e := (r : Int) * 64) (r := (r : Int) * 64) (by kernel_rfl) (by omega) (by omega)) <| tk 39 (.slice A l.length c) <| tk 40 (.int .i64 p) <| tk 41 (.int .i64 i) ?_
       simp only [pp]
       refine tx 42 (.int .i64 (((p + i : Nat) : Int))) (by exact ex_arith (e := (p : Int) + i) (r := ((p + i : Nat) : Int)) (by kernel_rfl) (by omega) (by omega)) ?_
       simp only [pp]
       (obtain ⟨bb, bo, hBe, hbc⟩ := hA (by omega)); (have hj0 := gb_lo l (p + i)); (have hj1 := gb_hi l (p + i)); (have hpn := partR_next l p i hi1)
       refine tx 43 (.pointer (some ⟨bb, bo + (p + i), none⟩)) (by exact ex_indexA (p + i) rfl rfl hBe rfl (by kernel_rfl) (fun _ => by kernel_rfl) (by omega) _) ?_
       simp only [pp]
       refine tx 44 (.int .u8 (gb l (p + i))) (by exact ld1 5 _ rfl bb (bo + (p + i)) rfl (fun _ => by kernel_rfl) _ (hbc (p + i) (by omega))) ?_
       simp only [pp]
       refine tx 45 (.int .i64 (gb l (p + i))) (by exact ex_u8int (by kernel_rfl) hj0 hj1) ?_
       simp only [pp]
       refine tx 46 (.int .i64 (gb l (p + i) % 64)) (by exact ex_mod (gb l (p + i)) 64 rfl rfl rfl (by kernel_rfl) (by omega) hj0 _) ?_
       simp only [pp]
       refine tx 47 (.int .i64 (r * 64 + gb l (p + i) % 64)) (by exact ex_arith (e := (((r : Int) * 64) : Int) + (gb l (p + i) % 64)) (r := r * 64 + gb l (p + i) % 64) (by kernel_rfl) (by omega) (by omega)) <| tk 6 (.int .i64 (r * 64 + gb l (p + i) % 64)) ?_
       simp only [pp]
       refine rl_end hgo <| hKK36 _ _ <| rl_begin fun hgK hgo => tk 35 (.int .i64 i) ?_
       simp only [pp]
       refine tx 36 (.int .i64 (((i + 1 : Nat) : Int))) (by exact ex_arith (e := (i : Int) + 1) (r := ((i + 1 : Nat) : Int)) (by kernel_rfl) (by omega) (by omega)) <| tk 7 (.int .i64 (((i + 1 : Nat) : Int))) ?_
       simp only [pp]
       refine rl_end hgo ?_
       exact ⟨_, (by omega), fun gj => (#[.slice A l.length c, .int .i64 p, undef, undef, .pointer (some ⟨rb, 0, none⟩), .int .i64 (eL l p), .int .i64 (r * 64 + gb l (p + i) % 64), .int .i64 (((i + 1 : Nat) : Int)), .slice A l.length c, .int .i64 p, .int .i64 (eL l p), .int .i64 (eL l p), .bool false, undef, .slice A l.length c, .int .i64 p, .pointer (some ⟨ab, ao + p, none⟩), .int .u8 (gb l p), .int .i64 (gb l p), .int .i64 (eL l p), .bool false, .bool false, undef, undef, .bool false, .bool false, undef, undef, .bool true, .bool true, .int .i64 (gb l p), .int .i64 (leadR l p), .int .i64 i, .int .i64 (eL l p), .bool true, .int .i64 i, .int .i64 (((i + 1 : Nat) : Int)), .int .i64 r, .int .i64 ((r : Int) * 64), .slice A l.length c, .int .i64 p, .int .i64 i, .int .i64 (((p + i : Nat) : Int)), .pointer (some ⟨bb, bo + (p + i), none⟩), .int .u8 (gb l (p + i)), .int .i64 (gb l (p + i)), .int .i64 (gb l (p + i) % 64), .int .i64 (r * 64 + gb l (p + i) % 64), undef, undef, undef, undef]).getD gj undef, i + 1, r * 64 + gb l (p + i) % 64, rfl, rfl, by omega, by omega, by rw [hpn, ← hr], by omega, by omega, by omega, by omega, by omega, by assumption, by assumption, by assumption⟩
      ·refine tx 34 (.bool false) (by exact ebf (c := (i : Int) < (eL l p)) (by omega)) ?_
       simp only [pp]
       refine rl_end hgo <| hKK35 _ _ <| wp_cond_false (by kernel_rfl) <| wp_exit <| hKK31 _ _ <| wp_seq_k fun KK37 hKK37 => rl_begin fun hgK hgo => tk 48 (.int .i64 r) ?_
       simp only [pp]
       refine tx 49 (.int .i32 r) (by exact ex_i32 (by kernel_rfl) (by omega) (by omega)) <| tk 50 (.int .i64 (eL l p)) <| tk 51 (.agg #[.int .i32 r, .int .i64 (eL l p), .bool true]) ?_
       simp only [pp]
       refine rl_store rb #[.int .i32 r, .int .i64 (eL l p), .bool true] rfl rfl (by kernel_rfl) rfl rfl (by kernel_rfl) hrb rfl (by kernel_rfl) fun w38 hU38 hn38 => ?_
       have hz38 := hU38.size
       clear hA
       replace hB := hB.upd hU38 (by omega)
       clear hrb
       have hrb := hn38
       clear hn38
       try simp only [pp]
       refine rl_end hgo <| hKK37 _ _ ?_
       refine wp_ret ?_
       try simp only [Exit.then, Exit.inBlock]
       refine bp_ret (v := .agg #[.int .i32 r, .int .i64 (eL l p), .bool true]) (res1 rfl (res_cell (b := rb) (cs := [.int .i32 r, .int .i64 (eL l p), .bool true]) (by kernel_rfl) (fun _ => by kernel_rfl) (by kernel_rfl) hrb)) ?_
       exact ⟨by rw [hsw, if_neg (by omega), ← hpr (by omega), hr, show i = eL l p by omega, decide_eq_true (by omega)], hB⟩
     ·refine tx 29 (.bool false) (by exact eqf (x := eL l p) (y := 4) (by omega)) <| tk 28 (.bool false) ?_
      simp only [pp]
      refine rl_end hgo <| hKK30 _ _ <| wp_cond_false (by kernel_rfl) <| wp_skip <| hKK10 _ _ <| wp_seq_k fun KK39 hKK39 => wp_seq_k fun KK40 hKK40 => rl_begin fun hgK hgo => ?_
      (have hl2 : leadR l p = gb l p := by rw [hld, if_neg (by omega), if_neg (by omega), if_neg (by omega)])
      refine tk 7 (.int .i64 1) ?_
      simp only [pp]
      refine rl_end hgo <| hKK40 _ _ <| wp_block ?_
      refine wp_loop_ghost (fun gn ga wl => ∃ (u : Nat → Value) (i : Nat) (r : Int), gn = 5 - i ∧ ga = ⟨#[.slice A l.length c, .int .i64 p, undef, undef, .pointer (some ⟨rb, 0, none⟩), .int .i64 (eL l p), .int .i64 r, .int .i64 i, .slice A l.length c, .int .i64 p, .int .i64 (eL l p), .int .i64 (eL l p), .bool false, undef, .slice A l.length c, .int .i64 p, .pointer (some ⟨ab, ao + p, none⟩), .int .u8 (gb l p), .int .i64 (gb l p), .int .i64 (eL l p), .bool false, .bool false, undef, undef, .bool false, .bool false, undef, undef, .bool false, .bool false, undef, undef, u 32, u 33, u 34, u 35, u 36, u 37, u 38, u 39, u 40, u 41, u 42, u 43, u 44, u 45, u 46, u 47, undef, undef, undef, undef], []⟩ ∧ (1 ≤ i) ∧ (i ≤ eL l p) ∧ (r = partR l p i) ∧ (0 ≤ r) ∧ (i ≤ 1 → r < 256) ∧ (i ≤ 2 → r < 16448) ∧ (i ≤ 3 → r < 1052736) ∧ (r < 67375168) ∧ (Ltr w wl) ∧ (BytesAt wl A l) ∧ (Blk wl rb 158 #[.int .i32 0, .int .i64 0, .bool false])) ((fun (i : Nat) (r : Int) => (5 - i : Nat)) 1 (gb l p)) ?_ ?_
      ·exact ⟨fun gj => (#[.slice A l.length c, .int .i64 p, undef, undef, .pointer (some ⟨rb, 0, none⟩), .int .i64 (eL l p), .int .i64 (gb l p), .int .i64 1, .slice A l.length c, .int .i64 p, .int .i64 (eL l p), .int .i64 (eL l p), .bool false, undef, .slice A l.length c, .int .i64 p, .pointer (some ⟨ab, ao + p, none⟩), .int .u8 (gb l p), .int .i64 (gb l p), .int .i64 (eL l p), .bool false, .bool false, undef, undef, .bool false, .bool false, undef, undef, .bool false, .bool false, undef, undef, undef, undef, undef, undef, undef, undef, undef, undef, undef, undef, undef, undef, undef, undef, undef, undef, undef, undef, undef, undef]).getD gj undef, 1, gb l p, rfl, rfl, Nat.le_refl _, (by omega), (by rw [hp1, hl2]), (by omega), (by omega), (by omega), (by omega), (by omega), by assumption, by assumption, by assumption⟩
      rintro n41 a41 w41 ⟨u, i, r, rfl, rfl, hi1', hi4', hr', hb0', hb1', hb2', hb3', hb4', hB', hA', hrb'⟩
      clear hrb hA hB
      have hi1 := hi1'
      clear hi1'
      have hi4 := hi4'
      clear hi4'
      have hr := hr'
      clear hr'
      have hb0 := hb0'
      clear hb0'
      have hb1 := hb1'
      clear hb1'
      have hb2 := hb2'
      clear hb2'
      have hb3 := hb3'
      clear hb3'
      have hb4 := hb4'
      clear hb4'
      have hB := hB'
      clear hB'
      have hA := hA'
      clear hA'
      have hrb := hrb'
      clear hrb'
      have hlt_hrb_41 := hrb.lt
      refine wp_seq_k fun KK42 hKK42 => wp_seq_k fun KK43 hKK43 => rl_begin fun hgK hgo => tk 32 (.int .i64 i) <| tk 33 (.int .i64 (eL l p)) ?_
      simp only [pp]
      by_cases h5 : (i : Int) < eL l p
      ·refine tx 34 (.bool true) (by exact ebt (c := (i : Int) < (eL l p)) (by omega)) ?_
       simp only [pp]
       refine rl_end hgo <| hKK43 _ _ <| wp_cond_true (by kernel_rfl) <| wp_skip <| hKK42 _ _ <| wp_seq_k fun KK44 hKK44 => wp_block <| rl_begin fun hgK hgo => tk 37 (.int .i64 r) ?_
       simp only [pp]
       refine tx 38 (.int .i64 ((r : Int) * 64)) (by exact ex_arith (e := (r : Int) * 64) (r := (r : Int) * 64) (by kernel_rfl) (by omega) (by omega)) <| tk 39 (.slice A l.length c) <| tk 40 (.int .i64 p) <| tk 41 (.int .i64 i) ?_
       simp only [pp]
       refine tx 42 (.int .i64 (((p + i : Nat) : Int))) (by exact ex_arith (e := (p : Int) + i) (r := ((p + i : Nat) : Int)) (by kernel_rfl) (by omega) (by omega)) ?_
       simp only [pp]
       (obtain ⟨bb, bo, hBe, hbc⟩ := hA (by omega)); (have hj0 := gb_lo l (p + i)); (have hj1 := gb_hi l (p + i)); (have hpn := partR_next l p i hi1)
       refine tx 43 (.pointer (some ⟨bb, bo + (p + i), none⟩)) (by exact ex_indexA (p + i) rfl rfl hBe rfl (by kernel_rfl) (fun _ => by kernel_rfl) (by omega) _) ?_
       simp only [pp]
       refine tx 44 (.int .u8 (gb l (p + i))) (by exact ld1 5 _ rfl bb (bo + (p + i)) rfl (fun _ => by kernel_rfl) _ (hbc (p + i) (by omega))) ?_
       simp only [pp]
       refine tx 45 (.int .i64 (gb l (p + i))) (by exact ex_u8int (by kernel_rfl) hj0 hj1) ?_
       simp only [pp]
       refine tx 46 (.int .i64 (gb l (p + i) % 64)) (by exact ex_mod (gb l (p + i)) 64 rfl rfl rfl (by kernel_rfl) (by omega) hj0 _) ?_
       simp only [pp]
       refine tx 47 (.int .i64 (r * 64 + gb l (p + i) % 64)) (by exact ex_arith (e := (((r : Int) * 64) : Int) + (gb l (p + i) % 64)) (r := r * 64 + gb l (p + i) % 64) (by kernel_rfl) (by omega) (by omega)) <| tk 6 (.int .i64 (r * 64 + gb l (p + i) % 64)) ?_
       simp only [pp]
       refine rl_end hgo <| hKK44 _ _ <| rl_begin fun hgK hgo => tk 35 (.int .i64 i) ?_
       simp only [pp]
       refine tx 36 (.int .i64 (((i + 1 : Nat) : Int))) (by exact ex_arith (e := (i : Int) + 1) (r := ((i + 1 : Nat) : Int)) (by kernel_rfl) (by omega) (by omega)) <| tk 7 (.int .i64 (((i + 1 : Nat) : Int))) ?_
       simp only [pp]
       refine rl_end hgo ?_
       exact ⟨_, (by omega), fun gj => (#[.slice A l.length c, .int .i64 p, undef, undef, .pointer (some ⟨rb, 0, none⟩), .int .i64 (eL l p), .int .i64 (r * 64 + gb l (p + i) % 64), .int .i64 (((i + 1 : Nat) : Int)), .slice A l.length c, .int .i64 p, .int .i64 (eL l p), .int .i64 (eL l p), .bool false, undef, .slice A l.length c, .int .i64 p, .pointer (some ⟨ab, ao + p, none⟩), .int .u8 (gb l p), .int .i64 (gb l p), .int .i64 (eL l p), .bool false, .bool false, undef, undef, .bool false, .bool false, undef, undef, .bool false, .bool false, undef, undef, .int .i64 i, .int .i64 (eL l p), .bool true, .int .i64 i, .int .i64 (((i + 1 : Nat) : Int)), .int .i64 r, .int .i64 ((r : Int) * 64), .slice A l.length c, .int .i64 p, .int .i64 i, .int .i64 (((p + i : Nat) : Int)), .pointer (some ⟨bb, bo + (p + i), none⟩), .int .u8 (gb l (p + i)), .int .i64 (gb l (p + i)), .int .i64 (gb l (p + i) % 64), .int .i64 (r * 64 + gb l (p + i) % 64), undef, undef, undef, undef]).getD gj undef, i + 1, r * 64 + gb l (p + i) % 64, rfl, rfl, by omega, by omega, by rw [hpn, ← hr], by omega, by omega, by omega, by omega, by omega, by assumption, by assumption, by assumption⟩
      ·refine tx 34 (.bool false) (by exact ebf (c := (i : Int) < (eL l p)) (by omega)) ?_
       simp only [pp]
       refine rl_end hgo <| hKK43 _ _ <| wp_cond_false (by kernel_rfl) <| wp_exit <| hKK39 _ _ <| wp_seq_k fun KK45 hKK45 => rl_begin fun hgK hgo => tk 48 (.int .i64 r) ?_
       simp only [pp]
       refine tx 49 (.int .i32 r) (by exact ex_i32 (by kernel_rfl) (by omega) (by omega)) <| tk 50 (.int .i64 (eL l p)) <| tk 51 (.agg #[.int .i32 r, .int .i64 (eL l p), .bool true]) ?_
       simp only [pp]
       refine rl_store rb #[.int .i32 r, .int .i64 (eL l p), .bool true] rfl rfl (by kernel_rfl) rfl rfl (by kernel_rfl) hrb rfl (by kernel_rfl) fun w46 hU46 hn46 => ?_
       have hz46 := hU46.size
       clear hA
       replace hB := hB.upd hU46 (by omega)
       clear hrb
       have hrb := hn46
       clear hn46
       try simp only [pp]
       refine rl_end hgo <| hKK45 _ _ ?_
       refine wp_ret ?_
       try simp only [Exit.then, Exit.inBlock]
       refine bp_ret (v := .agg #[.int .i32 r, .int .i64 (eL l p), .bool true]) (res1 rfl (res_cell (b := rb) (cs := [.int .i32 r, .int .i64 (eL l p), .bool true]) (by kernel_rfl) (fun _ => by kernel_rfl) (by kernel_rfl) hrb)) ?_
       exact ⟨by rw [hsw, if_neg (by omega), ← hpr (by omega), hr, show i = eL l p by omega, decide_eq_true (by omega)], hB⟩
end Go.Proofs.YtliphfgiaioebaaDoor
namespace Go.Proofs.YtliphfgiaioebaaDoor
set_option linter.unusedVariables false
set_option linter.unusedSimpArgs false
open Go.RowKit
set_option maxRecDepth 100000
set_option maxHeartbeats 16000000
def edges (l : List UInt8) (k : Nat) : List Nat := (List.range k).filter (edgeB l)
def ints (es : List Nat) : List Value := es.map fun (q : Nat) => .int .i64 (q : Int)
theorem edges_in {l : List UInt8} {p : Nat} (h : edgeB l p = true) : edges l (p + 1) = edges l p ++ [p] := by unfold edges; rw [List.range_succ, List.filter_append]; simp [h]
theorem edges_out {l : List UInt8} {p : Nat} (h : edgeB l p = false) : edges l (p + 1) = edges l p := by unfold edges; rw [List.range_succ, List.filter_append]; simp [h]
theorem edges_len (l : List UInt8) (p : Nat) : (edges l p).length ≤ p := by
  have := List.length_filter_le (edgeB l) (List.range p)
  rwa [List.length_range] at this
theorem edges_lt {l : List UInt8} {p q : Nat} (h : q ∈ edges l p) : q < p := List.mem_range.1 (List.mem_filter.1 h).1
theorem edge_end (l : List UInt8) : edgeB l l.length = true := by
  rw [edgeB_iff]
  intro q hq
  have := eL_le l q
  omega
theorem ints_snoc (es : List Nat) (p : Nat) : ints (es ++ [p]) = ints es ++ [.int .i64 (p : Int)] := by unfold ints; simp
theorem ints_len (es : List Nat) : (ints es).length = es.length := by simp [ints]
def EdgesP (l : List UInt8) (w : World) (e : Ending) (w' : World) : Prop := ∃ A c, e = .returned (.slice A (edges l (l.length + 1)).length c) ∧ Ltr w w' ∧ Own w.heap.size 3 w' (.slice A (edges l (l.length + 1)).length c) (ints (edges l (l.length + 1)))
theorem Edges_any (A : Option Addr) (c : Nat) (l : List UInt8) (w : World) (hA : BytesAt w A l) (hc : l.length ≤ c) (hm : l.length ≤ 300000000) :
    Calls Tryd.prog 117 #[.slice A l.length c] w (EdgesP l w) := by
  have hB := Ltr.refl w
  replace hA := hA.n
  go_enter Tryd.func117, Tryd.ntmps117
  refine wp_seq_k fun KK1 hKK1 => rl_begin fun hgK hgo => tk 2 (.slice none 0 0) ?_
  simp only [pp]
  refine rl_end hgo <| hKK1 _ _ <| wp_seq_k fun KK2 hKK2 => rl_begin fun hgK hgo => tk 3 (.slice none 0 0) ?_
  simp only [pp]
  refine rl_end hgo <| hKK2 _ _ <| wp_seq_k fun KK3 hKK3 => wp_seq_k fun KK4 hKK4 => rl_begin fun hgK hgo => tk 4 (.int .i64 0) ?_
  simp only [pp]
  refine rl_end hgo <| hKK4 _ _ <| wp_block ?_
  refine wp_loop_ghost (fun gn ga wl => ∃ (u : Nat → Value) (p : Nat) (A9 : Option Addr) (c9 : Nat), gn = l.length + 1 - p ∧ ga = ⟨#[.slice A l.length c, undef, .slice none 0 0, .slice A9 (edges l p).length c9, .int .i64 p, u 5, u 6, u 7, u 8, u 9, u 10, u 11, u 12, u 13, u 14, u 15, u 16, u 17, u 18, undef], []⟩ ∧ (p ≤ l.length + 1) ∧ (Ltr w wl) ∧ (BytesN w.heap.size wl A l) ∧ (Own w.heap.size 3 wl (.slice A9 (edges l p).length c9) (ints (edges l p)))) ((fun (p : Nat) (A9 : Option Addr) (c9 : Nat) => (l.length + 1 - p : Nat)) 0 none 0) ?_ ?_
  ·exact ⟨fun gj => (#[.slice A l.length c, undef, .slice none 0 0, .slice none 0 0, .int .i64 0, undef, undef, undef, undef, undef, undef, undef, undef, undef, undef, undef, undef, undef, undef, undef]).getD gj undef, 0, none, 0, rfl, rfl, Nat.zero_le _, by assumption, by assumption, Own.nil _ _ _ (by omega)⟩
  rintro n5 a5 w5 ⟨u, p, A9, c9, rfl, rfl, hpl', hB', hA', hO'⟩
  clear hA hB
  have hpl := hpl'
  clear hpl'
  have hB := hB'
  clear hB'
  have hA := hA'
  clear hA'
  have hO := hO'
  clear hO'
  refine wp_seq_k fun KK6 hKK6 => wp_seq_k fun KK7 hKK7 => rl_begin fun hgK hgo => tk 5 (.int .i64 p) <| tk 6 (.slice A l.length c) <| tk 7 (.int .i64 l.length) ?_
  simp only [pp]
  by_cases h1 : (p : Int) ≤ l.length
  ·refine tx 8 (.bool true) (by exact ebt (c := (p : Int) ≤ l.length) (by omega)) ?_
   simp only [pp]
   refine rl_end hgo <| hKK7 _ _ <| wp_cond_true (by kernel_rfl) <| wp_skip <| hKK6 _ _ <| wp_seq_k fun KK8 hKK8 => wp_block <| wp_seq_k fun KK9 hKK9 => rl_begin fun hgK hgo => tk 11 (.slice A l.length c) <| tk 12 (.int .i64 p) ?_
   simp only [pp]
   refine rl_call (some 13) 128 #[.slice A l.length c, .int .i64 p] rfl (by kernel_rfl) (by kernel_rfl) (Inside_alt A c l p _ hA.at hc (by omega)) ?_
   rintro e w10 (⟨rfl, he, hL10⟩ | ⟨rfl, he, hL10⟩)
   ·refine ⟨_, rfl, ?_⟩
    have hz10 := hL10.size
    try simp only [pp]
    refine tk 14 (.bool false) ?_
    simp only [pp]
    refine rl_end hgo <| hKK9 _ _ <| wp_cond_false (by kernel_rfl) <| wp_skip <| hKK8 _ _ <| rl_begin fun hgK hgo => ?_
    replace hO := hO.later hL10
    (have hee := edges_out he); (rw [← hee] at hO); rw [← hee]
    refine tk 9 (.int .i64 p) ?_
    simp only [pp]
    refine tx 10 (.int .i64 (((p + 1 : Nat) : Int))) (by exact ex_arith (e := (p : Int) + 1) (r := ((p + 1 : Nat) : Int)) (by kernel_rfl) (by omega) (by omega)) <| tk 4 (.int .i64 (((p + 1 : Nat) : Int))) ?_
    simp only [pp]
    refine rl_end hgo ?_
    replace hB := hB.later hL10
    replace hA := hA.later hL10
    exact ⟨_, (by omega), fun gj => (#[.slice A l.length c, undef, .slice none 0 0, .slice A9 (edges l (p + 1)).length c9, .int .i64 (((p + 1 : Nat) : Int)), .int .i64 p, .slice A l.length c, .int .i64 l.length, .bool true, .int .i64 p, .int .i64 (((p + 1 : Nat) : Int)), .slice A l.length c, .int .i64 p, .bool true, .bool false, u 15, u 16, u 17, u 18, undef]).getD gj undef, p + 1, A9, c9, rfl, rfl, by omega, by assumption, by assumption, by assumption⟩
   ·refine ⟨_, rfl, ?_⟩
    have hz10 := hL10.size
    try simp only [pp]
    refine tk 14 (.bool true) ?_
    simp only [pp]
    refine rl_end hgo <| hKK9 _ _ <| wp_cond_true (by kernel_rfl) <| rl_begin fun hgK hgo => tk 15 (.slice A9 (edges l p).length c9) <| tk 16 (.int .i64 p) ?_
    simp only [pp]
    refine rl_bslice (some 17) 3 #[.int .i64 p] 1 rfl (by kernel_rfl) (fun W => by kernel_rfl) fun z w11 hL11 hp11 hz => ?_
    have hz11 := hL11.size
    have hlt11 := hz.lt
    try simp only [pp]
    replace hO := (hO.later hL10).later hL11
    have hrow12 := hO.row
    refine rl_appendF (z := .int .i64 0) (bytes := 8) (ys := [.int .i64 p]) (zs := ints (edges l (p + 1))) (k := 1) (n' := (edges l (p + 1)).length) (some 18) rfl (by kernel_rfl) rfl rfl rfl (by kernel_rfl) (by kernel_rfl) (by kernel_rfl) hO (cells_one hz) (by rfl) (by (rw [edges_in he, ints_snoc])) (by rw [ints_len]) (fun h => by cases h) ((by simp [Value.oneCell'])) (by (have := edges_len l p; rw [ints_len]; simp only [List.length_cons, List.length_nil]; omega)) (by (have := edges_len l p; rw [ints_len]; simp only [List.length_cons, List.length_nil]; omega)) fun A5 c5 w12 ho12 hG12 => ?_
    replace hB := (hB.later hL10).later hL11
    replace hB := hB.gr hG12 (fun k hk => by have := hrow12 k hk; omega)
    replace hA := (hA.later hL10).later hL11
    replace hA := hA.gr hG12 (fun k hk => by have := hrow12 k hk; omega)
    clear hz
    clear hO
    have hO := ho12
    clear ho12
    have hz12 := hG12.size
    try simp only [pp]
    refine tk 3 (.slice A5 ((edges l (p + 1)).length) c5) ?_
    simp only [pp]
    refine rl_end hgo <| hKK8 _ _ <| rl_begin fun hgK hgo => tk 9 (.int .i64 p) ?_
    simp only [pp]
    refine tx 10 (.int .i64 (((p + 1 : Nat) : Int))) (by exact ex_arith (e := (p : Int) + 1) (r := ((p + 1 : Nat) : Int)) (by kernel_rfl) (by omega) (by omega)) <| tk 4 (.int .i64 (((p + 1 : Nat) : Int))) ?_
    simp only [pp]
    refine rl_end hgo ?_
    exact ⟨_, (by omega), fun gj => (#[.slice A l.length c, undef, .slice none 0 0, .slice A5 ((edges l (p + 1)).length) c5, .int .i64 (((p + 1 : Nat) : Int)), .int .i64 p, .slice A l.length c, .int .i64 l.length, .bool true, .int .i64 p, .int .i64 (((p + 1 : Nat) : Int)), .slice A l.length c, .int .i64 p, .bool false, .bool true, .slice A9 (edges l p).length c9, .int .i64 p, .slice (some ⟨z, 0, none⟩) 1 1, .slice A5 ((edges l (p + 1)).length) c5, undef]).getD gj undef, p + 1, A5, c5, rfl, rfl, by omega, by assumption, by assumption, by assumption⟩
  ·refine tx 8 (.bool false) (by exact ebf (c := (p : Int) ≤ l.length) (by omega)) ?_
   simp only [pp]
   refine rl_end hgo <| hKK7 _ _ <| wp_cond_false (by kernel_rfl) <| wp_exit <| hKK3 _ _ <| wp_seq_k fun KK13 hKK13 => rl_begin fun hgK hgo => tk 19 (.slice A9 (edges l p).length c9) <| tk 2 (.slice A9 (edges l p).length c9) ?_
   simp only [pp]
   refine rl_end hgo <| hKK13 _ _ ?_
   refine wp_ret ?_
   try simp only [Exit.then, Exit.inBlock]
   refine bp_ret (v := .slice A9 (edges l p).length c9) (res1 rfl (res_tmp (by kernel_rfl))) ?_
   exact ⟨A9, c9, by rw [show p = l.length + 1 by omega], hB, by rw [show l.length + 1 = p by omega]; exact hO⟩
/-! ### slices of steps -/
def stp (l : List UInt8) (q : Nat) : List Value := [.int .i32 (runeOf (l.drop q)), .int .i64 (stepW (l.drop q)), .bool (decide (eL l q ≠ 0))]
def stps (l : List UInt8) (es : List Nat) : List Value := es.flatMap (stp l)
theorem stps_snoc (l : List UInt8) (es : List Nat) (q : Nat) : stps l (es ++ [q]) = stps l es ++ stp l q := by unfold stps; simp
theorem stps_len (l : List UInt8) : ∀ es : List Nat, (stps l es).length = es.length * 3
  | [] => rfl
  | q :: es => by
    have := stps_len l es
    unfold stps at *
    rw [List.flatMap_cons, List.length_append, this, List.length_cons]
    simp only [stp, List.length_cons, List.length_nil]; omega
def Own3 (n : Nat) (E : TypeId) (w : World) (v : Value) (m : Nat) (xs : List Value) : Prop := n ≤ w.heap.size ∧ w.ownsRow n E 3 v m xs
theorem Own3.later {n m : Nat} {E : TypeId} {w w' : World} {v : Value} {xs : List Value} (h : Own3 n E w v m xs) (hl : Ltr w w') : Own3 n E w' v m xs :=
  ⟨Nat.le_trans h.1 hl.size, h.2.kept hl.grown (by cases hv : v.ownBlock <;> simp)⟩
theorem Own3.nil (n : Nat) (E : TypeId) (w : World) (h : n ≤ w.heap.size) : Own3 n E w (.slice none 0 0) 0 [] := ⟨h, World.ownsRow_nil w n E 3⟩
theorem Own.gr3 {n m k : Nat} {E F : TypeId} {w w' : World} {v u : Value} {xs ys : List Value} (q : Own m F w u ys) (hg : w.grownBy w' v.ownBlock) (hh : Own3 n E w v k xs ∧ E ≠ F) : Own m F w' u ys := by
  refine ⟨Nat.le_trans q.1 hg.size, q.2.kept hg ?_⟩
  rcases q.2.2 with ⟨rfl, -⟩ | ⟨g, cap, cur, rfl, -, hb, -⟩
  · cases hv : v.ownBlock with
    | none => exact .inl rfl
    | some k => exact .inr (by simp [Value.ownBlock])
  · refine .inr fun e => ?_
    rcases hh.1.2.2 with ⟨rfl, -⟩ | ⟨g', cap', cur', rfl, -, hb', -⟩
    · simp [Value.ownBlock] at e
    · obtain rfl : g = g' := by simpa [Value.ownBlock] using e
      rw [hb] at hb'; cases hb'; exact hh.2 rfl
theorem Own3.cells {n m k c : Nat} {E : TypeId} {w : World} {A : Option Addr} {xs : List Value} (h : Own3 n E w (.slice A k c) m xs) : CellsAt w A xs := by
  rcases h.2.2 with ⟨e, h0⟩ | ⟨g, cap, cur, e, hb, hg, hc, hm, hs, ht⟩
  · intro h1
    have := h.2.1
    rw [h0] at this; omega
  · cases e
    exact fun _ => ⟨g, 0, rfl, fun i v hi => by
      rw [Nat.zero_add, cell_of_row w g i cur E (0, 0) hg]
      rw [← ht, List.getElem?_take] at hi
      split at hi
      · simpa using hi
      · cases hi⟩
theorem Own3.len {n m k c : Nat} {E : TypeId} {w : World} {A : Option Addr} {xs : List Value} (h : Own3 n E w (.slice A k c) m xs) : k = m := by
  rcases h.2.2 with ⟨e, h0⟩ | ⟨g, cap, cur, e, -⟩
  · cases e; exact h0.symm
  · cases e; rfl
theorem ex_append3 {o : Oper} {ρ : Operand → Value} {s x : Operand} {t E : TypeId} {z : Value} {bytes : Nat} (ho : o.op = .call { callee := .builtin .append, args := #[s, x], argTypes := #[t, t] }) {n m p : Nat} {v : Value} {xs ys : List Value} (hs : ρ s = v) (hx : ρ x = .slice (some ⟨p, 0, none⟩) 1 1)
    (ht : Tryd.prog.underlying t = some (.slice E)) (hi : (Tryd.prog.info? E).map (fun i => (i.zero, i.size, i.bytes)) = some (some z, 3, bytes)) (hz : z.cells.size = 3) {w : World} (hown : Own3 n E w v m xs) {F : TypeId} (hp : Blk w p F ys.toArray) (hl : ys.length = 3) (h1 : ∀ u ∈ ys, u.oneCell' = true)
    (hb : (m + 1) * bytes ≤ 140737488355328) (hm : m + 1 ≤ 140737488355328) :
    ∃ v' w', (execOp ρ o).run Tryd.prog w = .ok (.value v') w' ∧ ∃ A c, v' = .slice A (m + 1) c ∧ Own3 n E w' (.slice A (m + 1) c) (m + 1) (xs ++ ys) ∧ w.grownBy w' v.ownBlock := by
  obtain ⟨i, hi', hz0, hsz, hby⟩ := info_parts hi
  obtain ⟨v', w', hr, h2, h3, _, h5⟩ := run_append_own_at (P := Tryd.prog) w n t o.type E i z 3 bytes ht hi' hz0 hsz hby hz (by decide) v m xs hown.2 ⟨p, 0, none⟩ 1 1 ys (by rw [hl])
    (fun j u hu => by rw [add_none, Nat.zero_add]; have := hp.cell j; rw [List.getElem?_toArray] at this; rw [this]; exact hu) h1 (by unfold maxLen; omega) hb hown.1
  have hf : ∃ A c, v' = .slice A (m + 1) c := by
    rcases h2.2 with ⟨e, h0⟩ | ⟨g, cap, cur, e, -⟩
    · omega
    · exact ⟨_, _, e⟩
  obtain ⟨A, c, rfl⟩ := hf
  refine ⟨_, w', ?_, A, c, rfl, ⟨Nat.le_trans hown.1 h3.size, h2⟩, h3⟩
  unfold execOp
  simp only [ho, resolve, invoke, builtin, Sem.run_bind, Sem.run_pure, Result.andThen_ok, List.map_toArray, List.map_cons, List.map_nil, hs, hx, hr]
theorem Own3.row {n m : Nat} {E : TypeId} {w : World} {v : Value} {xs : List Value} (h : Own3 n E w v m xs) : ∀ k, v.ownBlock = some k → n ≤ k ∧ k < w.heap.size := h.2.lt
/-- cells in a block at or above n -/
def CellsU (n : Nat) (w : World) (A : Option Addr) (xs : List Value) : Prop := CellsAt w A xs ∧ ∀ a, A = some a → n ≤ a.block
theorem CellsU.later {n : Nat} {w w' : World} {A : Option Addr} {xs : List Value} (h : CellsU n w A xs) (hl : Ltr w w') : CellsU n w' A xs := ⟨h.1.later hl, h.2⟩
theorem CellsU.upd {n g : Nat} {w w' : World} {A : Option Addr} {xs : List Value} (h : CellsU n w A xs) (hu : Upd g w w') (hg : g < n) : CellsU n w' A xs := ⟨fun h0 => by
  obtain ⟨b, off, e, hc⟩ := h.1 h0
  have := h.2 _ e
  simp only at this
  exact ⟨b, off, e, fun i v hi => (World.cell?_of_block (w := w) (a := ⟨b, off + i, none⟩) (hu.block b (by omega))).trans (hc i v hi)⟩, h.2⟩
def StepsP (l : List UInt8) (w : World) (e : Ending) (w' : World) : Prop := ∃ A c N, e = .returned (.slice A (edges l l.length).length c) ∧ Ltr w w' ∧ N = w.heap.size ∧ CellsU N w' A (stps l (edges l l.length))
theorem take_one {es : List Nat} {i q : Nat} (h : es[i]? = some q) : es.take (i + 1) = es.take i ++ [q] := by
  rw [List.take_add_one, h]; rfl
theorem Steps_any (A : Option Addr) (c : Nat) (l : List UInt8) (w : World) (hA : BytesAt w A l) (hc : l.length ≤ c) (hm : l.length ≤ 300000000) :
    Calls Tryd.prog 93 #[.slice A l.length c] w (StepsP l w) := by
  have hB := Ltr.refl w
  replace hA := hA.n
  have hel : edges l (l.length + 1) = edges l l.length ++ [l.length] := edges_in (edge_end l)
  have hell : (edges l (l.length + 1)).length = (edges l l.length).length + 1 := by rw [hel, List.length_append]; rfl
  have hen := edges_len l l.length
  go_enter Tryd.func93, Tryd.ntmps93
  refine wp_seq_k fun KK1 hKK1 => rl_begin fun hgK hgo => tk 2 (.slice none 0 0) ?_
  simp only [pp]
  refine rl_end hgo <| hKK1 _ _ <| wp_seq_k fun KK2 hKK2 => rl_begin fun hgK hgo => tk 3 (.slice none 0 0) ?_
  simp only [pp]
  refine rl_end hgo <| hKK2 _ _ <| wp_seq_k fun KK3 hKK3 => rl_begin fun hgK hgo => tk 6 (.slice A l.length c) ?_
  simp only [pp]
  refine rl_call (some 7) 117 #[.slice A l.length c] rfl (by kernel_rfl) (by kernel_rfl) (Edges_any A c l _ hA.at hc hm) ?_
  rintro e w4 ⟨E1, e1, rfl, hL4, hE⟩
  refine ⟨_, rfl, ?_⟩
  have hz4 := hL4.size
  (replace hE := hE.mono (m := w.heap.size) (by omega))
  try simp only [pp]
  refine tk 4 (.slice E1 (edges l (l.length + 1)).length e1) ?_
  simp only [pp]
  refine rl_end hgo <| hKK3 _ _ <| wp_seq_k fun KK5 hKK5 => wp_seq_k fun KK6 hKK6 => rl_begin fun hgK hgo => tk 5 (.int .i64 0) ?_
  simp only [pp]
  refine rl_end hgo <| hKK6 _ _ <| wp_block ?_
  replace hB := hB.later hL4
  replace hA := hA.later hL4
  refine wp_loop_ghost (fun gn ga wl => ∃ (u : Nat → Value) (i : Nat) (A9 : Option Addr) (c9 : Nat), gn = (edges l l.length).length - i ∧ ga = ⟨#[.slice A l.length c, undef, .slice none 0 0, .slice A9 i c9, .slice E1 (edges l (l.length + 1)).length e1, .int .i64 i, .slice A l.length c, .slice E1 (edges l (l.length + 1)).length e1, u 8, u 9, u 10, u 11, u 12, u 13, u 14, u 15, u 16, u 17, u 18, u 19, u 20, u 21, u 22, u 23, undef], []⟩ ∧ (i ≤ (edges l l.length).length) ∧ (Ltr w wl) ∧ (BytesN w.heap.size wl A l) ∧ (Own w.heap.size 3 wl (.slice E1 (edges l (l.length + 1)).length e1) (ints (edges l (l.length + 1)))) ∧ (Own3 w.heap.size 158 wl (.slice A9 i c9) i (stps l ((edges l l.length).take i)))) ((fun (i : Nat) (A9 : Option Addr) (c9 : Nat) => ((edges l l.length).length - i : Nat)) 0 none 0) ?_ ?_
  ·exact ⟨fun gj => (#[.slice A l.length c, undef, .slice none 0 0, .slice none 0 0, .slice E1 (edges l (l.length + 1)).length e1, .int .i64 0, .slice A l.length c, .slice E1 (edges l (l.length + 1)).length e1, undef, undef, undef, undef, undef, undef, undef, undef, undef, undef, undef, undef, undef, undef, undef, undef, undef]).getD gj undef, 0, none, 0, rfl, rfl, Nat.zero_le _, by assumption, by assumption, by assumption, Own3.nil _ _ _ (by omega)⟩
  rintro n7 a7 w7 ⟨u, i, A9, c9, rfl, rfl, hil', hB', hA', hE', hS'⟩
  clear hE hA hB
  have hil := hil'
  clear hil'
  have hB := hB'
  clear hB'
  have hA := hA'
  clear hA'
  have hE := hE'
  clear hE'
  have hS := hS'
  clear hS'
  refine wp_seq_k fun KK8 hKK8 => wp_seq_k fun KK9 hKK9 => rl_begin fun hgK hgo => tk 8 (.int .i64 i) ?_
  simp only [pp]
  refine tx 9 (.int .i64 (((i + 1 : Nat) : Int))) (by exact ex_arith (e := (i : Int) + 1) (r := ((i + 1 : Nat) : Int)) (by kernel_rfl) (by omega) (by omega)) <| tk 10 (.slice E1 (edges l (l.length + 1)).length e1) <| tk 11 (.int .i64 (edges l (l.length + 1)).length) ?_
  simp only [pp]
  by_cases h1 : ((i + 1 : Nat) : Int) < (edges l (l.length + 1)).length
  ·refine tx 12 (.bool true) (by exact ex_bool (c := (((i + 1 : Nat) : Int) : Int) < ((edges l (l.length + 1)).length)) (by kernel_rfl) ⟨fun _ => by omega, fun _ => rfl⟩) ?_
   simp only [pp]
   refine rl_end hgo <| hKK9 _ _ <| wp_cond_true (by kernel_rfl) <| wp_skip <| hKK8 _ _ <| wp_seq_k fun KK10 hKK10 => wp_block <| rl_begin fun hgK hgo => tk 15 (.slice A9 i c9) <| tk 16 (.slice A l.length c) <| tk 17 (.slice E1 (edges l (l.length + 1)).length e1) <| tk 18 (.int .i64 i) ?_
   simp only [pp]
   (obtain ⟨eb, eo, hEe, hec⟩ := hE.cells (by rw [ints_len]; omega)); (obtain ⟨q, hq⟩ : ∃ q, (edges l l.length)[i]? = some q := ⟨_, List.getElem?_eq_getElem (by omega)⟩); (have hql := edges_lt (List.mem_of_getElem? hq)); (have hqi : (ints (edges l (l.length + 1)))[i]? = some (.int .i64 (q : Int)) := by unfold ints; rw [List.getElem?_map, hel, List.getElem?_append_left (by omega), hq]; rfl)
   refine tx 19 (.pointer (some ⟨eb, eo + i, none⟩)) (by exact ex_indexA i rfl rfl hEe rfl (by kernel_rfl) (fun _ => by kernel_rfl) (by omega) _) ?_
   simp only [pp]
   refine tx 20 (.int .i64 q) (by exact ld1 3 _ rfl eb (eo + i) rfl (fun _ => by kernel_rfl) _ (hec i _ hqi)) ?_
   simp only [pp]
   refine rl_call (some 21) 118 #[.slice A l.length c, .int .i64 q] rfl (by kernel_rfl) (by kernel_rfl) (Of_any' A c l q _ hA.at hc hql (by omega)) ?_
   rintro e w11 ⟨rfl, hL11⟩
   refine ⟨_, rfl, ?_⟩
   have hz11 := hL11.size
   try simp only [pp]
   refine rl_bslice (some 22) 158 #[.int .i32 (runeOf (l.drop q)), .int .i64 (stepW (l.drop q)), .bool (decide (eL l q ≠ 0))] 1 rfl (by kernel_rfl) (fun W => by kernel_rfl) fun z w12 hL12 hp12 hz => ?_
   have hz12 := hL12.size
   have hlt12 := hz.lt
   try simp only [pp]
   replace hS := (hS.later hL11).later hL12
   have hrow13 := hS.row
   refine rl_new (some 23) rfl (by kernel_rfl) (ex_append3 (E := 158) (z := .agg #[.int .i32 0, .int .i64 0, .bool false]) (bytes := 24) rfl rfl rfl (by kernel_rfl) (by kernel_rfl) (by kernel_rfl) hS (ys := stp l q) hz rfl (by unfold stp; simp [Value.oneCell']) (by omega) (by omega)) ?_
   rintro v13 w13 ⟨A5, c5, rfl, hS2, hG13⟩
   replace hB := (hB.later hL11).later hL12
   replace hB := hB.gr hG13 (fun k hk => by have := hrow13 k hk; omega)
   replace hA := (hA.later hL11).later hL12
   replace hA := hA.gr hG13 (fun k hk => by have := hrow13 k hk; omega)
   replace hE := (hE.later hL11).later hL12
   replace hE := hE.gr3 hG13 (⟨hS, by decide⟩)
   have hz13 := hG13.size
   (replace hS := hS2); (rw [← stps_snoc, ← take_one hq] at hS)
   try simp only [pp]
   refine tk 3 (.slice A5 (i + 1) c5) ?_
   simp only [pp]
   refine rl_end hgo <| hKK10 _ _ <| rl_begin fun hgK hgo => tk 13 (.int .i64 i) ?_
   simp only [pp]
   refine tx 14 (.int .i64 (((i + 1 : Nat) : Int))) (by exact ex_arith (e := (i : Int) + 1) (r := ((i + 1 : Nat) : Int)) (by kernel_rfl) (by omega) (by omega)) <| tk 5 (.int .i64 (((i + 1 : Nat) : Int))) ?_
   simp only [pp]
   refine rl_end hgo ?_
   exact ⟨_, (by omega), fun gj => (#[.slice A l.length c, undef, .slice none 0 0, .slice A5 (i + 1) c5, .slice E1 (edges l (l.length + 1)).length e1, .int .i64 (((i + 1 : Nat) : Int)), .slice A l.length c, .slice E1 (edges l (l.length + 1)).length e1, .int .i64 i, .int .i64 (((i + 1 : Nat) : Int)), .slice E1 (edges l (l.length + 1)).length e1, .int .i64 (edges l (l.length + 1)).length, .bool true, .int .i64 i, .int .i64 (((i + 1 : Nat) : Int)), .slice A9 i c9, .slice A l.length c, .slice E1 (edges l (l.length + 1)).length e1, .int .i64 i, .pointer (some ⟨eb, eo + i, none⟩), .int .i64 q, .agg #[.int .i32 (runeOf (l.drop q)), .int .i64 (stepW (l.drop q)), .bool (decide (eL l q ≠ 0))], .slice (some ⟨z, 0, none⟩) 1 1, .slice A5 (i + 1) c5, undef]).getD gj undef, i + 1, A5, c5, rfl, rfl, by omega, by assumption, by assumption, by assumption, by assumption⟩
  ·refine tx 12 (.bool false) (by exact ex_bool (c := (((i + 1 : Nat) : Int) : Int) < ((edges l (l.length + 1)).length)) (by kernel_rfl) ⟨fun q => (by cases q), fun q => absurd q (by omega)⟩) ?_
   simp only [pp]
   refine rl_end hgo <| hKK9 _ _ <| wp_cond_false (by kernel_rfl) <| wp_exit <| hKK5 _ _ <| wp_seq_k fun KK14 hKK14 => rl_begin fun hgK hgo => tk 24 (.slice A9 i c9) <| tk 2 (.slice A9 i c9) ?_
   simp only [pp]
   refine rl_end hgo <| hKK14 _ _ ?_
   refine wp_ret ?_
   try simp only [Exit.then, Exit.inBlock]
   refine bp_ret (v := .slice A9 i c9) (res1 rfl (res_tmp (by kernel_rfl))) ?_
   exact ⟨A9, c9, _, by rw [show i = (edges l l.length).length by omega], hB, rfl, by have := hS.cells; rwa [List.take_of_length_le (by omega)] at this, fun a ha => (hS.row a.block (by rw [ha]; rfl)).1⟩
theorem units_ref (r wd : Int) (b : Bool) (w : World) : Calls Tryd.prog 94 #[.agg #[.int .i32 r, .int .i64 wd, .bool b]] w fun e w' => e = .returned (.int .i64 (unitsOf r)) ∧ Ltr w w' := by
  have hB := Ltr.refl w
  go_enter Tryd.func94, Tryd.ntmps94
  refine wp_seq_k fun KK1 hKK1 => rl_begin fun hgK hgo => ?_
  refine rl_alloc (some 1) 158 #[.int .i32 r, .int .i64 wd, .bool b] rfl (by kernel_rfl) (fun W => by kernel_rfl) fun p w2 hL2 hp2 hp => ?_
  have hz2 := hL2.size
  have hlt2 := hp.lt
  try simp only [pp]
  refine tk 2 (.int .i64 0) ?_
  simp only [pp]
  refine rl_end hgo <| hKK1 _ _ <| wp_seq_k fun KK3 hKK3 => wp_seq_k fun KK4 hKK4 => rl_begin fun hgK hgo => tk 3 (.pointer (some ⟨p, 0, none⟩)) ?_
  simp only [pp]
  refine tx 4 (.int .i32 r) (by exact ld 21 p 0 (hp.cell 0)) ?_
  simp only [pp]
  replace hB := hB.later hL2
  by_cases h : r > 65535
  ·refine tx 5 (.bool true) (by exact ebt (c := (r : Int) > 65535) (by omega)) ?_
   simp only [pp]
   refine rl_end hgo <| hKK4 _ _ <| wp_cond_true (by kernel_rfl) <| wp_seq_k fun KK5 hKK5 => rl_begin fun hgK hgo => tk 2 (.int .i64 2) ?_
   simp only [pp]
   refine rl_end hgo <| hKK5 _ _ ?_
   refine wp_ret ?_
   try simp only [Exit.then, Exit.inBlock]
   refine bp_ret (v := .int .i64 2) (res1 rfl (res_tmp (by kernel_rfl))) ?_
   exact ⟨ret_int (by unfold unitsOf; rw [if_pos (by omega)]), hB⟩
  ·refine tx 5 (.bool false) (by exact ebf (c := (r : Int) > 65535) (by omega)) ?_
   simp only [pp]
   refine rl_end hgo <| hKK4 _ _ <| wp_cond_false (by kernel_rfl) <| wp_skip <| hKK3 _ _ <| wp_seq_k fun KK6 hKK6 => rl_begin fun hgK hgo => tk 2 (.int .i64 1) ?_
   simp only [pp]
   refine rl_end hgo <| hKK6 _ _ ?_
   refine wp_ret ?_
   try simp only [Exit.then, Exit.inBlock]
   refine bp_ret (v := .int .i64 1) (res1 rfl (res_tmp (by kernel_rfl))) ?_
   exact ⟨ret_int (by unfold unitsOf; rw [if_neg (by omega)]), hB⟩
end Go.Proofs.YtliphfgiaioebaaDoor
