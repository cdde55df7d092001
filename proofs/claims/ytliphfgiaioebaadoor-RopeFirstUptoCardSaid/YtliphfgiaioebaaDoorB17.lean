/-
  Law 9: lasting; First of lasting functions.
-/
import Derived.Test.YtliphfgiaioebaaDoorB16
namespace Go.Proofs.YtliphfgiaioebaaDoor
set_option linter.unusedVariables false
set_option linter.unusedSimpArgs false
open Go.RowKit
theorem ex_sidx {o : Oper} {ρ : Operand → Value} {ty : TypeId} {x y : Operand} (l : List UInt8) (i : Nat) (ho : o.op = .index ty x y) (hx : ρ x = .string (bs l)) (hy : ρ y = .int .i64 (i : Int)) (hu : Tryd.prog.underlying ty = some .string) (hi : i < l.length) (w : World) :
    (execOp ρ o).run Tryd.prog w = .ok (.value (.int .u8 (gb l i))) w := by
  have hs : i < (bs l).size := by rw [bs_size]; exact hi
  have hg := bs_get' l i hs
  have h1 : (0 : Int) ≤ (i : Int) ∧ (i : Int) < (bs l).size := by omega
  have hr := run_index_string (P := Tryd.prog) (w := w) ty (bs l) .i64 (i : Int) hu
  rw [dif_pos h1] at hr
  simp only [Int.toNat_natCast, hg] at hr
  unfold execOp
  simp only [ho, hx, hy, Sem.run_bind, hr, Result.andThen_ok, Sem.run_pure]
theorem last_ex (l : List UInt8) (k asked : Int) : ∃ r, LastP l k asked r := by
  have key : ∀ d : Nat, (∀ n, n < d → meas asked (l.take n) < k) ∨ ∃ n, n < d ∧ k ≤ meas asked (l.take n) ∧ ∀ j, j < n → meas asked (l.take j) < k := by
    intro d
    induction d with
    | zero => exact .inl fun n h => absurd h (by omega)
    | succ d ih =>
      rcases ih with ih | ⟨n, h1, h2, h3⟩
      · by_cases h : meas asked (l.take d) < k
        · refine .inl fun n hn => ?_
          rcases Nat.lt_or_ge n d with h' | h'
          · exact ih n h'
          · rw [show n = d by omega]; exact h
        · exact .inr ⟨d, by omega, by omega, ih⟩
      · exact .inr ⟨n, by omega, h2, h3⟩
  rcases key (l.length + 1) with h | ⟨n, h1, h2, h3⟩
  · exact ⟨-1, .inl ⟨rfl, fun n hn => h n (by omega)⟩⟩
  · exact ⟨n, .inr ⟨n, by omega, rfl, h2, h3⟩⟩
theorem LastP.is {l : List UInt8} {k asked r : Int} (h : LastP l k asked r) {n : Nat} (hn : n ≤ l.length) (h1 : k ≤ meas asked (l.take n)) (h2 : ∀ j, j < n → meas asked (l.take j) < k) : (n : Int) = r := by
  rcases h with ⟨rfl, h⟩ | ⟨m, hm, rfl, k1, k2⟩
  · have := h n hn; omega
  · have a1 : ¬ m < n := fun hlt => by have := h2 m hlt; omega
    have a2 : ¬ n < m := fun hlt => by have := k2 n hlt; omega
    omega
theorem LastP.no {l : List UInt8} {k asked r : Int} (h : LastP l k asked r) (h2 : ∀ j, j < l.length + 1 → meas asked (l.take j) < k) : -1 = r := by
  rcases h with ⟨rfl, h⟩ | ⟨m, hm, rfl, k1, k2⟩
  · rfl
  · have := h2 m (by omega); omega
theorem all_next {P : Nat → Prop} {n : Nat} (h : ∀ j, j < n → P j) (k : P n) : ∀ j, j < n + 1 → P j := fun j hj => by
  rcases Nat.lt_or_ge j n with h' | h'
  · exact h j h'
  · rwa [show j = n by omega]
theorem sm_bd (l : List UInt8) : ∀ n : Nat, 0 ≤ sm (endsAt l) n ∧ sm (endsAt l) n ≤ n
  | 0 => ⟨Int.le_refl _, Int.le_refl _⟩
  | n + 1 => by
    have h1 := sm_bd l n
    have h2 := endsAt_r l n
    rw [sm_succ]; omega
theorem meas_at (l : List UInt8) (n : Nat) (h : n ≤ l.length) (asked : Int) : meas asked (l.take n) = if asked = 0 then (n : Int) else if asked = 1 then sm (endsAt l) n else n + sm (endsAt l) n := by
  unfold meas
  rw [endsN_take l n h, List.length_take, Nat.min_eq_left h]
theorem ends_step (l : List UInt8) (n : Nat) (h : 0 < n) : sm (endsAt l) n = sm (endsAt l) (n - 1) + endsAt l (n - 1) := by
  have := sm_succ (endsAt l) (n - 1)
  rwa [Nat.sub_add_cancel h] at this
theorem ends_yes {l : List UInt8} {p : Nat} (h : gb l p = 13 ∨ (gb l p = 10 ∧ (p = 0 ∨ gb l (p - 1) ≠ 13))) : endsAt l p = 1 := by
  unfold endsAt
  rw [if_pos]
  rcases h with h | ⟨h, h'⟩
  · exact .inl h
  · refine .inr ⟨h, fun ⟨h1, h2⟩ => ?_⟩
    rcases h' with h' | h'
    · omega
    · exact h' h2
theorem ends_no {l : List UInt8} {p : Nat} (h1 : gb l p ≠ 13) (h : gb l p ≠ 10 ∨ (0 < p ∧ gb l (p - 1) = 13)) : endsAt l p = 0 := by
  unfold endsAt
  rw [if_neg]
  rintro (h2 | ⟨h2, h3⟩)
  · exact h1 h2
  · rcases h with h | h
    · exact h h2
    · exact h3 h
set_option maxRecDepth 100000 in
set_option maxHeartbeats 16000000 in
theorem lasting_any (l : List UInt8) (k asked r : Int) (hr : LastP l k asked r) (hm : l.length ≤ 100000000) (w : World) :
    Calls Tryd.prog 22 #[.string (bs l), .int .i64 k, .int .i64 asked] w fun e w' => e = .returned (.int .i64 r) ∧ Ltr w w' := by
  have hB := Ltr.refl w
  go_enter Tryd.func22, Tryd.ntmps22
  refine wp_seq_k fun KK1 hKK1 => rl_begin fun hgK hgo => tk 6 (.int .i64 0) ?_
  try simp only [pp]
  refine rl_end hgo <| hKK1 _ _ <| wp_seq_k fun KK2 hKK2 => rl_begin fun hgK hgo => tk 7 (.int .i64 0) ?_
  try simp only [pp]
  refine rl_end hgo <| hKK2 _ _ <| wp_seq_k fun KK3 hKK3 => wp_seq_k fun KK4 hKK4 => rl_begin fun hgK hgo => tk 8 (.int .i64 0) ?_
  try simp only [pp]
  refine rl_end hgo <| hKK4 _ _ <| wp_block ?_
  refine wp_loop_ghost (fun gn ga wl => ∃ (u : Nat → Value) (n : Nat), gn = l.length + 1 - n ∧ ga = ⟨#[.string (bs l), .int .i64 k, .int .i64 asked, undef, undef, undef, u 6, .int .i64 (sm (endsAt l) (n - 1)), .int .i64 n, u 9, u 10, u 11, u 12, u 13, u 14, u 15, u 16, u 17, u 18, u 19, u 20, u 21, u 22, u 23, u 24, u 25, u 26, u 27, u 28, u 29, u 30, u 31, u 32, u 33, u 34, u 35, u 36, u 37, u 38, u 39, u 40, u 41, u 42, u 43, u 44, u 45, u 46, u 47, u 48, u 49, u 50, u 51, u 52, u 53, u 54, u 55, u 56, u 57], []⟩ ∧ (n ≤ l.length + 1) ∧ (∀ j, j < n → meas asked (l.take j) < k) ∧ (Ltr w wl)) ((fun (n : Nat) => (l.length + 1 - n : Nat)) 0) ?_ ?_
  · exact ⟨fun gj => (#[.string (bs l), .int .i64 k, .int .i64 asked, undef, undef, undef, .int .i64 0, .int .i64 0, .int .i64 0, undef, undef, undef, undef, undef, undef, undef, undef, undef, undef, undef, undef, undef, undef, undef, undef, undef, undef, undef, undef, undef, undef, undef, undef, undef, undef, undef, undef, undef, undef, undef, undef, undef, undef, undef, undef, undef, undef, undef, undef, undef, undef, undef, undef, undef, undef, undef, undef, undef]).getD gj undef, 0, rfl, rfl, Nat.zero_le _, (fun j hj => absurd hj (by omega)), by assumption⟩
  rintro n5 a5 w5 ⟨u, n, rfl, rfl, hil', hall', hB'⟩
  clear hB
  have hil := hil'
  clear hil'
  have hall := hall'
  clear hall'
  have hB := hB'
  clear hB'
  refine wp_seq_k fun KK6 hKK6 => wp_seq_k fun KK7 hKK7 => rl_begin fun hgK hgo => tk 10 (.int .i64 n) <| tk 11 (.string (bs l)) ?_
  try simp only [pp]
  refine tx 12 (.int .i64 l.length) (by exact ex_len_bs (by kernel_rfl)) ?_
  try simp only [pp]
  by_cases h1 : (n : Int) ≤ l.length
  · refine tx 13 (.bool true) (by exact ex_bool (c := (n : Int) ≤ l.length) (by kernel_rfl) ⟨fun _ => by omega, fun _ => rfl⟩) ?_
    try simp only [pp]
    refine rl_end hgo <| hKK7 _ _ <| wp_cond_true (by kernel_rfl) <| wp_skip <| hKK6 _ _ <| wp_seq_k fun KK8 hKK8 => wp_block <| wp_seq_k fun KK9 hKK9 => wp_seq_k fun KK10 hKK10 => rl_begin fun hgK hgo => ?_
    (have hb1 := sm_bd l (n - 1)); (have hb2 := sm_bd l n); (have hma := meas_at l n (by omega) asked)
    refine tk 16 (.int .i64 n) ?_
    try simp only [pp]
    by_cases h2 : (n : Int) > 0
    · refine tx 17 (.bool true) (by exact ex_bool (c := (n : Int) > 0) (by kernel_rfl) ⟨fun _ => by omega, fun _ => rfl⟩) <| tk 18 (.bool true) <| tk 19 (.string (bs l)) <| tk 20 (.int .i64 n) ?_
      try simp only [pp]
      refine tx 21 (.int .i64 (((n - 1 : Nat) : Int))) (by exact ex_arith (e := (n : Int) - 1) (r := ((n - 1 : Nat) : Int)) (by kernel_rfl) (by omega) (by omega)) ?_
      try simp only [pp]
      refine tx 22 (.int .u8 (gb l (n - 1))) (by exact ex_sidx l (n - 1) rfl rfl rfl (by kernel_rfl) (by omega) _) ?_
      try simp only [pp]
      by_cases h3 : gb l (n - 1) = 13
      · refine tx 23 (.bool true) (by exact ex_beq (x := gb l (n - 1)) (y := 13) (by kernel_rfl) ⟨fun _ => by omega, fun _ => rfl⟩) <| tk 24 (.bool true) ?_
        try simp only [pp]
        refine rl_pass (some 25) rfl (by kernel_rfl) ?_
        try simp only [pp]
        refine rl_pass (some 26) rfl (by kernel_rfl) ?_
        try simp only [pp]
        refine rl_pass (some 27) rfl (by kernel_rfl) ?_
        try simp only [pp]
        refine rl_pass (some 28) rfl (by kernel_rfl) ?_
        try simp only [pp]
        refine rl_pass (some 29) rfl (by kernel_rfl) ?_
        try simp only [pp]
        refine rl_pass (some 30) rfl (by kernel_rfl) ?_
        try simp only [pp]
        refine rl_pass (some 31) rfl (by kernel_rfl) ?_
        try simp only [pp]
        refine rl_pass (some 32) rfl (by kernel_rfl) ?_
        try simp only [pp]
        refine rl_pass (some 33) rfl (by kernel_rfl) ?_
        try simp only [pp]
        refine rl_pass (some 34) rfl (by kernel_rfl) ?_
        try simp only [pp]
        refine rl_pass (some 35) rfl (by kernel_rfl) ?_
        try simp only [pp]
        refine rl_pass (some 36) rfl (by kernel_rfl) ?_
        try simp only [pp]
        refine rl_pass (some 37) rfl (by kernel_rfl) ?_
        try simp only [pp]
        refine rl_pass (some 38) rfl (by kernel_rfl) ?_
        try simp only [pp]
        refine rl_pass (some 39) rfl (by kernel_rfl) ?_
        try simp only [pp]
        refine rl_pass (some 40) rfl (by kernel_rfl) ?_
        try simp only [pp]
        refine tk 41 (.bool true) <| tk 42 (.bool true) ?_
        try simp only [pp]
        refine rl_end hgo <| hKK10 _ _ <| wp_cond_true (by kernel_rfl) <| rl_begin fun hgK hgo => tk 43 (.int .i64 (sm (endsAt l) (n - 1))) ?_
        try simp only [pp]
        refine tx 44 (.int .i64 (sm (endsAt l) n)) (by exact ex_arith (e := (sm (endsAt l) (n - 1) : Int) + 1) (r := sm (endsAt l) n) (by kernel_rfl) (by (have := ends_step l n (by omega); have := ends_yes (l := l) (p := n - 1) (.inl h3); omega)) (by (have := ends_step l n (by omega); have := ends_yes (l := l) (p := n - 1) (.inl h3); omega))) <| tk 7 (.int .i64 (sm (endsAt l) n)) ?_
        try simp only [pp]
        refine rl_end hgo <| hKK9 _ _ <| wp_seq_k fun KK11 hKK11 => rl_begin fun hgK hgo => tk 45 (.int .i64 n) <| tk 46 (.int .i64 (sm (endsAt l) n)) ?_
        try simp only [pp]
        refine tx 47 (.int .i64 ((n : Int) + (sm (endsAt l) n))) (by exact ex_arith (e := (n : Int) + (sm (endsAt l) n)) (r := (n : Int) + (sm (endsAt l) n)) (by kernel_rfl) (by omega) (by omega)) <| tk 9 (.int .i64 ((n : Int) + (sm (endsAt l) n))) ?_
        try simp only [pp]
        refine rl_end hgo <| hKK11 _ _ <| wp_seq_k fun KK12 hKK12 => wp_seq_k fun KK13 hKK13 => rl_begin fun hgK hgo => tk 48 (.int .i64 asked) ?_
        try simp only [pp]
        by_cases h7 : asked = 0
        · refine tx 49 (.bool true) (by exact ex_beq (x := asked) (y := 0) (by kernel_rfl) ⟨fun _ => by omega, fun _ => rfl⟩) ?_
          try simp only [pp]
          refine rl_end hgo <| hKK13 _ _ <| wp_cond_true (by kernel_rfl) <| rl_begin fun hgK hgo => tk 50 (.int .i64 n) <| tk 9 (.int .i64 n) ?_
          try simp only [pp]
          refine rl_end hgo <| hKK12 _ _ <| wp_seq_k fun KK14 hKK14 => wp_seq_k fun KK15 hKK15 => rl_begin fun hgK hgo => tk 51 (.int .i64 asked) ?_
          try simp only [pp]
          refine tx 52 (.bool false) (by exact ex_beq (x := asked) (y := 1) (by kernel_rfl) ⟨fun q => (by cases q), fun q => absurd q (by omega)⟩) ?_
          try simp only [pp]
          refine rl_end hgo <| hKK15 _ _ <| wp_cond_false (by kernel_rfl) <| wp_skip <| hKK14 _ _ <| wp_seq_k fun KK16 hKK16 => rl_begin fun hgK hgo => tk 54 (.int .i64 n) <| tk 55 (.int .i64 k) ?_
          try simp only [pp]
          by_cases h9 : (n : Int) ≥ k
          · refine tx 56 (.bool true) (by exact ex_bool (c := (n : Int) ≥ k) (by kernel_rfl) ⟨fun _ => by omega, fun _ => rfl⟩) ?_
            try simp only [pp]
            refine rl_end hgo <| hKK16 _ _ <| wp_cond_true (by kernel_rfl) <| wp_seq_k fun KK17 hKK17 => rl_begin fun hgK hgo => tk 57 (.int .i64 n) <| tk 6 (.int .i64 n) ?_
            try simp only [pp]
            refine rl_end hgo <| hKK17 _ _ ?_
            refine wp_ret ?_
            try simp only [Exit.then, Exit.inBlock]
            refine bp_ret (v := .int .i64 n) (res1 rfl (res_tmp (by kernel_rfl))) ?_
            exact ⟨ret_int (hr.is (by omega) (by rw [hma]; (repeat' split) <;> omega) hall), hB⟩
          · refine tx 56 (.bool false) (by exact ex_bool (c := (n : Int) ≥ k) (by kernel_rfl) ⟨fun q => (by cases q), fun q => absurd q (by omega)⟩) ?_
            try simp only [pp]
            refine rl_end hgo <| hKK16 _ _ <| wp_cond_false (by kernel_rfl) <| wp_skip <| hKK8 _ _ <| rl_begin fun hgK hgo => tk 14 (.int .i64 n) ?_
            try simp only [pp]
            refine tx 15 (.int .i64 (((n + 1 : Nat) : Int))) (by exact ex_arith (e := (n : Int) + 1) (r := ((n + 1 : Nat) : Int)) (by kernel_rfl) (by omega) (by omega)) <| tk 8 (.int .i64 (((n + 1 : Nat) : Int))) ?_
            try simp only [pp]
            refine rl_end hgo ?_
            exact ⟨_, (by omega), fun gj => (#[.string (bs l), .int .i64 k, .int .i64 asked, undef, undef, undef, u 6, .int .i64 (sm (endsAt l) n), .int .i64 (((n + 1 : Nat) : Int)), .int .i64 n, .int .i64 n, .string (bs l), .int .i64 l.length, .bool true, .int .i64 n, .int .i64 (((n + 1 : Nat) : Int)), .int .i64 n, .bool true, .bool true, .string (bs l), .int .i64 n, .int .i64 (((n - 1 : Nat) : Int)), .int .u8 (gb l (n - 1)), .bool true, .bool true, undef, undef, undef, undef, undef, undef, undef, undef, undef, undef, undef, undef, undef, undef, undef, undef, .bool true, .bool true, .int .i64 (sm (endsAt l) (n - 1)), .int .i64 (sm (endsAt l) n), .int .i64 n, .int .i64 (sm (endsAt l) n), .int .i64 ((n : Int) + (sm (endsAt l) n)), .int .i64 asked, .bool true, .int .i64 n, .int .i64 asked, .bool false, u 53, .int .i64 n, .int .i64 k, .bool false, u 57]).getD gj undef, n + 1, rfl, rfl, by omega, all_next hall (by rw [hma]; (repeat' split) <;> omega), by assumption⟩
        · refine tx 49 (.bool false) (by exact ex_beq (x := asked) (y := 0) (by kernel_rfl) ⟨fun q => (by cases q), fun q => absurd q (by omega)⟩) ?_
          try simp only [pp]
          refine rl_end hgo <| hKK13 _ _ <| wp_cond_false (by kernel_rfl) <| wp_skip <| hKK12 _ _ <| wp_seq_k fun KK18 hKK18 => wp_seq_k fun KK19 hKK19 => rl_begin fun hgK hgo => tk 51 (.int .i64 asked) ?_
          try simp only [pp]
          by_cases h8 : asked = 1
          · refine tx 52 (.bool true) (by exact ex_beq (x := asked) (y := 1) (by kernel_rfl) ⟨fun _ => by omega, fun _ => rfl⟩) ?_
            try simp only [pp]
            refine rl_end hgo <| hKK19 _ _ <| wp_cond_true (by kernel_rfl) <| rl_begin fun hgK hgo => tk 53 (.int .i64 (sm (endsAt l) n)) <| tk 9 (.int .i64 (sm (endsAt l) n)) ?_
            try simp only [pp]
            refine rl_end hgo <| hKK18 _ _ <| wp_seq_k fun KK20 hKK20 => rl_begin fun hgK hgo => tk 54 (.int .i64 (sm (endsAt l) n)) <| tk 55 (.int .i64 k) ?_
            try simp only [pp]
            by_cases h9 : sm (endsAt l) n ≥ k
            · refine tx 56 (.bool true) (by exact ex_bool (c := (sm (endsAt l) n : Int) ≥ k) (by kernel_rfl) ⟨fun _ => by omega, fun _ => rfl⟩) ?_
              try simp only [pp]
              refine rl_end hgo <| hKK20 _ _ <| wp_cond_true (by kernel_rfl) <| wp_seq_k fun KK21 hKK21 => rl_begin fun hgK hgo => tk 57 (.int .i64 n) <| tk 6 (.int .i64 n) ?_
              try simp only [pp]
              refine rl_end hgo <| hKK21 _ _ ?_
              refine wp_ret ?_
              try simp only [Exit.then, Exit.inBlock]
              refine bp_ret (v := .int .i64 n) (res1 rfl (res_tmp (by kernel_rfl))) ?_
              exact ⟨ret_int (hr.is (by omega) (by rw [hma]; (repeat' split) <;> omega) hall), hB⟩
            · refine tx 56 (.bool false) (by exact ex_bool (c := (sm (endsAt l) n : Int) ≥ k) (by kernel_rfl) ⟨fun q => (by cases q), fun q => absurd q (by omega)⟩) ?_
              try simp only [pp]
              refine rl_end hgo <| hKK20 _ _ <| wp_cond_false (by kernel_rfl) <| wp_skip <| hKK8 _ _ <| rl_begin fun hgK hgo => tk 14 (.int .i64 n) ?_
              try simp only [pp]
              refine tx 15 (.int .i64 (((n + 1 : Nat) : Int))) (by exact ex_arith (e := (n : Int) + 1) (r := ((n + 1 : Nat) : Int)) (by kernel_rfl) (by omega) (by omega)) <| tk 8 (.int .i64 (((n + 1 : Nat) : Int))) ?_
              try simp only [pp]
              refine rl_end hgo ?_
              exact ⟨_, (by omega), fun gj => (#[.string (bs l), .int .i64 k, .int .i64 asked, undef, undef, undef, u 6, .int .i64 (sm (endsAt l) n), .int .i64 (((n + 1 : Nat) : Int)), .int .i64 (sm (endsAt l) n), .int .i64 n, .string (bs l), .int .i64 l.length, .bool true, .int .i64 n, .int .i64 (((n + 1 : Nat) : Int)), .int .i64 n, .bool true, .bool true, .string (bs l), .int .i64 n, .int .i64 (((n - 1 : Nat) : Int)), .int .u8 (gb l (n - 1)), .bool true, .bool true, undef, undef, undef, undef, undef, undef, undef, undef, undef, undef, undef, undef, undef, undef, undef, undef, .bool true, .bool true, .int .i64 (sm (endsAt l) (n - 1)), .int .i64 (sm (endsAt l) n), .int .i64 n, .int .i64 (sm (endsAt l) n), .int .i64 ((n : Int) + (sm (endsAt l) n)), .int .i64 asked, .bool false, u 50, .int .i64 asked, .bool true, .int .i64 (sm (endsAt l) n), .int .i64 (sm (endsAt l) n), .int .i64 k, .bool false, u 57]).getD gj undef, n + 1, rfl, rfl, by omega, all_next hall (by rw [hma]; (repeat' split) <;> omega), by assumption⟩
          · refine tx 52 (.bool false) (by exact ex_beq (x := asked) (y := 1) (by kernel_rfl) ⟨fun q => (by cases q), fun q => absurd q (by omega)⟩) ?_
            try simp only [pp]
            refine rl_end hgo <| hKK19 _ _ <| wp_cond_false (by kernel_rfl) <| wp_skip <| hKK18 _ _ <| wp_seq_k fun KK22 hKK22 => rl_begin fun hgK hgo => tk 54 (.int .i64 ((n : Int) + (sm (endsAt l) n))) <| tk 55 (.int .i64 k) ?_
            try simp only [pp]
            by_cases h9 : (n : Int) + sm (endsAt l) n ≥ k
            · refine tx 56 (.bool true) (by exact ex_bool (c := (((n : Int) + (sm (endsAt l) n)) : Int) ≥ k) (by kernel_rfl) ⟨fun _ => by omega, fun _ => rfl⟩) ?_
              try simp only [pp]
              refine rl_end hgo <| hKK22 _ _ <| wp_cond_true (by kernel_rfl) <| wp_seq_k fun KK23 hKK23 => rl_begin fun hgK hgo => tk 57 (.int .i64 n) <| tk 6 (.int .i64 n) ?_
              try simp only [pp]
              refine rl_end hgo <| hKK23 _ _ ?_
              refine wp_ret ?_
              try simp only [Exit.then, Exit.inBlock]
              refine bp_ret (v := .int .i64 n) (res1 rfl (res_tmp (by kernel_rfl))) ?_
              exact ⟨ret_int (hr.is (by omega) (by rw [hma]; (repeat' split) <;> omega) hall), hB⟩
            · refine tx 56 (.bool false) (by exact ex_bool (c := (((n : Int) + (sm (endsAt l) n)) : Int) ≥ k) (by kernel_rfl) ⟨fun q => (by cases q), fun q => absurd q (by omega)⟩) ?_
              try simp only [pp]
              refine rl_end hgo <| hKK22 _ _ <| wp_cond_false (by kernel_rfl) <| wp_skip <| hKK8 _ _ <| rl_begin fun hgK hgo => tk 14 (.int .i64 n) ?_
              try simp only [pp]
              refine tx 15 (.int .i64 (((n + 1 : Nat) : Int))) (by exact ex_arith (e := (n : Int) + 1) (r := ((n + 1 : Nat) : Int)) (by kernel_rfl) (by omega) (by omega)) <| tk 8 (.int .i64 (((n + 1 : Nat) : Int))) ?_
              try simp only [pp]
              refine rl_end hgo ?_
              exact ⟨_, (by omega), fun gj => (#[.string (bs l), .int .i64 k, .int .i64 asked, undef, undef, undef, u 6, .int .i64 (sm (endsAt l) n), .int .i64 (((n + 1 : Nat) : Int)), .int .i64 ((n : Int) + (sm (endsAt l) n)), .int .i64 n, .string (bs l), .int .i64 l.length, .bool true, .int .i64 n, .int .i64 (((n + 1 : Nat) : Int)), .int .i64 n, .bool true, .bool true, .string (bs l), .int .i64 n, .int .i64 (((n - 1 : Nat) : Int)), .int .u8 (gb l (n - 1)), .bool true, .bool true, undef, undef, undef, undef, undef, undef, undef, undef, undef, undef, undef, undef, undef, undef, undef, undef, .bool true, .bool true, .int .i64 (sm (endsAt l) (n - 1)), .int .i64 (sm (endsAt l) n), .int .i64 n, .int .i64 (sm (endsAt l) n), .int .i64 ((n : Int) + (sm (endsAt l) n)), .int .i64 asked, .bool false, u 50, .int .i64 asked, .bool false, u 53, .int .i64 ((n : Int) + (sm (endsAt l) n)), .int .i64 k, .bool false, u 57]).getD gj undef, n + 1, rfl, rfl, by omega, all_next hall (by rw [hma]; (repeat' split) <;> omega), by assumption⟩
      · refine tx 23 (.bool false) (by exact ex_beq (x := gb l (n - 1)) (y := 13) (by kernel_rfl) ⟨fun q => (by cases q), fun q => absurd q (by omega)⟩) <| tk 24 (.bool false) <| tk 25 (.string (bs l)) <| tk 26 (.int .i64 n) ?_
        try simp only [pp]
        refine tx 27 (.int .i64 (((n - 1 : Nat) : Int))) (by exact ex_arith (e := (n : Int) - 1) (r := ((n - 1 : Nat) : Int)) (by kernel_rfl) (by omega) (by omega)) ?_
        try simp only [pp]
        refine tx 28 (.int .u8 (gb l (n - 1))) (by exact ex_sidx l (n - 1) rfl rfl rfl (by kernel_rfl) (by omega) _) ?_
        try simp only [pp]
        by_cases h4 : gb l (n - 1) = 10
        · refine tx 29 (.bool true) (by exact ex_beq (x := gb l (n - 1)) (y := 10) (by kernel_rfl) ⟨fun _ => by omega, fun _ => rfl⟩) <| tk 30 (.bool true) <| tk 31 (.int .i64 n) ?_
          try simp only [pp]
          by_cases h5 : (n : Int) = 1
          · refine tx 32 (.bool true) (by exact ex_beq (x := n) (y := 1) (by kernel_rfl) ⟨fun _ => by omega, fun _ => rfl⟩) <| tk 33 (.bool true) ?_
            try simp only [pp]
            refine rl_pass (some 34) rfl (by kernel_rfl) ?_
            try simp only [pp]
            refine rl_pass (some 35) rfl (by kernel_rfl) ?_
            try simp only [pp]
            refine rl_pass (some 36) rfl (by kernel_rfl) ?_
            try simp only [pp]
            refine rl_pass (some 37) rfl (by kernel_rfl) ?_
            try simp only [pp]
            refine rl_pass (some 38) rfl (by kernel_rfl) ?_
            try simp only [pp]
            refine tk 39 (.bool true) <| tk 40 (.bool true) <| tk 41 (.bool true) <| tk 42 (.bool true) ?_
            try simp only [pp]
            refine rl_end hgo <| hKK10 _ _ <| wp_cond_true (by kernel_rfl) <| rl_begin fun hgK hgo => tk 43 (.int .i64 (sm (endsAt l) (n - 1))) ?_
            try simp only [pp]
            refine tx 44 (.int .i64 (sm (endsAt l) n)) (by exact ex_arith (e := (sm (endsAt l) (n - 1) : Int) + 1) (r := sm (endsAt l) n) (by kernel_rfl) (by (have := ends_step l n (by omega); have := ends_yes (l := l) (p := n - 1) (.inr ⟨h4, .inl (by omega)⟩); omega)) (by (have := ends_step l n (by omega); have := ends_yes (l := l) (p := n - 1) (.inr ⟨h4, .inl (by omega)⟩); omega))) <| tk 7 (.int .i64 (sm (endsAt l) n)) ?_
            try simp only [pp]
            refine rl_end hgo <| hKK9 _ _ <| wp_seq_k fun KK24 hKK24 => rl_begin fun hgK hgo => tk 45 (.int .i64 n) <| tk 46 (.int .i64 (sm (endsAt l) n)) ?_
            try simp only [pp]
            refine tx 47 (.int .i64 ((n : Int) + (sm (endsAt l) n))) (by exact ex_arith (e := (n : Int) + (sm (endsAt l) n)) (r := (n : Int) + (sm (endsAt l) n)) (by kernel_rfl) (by omega) (by omega)) <| tk 9 (.int .i64 ((n : Int) + (sm (endsAt l) n))) ?_
            try simp only [pp]
            refine rl_end hgo <| hKK24 _ _ <| wp_seq_k fun KK25 hKK25 => wp_seq_k fun KK26 hKK26 => rl_begin fun hgK hgo => tk 48 (.int .i64 asked) ?_
            try simp only [pp]
            by_cases h7 : asked = 0
            · refine tx 49 (.bool true) (by exact ex_beq (x := asked) (y := 0) (by kernel_rfl) ⟨fun _ => by omega, fun _ => rfl⟩) ?_
              try simp only [pp]
              refine rl_end hgo <| hKK26 _ _ <| wp_cond_true (by kernel_rfl) <| rl_begin fun hgK hgo => tk 50 (.int .i64 n) <| tk 9 (.int .i64 n) ?_
              try simp only [pp]
              refine rl_end hgo <| hKK25 _ _ <| wp_seq_k fun KK27 hKK27 => wp_seq_k fun KK28 hKK28 => rl_begin fun hgK hgo => tk 51 (.int .i64 asked) ?_
              try simp only [pp]
              refine tx 52 (.bool false) (by exact ex_beq (x := asked) (y := 1) (by kernel_rfl) ⟨fun q => (by cases q), fun q => absurd q (by omega)⟩) ?_
              try simp only [pp]
              refine rl_end hgo <| hKK28 _ _ <| wp_cond_false (by kernel_rfl) <| wp_skip <| hKK27 _ _ <| wp_seq_k fun KK29 hKK29 => rl_begin fun hgK hgo => tk 54 (.int .i64 n) <| tk 55 (.int .i64 k) ?_
              try simp only [pp]
              by_cases h9 : (n : Int) ≥ k
              · refine tx 56 (.bool true) (by exact ex_bool (c := (n : Int) ≥ k) (by kernel_rfl) ⟨fun _ => by omega, fun _ => rfl⟩) ?_
                try simp only [pp]
                refine rl_end hgo <| hKK29 _ _ <| wp_cond_true (by kernel_rfl) <| wp_seq_k fun KK30 hKK30 => rl_begin fun hgK hgo => tk 57 (.int .i64 n) <| tk 6 (.int .i64 n) ?_
                try simp only [pp]
                refine rl_end hgo <| hKK30 _ _ ?_
                refine wp_ret ?_
                try simp only [Exit.then, Exit.inBlock]
                refine bp_ret (v := .int .i64 n) (res1 rfl (res_tmp (by kernel_rfl))) ?_
                exact ⟨ret_int (hr.is (by omega) (by rw [hma]; (repeat' split) <;> omega) hall), hB⟩
              · refine tx 56 (.bool false) (by exact ex_bool (c := (n : Int) ≥ k) (by kernel_rfl) ⟨fun q => (by cases q), fun q => absurd q (by omega)⟩) ?_
                try simp only [pp]
                refine rl_end hgo <| hKK29 _ _ <| wp_cond_false (by kernel_rfl) <| wp_skip <| hKK8 _ _ <| rl_begin fun hgK hgo => tk 14 (.int .i64 n) ?_
                try simp only [pp]
                refine tx 15 (.int .i64 (((n + 1 : Nat) : Int))) (by exact ex_arith (e := (n : Int) + 1) (r := ((n + 1 : Nat) : Int)) (by kernel_rfl) (by omega) (by omega)) <| tk 8 (.int .i64 (((n + 1 : Nat) : Int))) ?_
                try simp only [pp]
                refine rl_end hgo ?_
                exact ⟨_, (by omega), fun gj => (#[.string (bs l), .int .i64 k, .int .i64 asked, undef, undef, undef, u 6, .int .i64 (sm (endsAt l) n), .int .i64 (((n + 1 : Nat) : Int)), .int .i64 n, .int .i64 n, .string (bs l), .int .i64 l.length, .bool true, .int .i64 n, .int .i64 (((n + 1 : Nat) : Int)), .int .i64 n, .bool true, .bool true, .string (bs l), .int .i64 n, .int .i64 (((n - 1 : Nat) : Int)), .int .u8 (gb l (n - 1)), .bool false, .bool false, .string (bs l), .int .i64 n, .int .i64 (((n - 1 : Nat) : Int)), .int .u8 (gb l (n - 1)), .bool true, .bool true, .int .i64 n, .bool true, .bool true, undef, undef, undef, undef, undef, .bool true, .bool true, .bool true, .bool true, .int .i64 (sm (endsAt l) (n - 1)), .int .i64 (sm (endsAt l) n), .int .i64 n, .int .i64 (sm (endsAt l) n), .int .i64 ((n : Int) + (sm (endsAt l) n)), .int .i64 asked, .bool true, .int .i64 n, .int .i64 asked, .bool false, u 53, .int .i64 n, .int .i64 k, .bool false, u 57]).getD gj undef, n + 1, rfl, rfl, by omega, all_next hall (by rw [hma]; (repeat' split) <;> omega), by assumption⟩
            · refine tx 49 (.bool false) (by exact ex_beq (x := asked) (y := 0) (by kernel_rfl) ⟨fun q => (by cases q), fun q => absurd q (by omega)⟩) ?_
              try simp only [pp]
              refine rl_end hgo <| hKK26 _ _ <| wp_cond_false (by kernel_rfl) <| wp_skip <| hKK25 _ _ <| wp_seq_k fun KK31 hKK31 => wp_seq_k fun KK32 hKK32 => rl_begin fun hgK hgo => tk 51 (.int .i64 asked) ?_
              try simp only [pp]
              by_cases h8 : asked = 1
              · refine tx 52 (.bool true) (by exact ex_beq (x := asked) (y := 1) (by kernel_rfl) ⟨fun _ => by omega, fun _ => rfl⟩) ?_
                try simp only [pp]
                refine rl_end hgo <| hKK32 _ _ <| wp_cond_true (by kernel_rfl) <| rl_begin fun hgK hgo => tk 53 (.int .i64 (sm (endsAt l) n)) <| tk 9 (.int .i64 (sm (endsAt l) n)) ?_
                try simp only [pp]
                refine rl_end hgo <| hKK31 _ _ <| wp_seq_k fun KK33 hKK33 => rl_begin fun hgK hgo => tk 54 (.int .i64 (sm (endsAt l) n)) <| tk 55 (.int .i64 k) ?_
                try simp only [pp]
                by_cases h9 : sm (endsAt l) n ≥ k
                · refine tx 56 (.bool true) (by exact ex_bool (c := (sm (endsAt l) n : Int) ≥ k) (by kernel_rfl) ⟨fun _ => by omega, fun _ => rfl⟩) ?_
                  try simp only [pp]
                  refine rl_end hgo <| hKK33 _ _ <| wp_cond_true (by kernel_rfl) <| wp_seq_k fun KK34 hKK34 => rl_begin fun hgK hgo => tk 57 (.int .i64 n) <| tk 6 (.int .i64 n) ?_
                  try simp only [pp]
                  refine rl_end hgo <| hKK34 _ _ ?_
                  refine wp_ret ?_
                  try simp only [Exit.then, Exit.inBlock]
                  refine bp_ret (v := .int .i64 n) (res1 rfl (res_tmp (by kernel_rfl))) ?_
                  exact ⟨ret_int (hr.is (by omega) (by rw [hma]; (repeat' split) <;> omega) hall), hB⟩
                · refine tx 56 (.bool false) (by exact ex_bool (c := (sm (endsAt l) n : Int) ≥ k) (by kernel_rfl) ⟨fun q => (by cases q), fun q => absurd q (by omega)⟩) ?_
                  try simp only [pp]
                  refine rl_end hgo <| hKK33 _ _ <| wp_cond_false (by kernel_rfl) <| wp_skip <| hKK8 _ _ <| rl_begin fun hgK hgo => tk 14 (.int .i64 n) ?_
                  try simp only [pp]
                  refine tx 15 (.int .i64 (((n + 1 : Nat) : Int))) (by exact ex_arith (e := (n : Int) + 1) (r := ((n + 1 : Nat) : Int)) (by kernel_rfl) (by omega) (by omega)) <| tk 8 (.int .i64 (((n + 1 : Nat) : Int))) ?_
                  try simp only [pp]
                  refine rl_end hgo ?_
                  exact ⟨_, (by omega), fun gj => (#[.string (bs l), .int .i64 k, .int .i64 asked, undef, undef, undef, u 6, .int .i64 (sm (endsAt l) n), .int .i64 (((n + 1 : Nat) : Int)), .int .i64 (sm (endsAt l) n), .int .i64 n, .string (bs l), .int .i64 l.length, .bool true, .int .i64 n, .int .i64 (((n + 1 : Nat) : Int)), .int .i64 n, .bool true, .bool true, .string (bs l), .int .i64 n, .int .i64 (((n - 1 : Nat) : Int)), .int .u8 (gb l (n - 1)), .bool false, .bool false, .string (bs l), .int .i64 n, .int .i64 (((n - 1 : Nat) : Int)), .int .u8 (gb l (n - 1)), .bool true, .bool true, .int .i64 n, .bool true, .bool true, undef, undef, undef, undef, undef, .bool true, .bool true, .bool true, .bool true, .int .i64 (sm (endsAt l) (n - 1)), .int .i64 (sm (endsAt l) n), .int .i64 n, .int .i64 (sm (endsAt l) n), .int .i64 ((n : Int) + (sm (endsAt l) n)), .int .i64 asked, .bool false, u 50, .int .i64 asked, .bool true, .int .i64 (sm (endsAt l) n), .int .i64 (sm (endsAt l) n), .int .i64 k, .bool false, u 57]).getD gj undef, n + 1, rfl, rfl, by omega, all_next hall (by rw [hma]; (repeat' split) <;> omega), by assumption⟩
              · refine tx 52 (.bool false) (by exact ex_beq (x := asked) (y := 1) (by kernel_rfl) ⟨fun q => (by cases q), fun q => absurd q (by omega)⟩) ?_
                try simp only [pp]
                refine rl_end hgo <| hKK32 _ _ <| wp_cond_false (by kernel_rfl) <| wp_skip <| hKK31 _ _ <| wp_seq_k fun KK35 hKK35 => rl_begin fun hgK hgo => tk 54 (.int .i64 ((n : Int) + (sm (endsAt l) n))) <| tk 55 (.int .i64 k) ?_
                try simp only [pp]
                by_cases h9 : (n : Int) + sm (endsAt l) n ≥ k
                · refine tx 56 (.bool true) (by exact ex_bool (c := (((n : Int) + (sm (endsAt l) n)) : Int) ≥ k) (by kernel_rfl) ⟨fun _ => by omega, fun _ => rfl⟩) ?_
                  try simp only [pp]
                  refine rl_end hgo <| hKK35 _ _ <| wp_cond_true (by kernel_rfl) <| wp_seq_k fun KK36 hKK36 => rl_begin fun hgK hgo => tk 57 (.int .i64 n) <| tk 6 (.int .i64 n) ?_
                  try simp only [pp]
                  refine rl_end hgo <| hKK36 _ _ ?_
                  refine wp_ret ?_
                  try simp only [Exit.then, Exit.inBlock]
                  refine bp_ret (v := .int .i64 n) (res1 rfl (res_tmp (by kernel_rfl))) ?_
                  exact ⟨ret_int (hr.is (by omega) (by rw [hma]; (repeat' split) <;> omega) hall), hB⟩
                · refine tx 56 (.bool false) (by exact ex_bool (c := (((n : Int) + (sm (endsAt l) n)) : Int) ≥ k) (by kernel_rfl) ⟨fun q => (by cases q), fun q => absurd q (by omega)⟩) ?_
                  try simp only [pp]
                  refine rl_end hgo <| hKK35 _ _ <| wp_cond_false (by kernel_rfl) <| wp_skip <| hKK8 _ _ <| rl_begin fun hgK hgo => tk 14 (.int .i64 n) ?_
                  try simp only [pp]
                  refine tx 15 (.int .i64 (((n + 1 : Nat) : Int))) (by exact ex_arith (e := (n : Int) + 1) (r := ((n + 1 : Nat) : Int)) (by kernel_rfl) (by omega) (by omega)) <| tk 8 (.int .i64 (((n + 1 : Nat) : Int))) ?_
                  try simp only [pp]
                  refine rl_end hgo ?_
                  exact ⟨_, (by omega), fun gj => (#[.string (bs l), .int .i64 k, .int .i64 asked, undef, undef, undef, u 6, .int .i64 (sm (endsAt l) n), .int .i64 (((n + 1 : Nat) : Int)), .int .i64 ((n : Int) + (sm (endsAt l) n)), .int .i64 n, .string (bs l), .int .i64 l.length, .bool true, .int .i64 n, .int .i64 (((n + 1 : Nat) : Int)), .int .i64 n, .bool true, .bool true, .string (bs l), .int .i64 n, .int .i64 (((n - 1 : Nat) : Int)), .int .u8 (gb l (n - 1)), .bool false, .bool false, .string (bs l), .int .i64 n, .int .i64 (((n - 1 : Nat) : Int)), .int .u8 (gb l (n - 1)), .bool true, .bool true, .int .i64 n, .bool true, .bool true, undef, undef, undef, undef, undef, .bool true, .bool true, .bool true, .bool true, .int .i64 (sm (endsAt l) (n - 1)), .int .i64 (sm (endsAt l) n), .int .i64 n, .int .i64 (sm (endsAt l) n), .int .i64 ((n : Int) + (sm (endsAt l) n)), .int .i64 asked, .bool false, u 50, .int .i64 asked, .bool false, u 53, .int .i64 ((n : Int) + (sm (endsAt l) n)), .int .i64 k, .bool false, u 57]).getD gj undef, n + 1, rfl, rfl, by omega, all_next hall (by rw [hma]; (repeat' split) <;> omega), by assumption⟩
          · refine tx 32 (.bool false) (by exact ex_beq (x := n) (y := 1) (by kernel_rfl) ⟨fun q => (by cases q), fun q => absurd q (by omega)⟩) <| tk 33 (.bool false) <| tk 34 (.string (bs l)) <| tk 35 (.int .i64 n) ?_
            try simp only [pp]
            refine tx 36 (.int .i64 (((n - 2 : Nat) : Int))) (by exact ex_arith (e := (n : Int) - 2) (r := ((n - 2 : Nat) : Int)) (by kernel_rfl) (by omega) (by omega)) ?_
            try simp only [pp]
            refine tx 37 (.int .u8 (gb l (n - 2))) (by exact ex_sidx l (n - 2) rfl rfl rfl (by kernel_rfl) (by omega) _) ?_
            try simp only [pp]
            by_cases h6 : gb l (n - 2) ≠ 13
            · refine tx 38 (.bool true) (by exact ex_bne (x := gb l (n - 2)) (y := 13) (by kernel_rfl) ⟨fun _ => by omega, fun _ => rfl⟩) <| tk 39 (.bool true) <| tk 40 (.bool true) <| tk 41 (.bool true) <| tk 42 (.bool true) ?_
              try simp only [pp]
              refine rl_end hgo <| hKK10 _ _ <| wp_cond_true (by kernel_rfl) <| rl_begin fun hgK hgo => tk 43 (.int .i64 (sm (endsAt l) (n - 1))) ?_
              try simp only [pp]
              refine tx 44 (.int .i64 (sm (endsAt l) n)) (by exact ex_arith (e := (sm (endsAt l) (n - 1) : Int) + 1) (r := sm (endsAt l) n) (by kernel_rfl) (by (have := ends_step l n (by omega); have := ends_yes (l := l) (p := n - 1) (.inr ⟨h4, .inr (by rw [show n - 1 - 1 = n - 2 by omega]; exact h6)⟩); omega)) (by (have := ends_step l n (by omega); have := ends_yes (l := l) (p := n - 1) (.inr ⟨h4, .inr (by rw [show n - 1 - 1 = n - 2 by omega]; exact h6)⟩); omega))) <| tk 7 (.int .i64 (sm (endsAt l) n)) ?_
              try simp only [pp]
              refine rl_end hgo <| hKK9 _ _ <| wp_seq_k fun KK37 hKK37 => rl_begin fun hgK hgo => tk 45 (.int .i64 n) <| tk 46 (.int .i64 (sm (endsAt l) n)) ?_
              try simp only [pp]
              refine tx 47 (.int .i64 ((n : Int) + (sm (endsAt l) n))) (by exact ex_arith (e := (n : Int) + (sm (endsAt l) n)) (r := (n : Int) + (sm (endsAt l) n)) (by kernel_rfl) (by omega) (by omega)) <| tk 9 (.int .i64 ((n : Int) + (sm (endsAt l) n))) ?_
              try simp only [pp]
              refine rl_end hgo <| hKK37 _ _ <| wp_seq_k fun KK38 hKK38 => wp_seq_k fun KK39 hKK39 => rl_begin fun hgK hgo => tk 48 (.int .i64 asked) ?_
              try simp only [pp]
              by_cases h7 : asked = 0
              · refine tx 49 (.bool true) (by exact ex_beq (x := asked) (y := 0) (by kernel_rfl) ⟨fun _ => by omega, fun _ => rfl⟩) ?_
                try simp only [pp]
                refine rl_end hgo <| hKK39 _ _ <| wp_cond_true (by kernel_rfl) <| rl_begin fun hgK hgo => tk 50 (.int .i64 n) <| tk 9 (.int .i64 n) ?_
                try simp only [pp]
                refine rl_end hgo <| hKK38 _ _ <| wp_seq_k fun KK40 hKK40 => wp_seq_k fun KK41 hKK41 => rl_begin fun hgK hgo => tk 51 (.int .i64 asked) ?_
                try simp only [pp]
                refine tx 52 (.bool false) (by exact ex_beq (x := asked) (y := 1) (by kernel_rfl) ⟨fun q => (by cases q), fun q => absurd q (by omega)⟩) ?_
                try simp only [pp]
                refine rl_end hgo <| hKK41 _ _ <| wp_cond_false (by kernel_rfl) <| wp_skip <| hKK40 _ _ <| wp_seq_k fun KK42 hKK42 => rl_begin fun hgK hgo => tk 54 (.int .i64 n) <| tk 55 (.int .i64 k) ?_
                try simp only [pp]
                by_cases h9 : (n : Int) ≥ k
                · refine tx 56 (.bool true) (by exact ex_bool (c := (n : Int) ≥ k) (by kernel_rfl) ⟨fun _ => by omega, fun _ => rfl⟩) ?_
                  try simp only [pp]
                  refine rl_end hgo <| hKK42 _ _ <| wp_cond_true (by kernel_rfl) <| wp_seq_k fun KK43 hKK43 => rl_begin fun hgK hgo => tk 57 (.int .i64 n) <| tk 6 (.int .i64 n) ?_
                  try simp only [pp]
                  refine rl_end hgo <| hKK43 _ _ ?_
                  refine wp_ret ?_
                  try simp only [Exit.then, Exit.inBlock]
                  refine bp_ret (v := .int .i64 n) (res1 rfl (res_tmp (by kernel_rfl))) ?_
                  exact ⟨ret_int (hr.is (by omega) (by rw [hma]; (repeat' split) <;> omega) hall), hB⟩
                · refine tx 56 (.bool false) (by exact ex_bool (c := (n : Int) ≥ k) (by kernel_rfl) ⟨fun q => (by cases q), fun q => absurd q (by omega)⟩) ?_
                  try simp only [pp]
                  refine rl_end hgo <| hKK42 _ _ <| wp_cond_false (by kernel_rfl) <| wp_skip <| hKK8 _ _ <| rl_begin fun hgK hgo => tk 14 (.int .i64 n) ?_
                  try simp only [pp]
                  refine tx 15 (.int .i64 (((n + 1 : Nat) : Int))) (by exact ex_arith (e := (n : Int) + 1) (r := ((n + 1 : Nat) : Int)) (by kernel_rfl) (by omega) (by omega)) <| tk 8 (.int .i64 (((n + 1 : Nat) : Int))) ?_
                  try simp only [pp]
                  refine rl_end hgo ?_
                  exact ⟨_, (by omega), fun gj => (#[.string (bs l), .int .i64 k, .int .i64 asked, undef, undef, undef, u 6, .int .i64 (sm (endsAt l) n), .int .i64 (((n + 1 : Nat) : Int)), .int .i64 n, .int .i64 n, .string (bs l), .int .i64 l.length, .bool true, .int .i64 n, .int .i64 (((n + 1 : Nat) : Int)), .int .i64 n, .bool true, .bool true, .string (bs l), .int .i64 n, .int .i64 (((n - 1 : Nat) : Int)), .int .u8 (gb l (n - 1)), .bool false, .bool false, .string (bs l), .int .i64 n, .int .i64 (((n - 1 : Nat) : Int)), .int .u8 (gb l (n - 1)), .bool true, .bool true, .int .i64 n, .bool false, .bool false, .string (bs l), .int .i64 n, .int .i64 (((n - 2 : Nat) : Int)), .int .u8 (gb l (n - 2)), .bool true, .bool true, .bool true, .bool true, .bool true, .int .i64 (sm (endsAt l) (n - 1)), .int .i64 (sm (endsAt l) n), .int .i64 n, .int .i64 (sm (endsAt l) n), .int .i64 ((n : Int) + (sm (endsAt l) n)), .int .i64 asked, .bool true, .int .i64 n, .int .i64 asked, .bool false, u 53, .int .i64 n, .int .i64 k, .bool false, u 57]).getD gj undef, n + 1, rfl, rfl, by omega, all_next hall (by rw [hma]; (repeat' split) <;> omega), by assumption⟩
              · refine tx 49 (.bool false) (by exact ex_beq (x := asked) (y := 0) (by kernel_rfl) ⟨fun q => (by cases q), fun q => absurd q (by omega)⟩) ?_
                try simp only [pp]
                refine rl_end hgo <| hKK39 _ _ <| wp_cond_false (by kernel_rfl) <| wp_skip <| hKK38 _ _ <| wp_seq_k fun KK44 hKK44 => wp_seq_k fun KK45 hKK45 => rl_begin fun hgK hgo => tk 51 (.int .i64 asked) ?_
                try simp only [pp]
                by_cases h8 : asked = 1
                · refine tx 52 (.bool true) (by exact ex_beq (x := asked) (y := 1) (by kernel_rfl) ⟨fun _ => by omega, fun _ => rfl⟩) ?_
                  try simp only [pp]
                  refine rl_end hgo <| hKK45 _ _ <| wp_cond_true (by kernel_rfl) <| rl_begin fun hgK hgo => tk 53 (.int .i64 (sm (endsAt l) n)) <| tk 9 (.int .i64 (sm (endsAt l) n)) ?_
                  try simp only [pp]
                  refine rl_end hgo <| hKK44 _ _ <| wp_seq_k fun KK46 hKK46 => rl_begin fun hgK hgo => tk 54 (.int .i64 (sm (endsAt l) n)) <| tk 55 (.int .i64 k) ?_
                  try simp only [pp]
                  by_cases h9 : sm (endsAt l) n ≥ k
                  · refine tx 56 (.bool true) (by exact ex_bool (c := (sm (endsAt l) n : Int) ≥ k) (by kernel_rfl) ⟨fun _ => by omega, fun _ => rfl⟩) ?_
                    try simp only [pp]
                    refine rl_end hgo <| hKK46 _ _ <| wp_cond_true (by kernel_rfl) <| wp_seq_k fun KK47 hKK47 => rl_begin fun hgK hgo => tk 57 (.int .i64 n) <| tk 6 (.int .i64 n) ?_
                    try simp only [pp]
                    refine rl_end hgo <| hKK47 _ _ ?_
                    refine wp_ret ?_
                    try simp only [Exit.then, Exit.inBlock]
                    refine bp_ret (v := .int .i64 n) (res1 rfl (res_tmp (by kernel_rfl))) ?_
                    exact ⟨ret_int (hr.is (by omega) (by rw [hma]; (repeat' split) <;> omega) hall), hB⟩
                  · refine tx 56 (.bool false) (by exact ex_bool (c := (sm (endsAt l) n : Int) ≥ k) (by kernel_rfl) ⟨fun q => (by cases q), fun q => absurd q (by omega)⟩) ?_
                    try simp only [pp]
                    refine rl_end hgo <| hKK46 _ _ <| wp_cond_false (by kernel_rfl) <| wp_skip <| hKK8 _ _ <| rl_begin fun hgK hgo => tk 14 (.int .i64 n) ?_
                    try simp only [pp]
                    refine tx 15 (.int .i64 (((n + 1 : Nat) : Int))) (by exact ex_arith (e := (n : Int) + 1) (r := ((n + 1 : Nat) : Int)) (by kernel_rfl) (by omega) (by omega)) <| tk 8 (.int .i64 (((n + 1 : Nat) : Int))) ?_
                    try simp only [pp]
                    refine rl_end hgo ?_
                    exact ⟨_, (by omega), fun gj => (#[.string (bs l), .int .i64 k, .int .i64 asked, undef, undef, undef, u 6, .int .i64 (sm (endsAt l) n), .int .i64 (((n + 1 : Nat) : Int)), .int .i64 (sm (endsAt l) n), .int .i64 n, .string (bs l), .int .i64 l.length, .bool true, .int .i64 n, .int .i64 (((n + 1 : Nat) : Int)), .int .i64 n, .bool true, .bool true, .string (bs l), .int .i64 n, .int .i64 (((n - 1 : Nat) : Int)), .int .u8 (gb l (n - 1)), .bool false, .bool false, .string (bs l), .int .i64 n, .int .i64 (((n - 1 : Nat) : Int)), .int .u8 (gb l (n - 1)), .bool true, .bool true, .int .i64 n, .bool false, .bool false, .string (bs l), .int .i64 n, .int .i64 (((n - 2 : Nat) : Int)), .int .u8 (gb l (n - 2)), .bool true, .bool true, .bool true, .bool true, .bool true, .int .i64 (sm (endsAt l) (n - 1)), .int .i64 (sm (endsAt l) n), .int .i64 n, .int .i64 (sm (endsAt l) n), .int .i64 ((n : Int) + (sm (endsAt l) n)), .int .i64 asked, .bool false, u 50, .int .i64 asked, .bool true, .int .i64 (sm (endsAt l) n), .int .i64 (sm (endsAt l) n), .int .i64 k, .bool false, u 57]).getD gj undef, n + 1, rfl, rfl, by omega, all_next hall (by rw [hma]; (repeat' split) <;> omega), by assumption⟩
                · refine tx 52 (.bool false) (by exact ex_beq (x := asked) (y := 1) (by kernel_rfl) ⟨fun q => (by cases q), fun q => absurd q (by omega)⟩) ?_
                  try simp only [pp]
                  refine rl_end hgo <| hKK45 _ _ <| wp_cond_false (by kernel_rfl) <| wp_skip <| hKK44 _ _ <| wp_seq_k fun KK48 hKK48 => rl_begin fun hgK hgo => tk 54 (.int .i64 ((n : Int) + (sm (endsAt l) n))) <| tk 55 (.int .i64 k) ?_
                  try simp only [pp]
                  by_cases h9 : (n : Int) + sm (endsAt l) n ≥ k
                  · refine tx 56 (.bool true) (by exact ex_bool (c := (((n : Int) + (sm (endsAt l) n)) : Int) ≥ k) (by kernel_rfl) ⟨fun _ => by omega, fun _ => rfl⟩) ?_
                    try simp only [pp]
                    refine rl_end hgo <| hKK48 _ _ <| wp_cond_true (by kernel_rfl) <| wp_seq_k fun KK49 hKK49 => rl_begin fun hgK hgo => tk 57 (.int .i64 n) <| tk 6 (.int .i64 n) ?_
                    try simp only [pp]
                    refine rl_end hgo <| hKK49 _ _ ?_
                    refine wp_ret ?_
                    try simp only [Exit.then, Exit.inBlock]
                    refine bp_ret (v := .int .i64 n) (res1 rfl (res_tmp (by kernel_rfl))) ?_
                    exact ⟨ret_int (hr.is (by omega) (by rw [hma]; (repeat' split) <;> omega) hall), hB⟩
                  · refine tx 56 (.bool false) (by exact ex_bool (c := (((n : Int) + (sm (endsAt l) n)) : Int) ≥ k) (by kernel_rfl) ⟨fun q => (by cases q), fun q => absurd q (by omega)⟩) ?_
                    try simp only [pp]
                    refine rl_end hgo <| hKK48 _ _ <| wp_cond_false (by kernel_rfl) <| wp_skip <| hKK8 _ _ <| rl_begin fun hgK hgo => tk 14 (.int .i64 n) ?_
                    try simp only [pp]
                    refine tx 15 (.int .i64 (((n + 1 : Nat) : Int))) (by exact ex_arith (e := (n : Int) + 1) (r := ((n + 1 : Nat) : Int)) (by kernel_rfl) (by omega) (by omega)) <| tk 8 (.int .i64 (((n + 1 : Nat) : Int))) ?_
                    try simp only [pp]
                    refine rl_end hgo ?_
                    exact ⟨_, (by omega), fun gj => (#[.string (bs l), .int .i64 k, .int .i64 asked, undef, undef, undef, u 6, .int .i64 (sm (endsAt l) n), .int .i64 (((n + 1 : Nat) : Int)), .int .i64 ((n : Int) + (sm (endsAt l) n)), .int .i64 n, .string (bs l), .int .i64 l.length, .bool true, .int .i64 n, .int .i64 (((n + 1 : Nat) : Int)), .int .i64 n, .bool true, .bool true, .string (bs l), .int .i64 n, .int .i64 (((n - 1 : Nat) : Int)), .int .u8 (gb l (n - 1)), .bool false, .bool false, .string (bs l), .int .i64 n, .int .i64 (((n - 1 : Nat) : Int)), .int .u8 (gb l (n - 1)), .bool true, .bool true, .int .i64 n, .bool false, .bool false, .string (bs l), .int .i64 n, .int .i64 (((n - 2 : Nat) : Int)), .int .u8 (gb l (n - 2)), .bool true, .bool true, .bool true, .bool true, .bool true, .int .i64 (sm (endsAt l) (n - 1)), .int .i64 (sm (endsAt l) n), .int .i64 n, .int .i64 (sm (endsAt l) n), .int .i64 ((n : Int) + (sm (endsAt l) n)), .int .i64 asked, .bool false, u 50, .int .i64 asked, .bool false, u 53, .int .i64 ((n : Int) + (sm (endsAt l) n)), .int .i64 k, .bool false, u 57]).getD gj undef, n + 1, rfl, rfl, by omega, all_next hall (by rw [hma]; (repeat' split) <;> omega), by assumption⟩
            · refine tx 38 (.bool false) (by exact ex_bne (x := gb l (n - 2)) (y := 13) (by kernel_rfl) ⟨fun q => (by cases q), fun q => absurd q (by omega)⟩) <| tk 39 (.bool false) <| tk 40 (.bool false) <| tk 41 (.bool false) <| tk 42 (.bool false) ?_
              try simp only [pp]
              refine rl_end hgo <| hKK10 _ _ <| wp_cond_false (by kernel_rfl) <| wp_skip <| hKK9 _ _ <| wp_seq_k fun KK50 hKK50 => rl_begin fun hgK hgo => ?_
              have hst : sm (endsAt l) n = sm (endsAt l) (n - 1) := (by rw [ends_step l n (by omega), ends_no h3 (.inr ⟨by omega, by rw [show n - 1 - 1 = n - 2 by omega]; omega⟩)]; omega); rw [← hst]
              refine tk 45 (.int .i64 n) <| tk 46 (.int .i64 (sm (endsAt l) n)) ?_
              try simp only [pp]
              refine tx 47 (.int .i64 ((n : Int) + (sm (endsAt l) n))) (by exact ex_arith (e := (n : Int) + (sm (endsAt l) n)) (r := (n : Int) + (sm (endsAt l) n)) (by kernel_rfl) (by omega) (by omega)) <| tk 9 (.int .i64 ((n : Int) + (sm (endsAt l) n))) ?_
              try simp only [pp]
              refine rl_end hgo <| hKK50 _ _ <| wp_seq_k fun KK51 hKK51 => wp_seq_k fun KK52 hKK52 => rl_begin fun hgK hgo => tk 48 (.int .i64 asked) ?_
              try simp only [pp]
              by_cases h7 : asked = 0
              · refine tx 49 (.bool true) (by exact ex_beq (x := asked) (y := 0) (by kernel_rfl) ⟨fun _ => by omega, fun _ => rfl⟩) ?_
                try simp only [pp]
                refine rl_end hgo <| hKK52 _ _ <| wp_cond_true (by kernel_rfl) <| rl_begin fun hgK hgo => tk 50 (.int .i64 n) <| tk 9 (.int .i64 n) ?_
                try simp only [pp]
                refine rl_end hgo <| hKK51 _ _ <| wp_seq_k fun KK53 hKK53 => wp_seq_k fun KK54 hKK54 => rl_begin fun hgK hgo => tk 51 (.int .i64 asked) ?_
                try simp only [pp]
                refine tx 52 (.bool false) (by exact ex_beq (x := asked) (y := 1) (by kernel_rfl) ⟨fun q => (by cases q), fun q => absurd q (by omega)⟩) ?_
                try simp only [pp]
                refine rl_end hgo <| hKK54 _ _ <| wp_cond_false (by kernel_rfl) <| wp_skip <| hKK53 _ _ <| wp_seq_k fun KK55 hKK55 => rl_begin fun hgK hgo => tk 54 (.int .i64 n) <| tk 55 (.int .i64 k) ?_
                try simp only [pp]
                by_cases h9 : (n : Int) ≥ k
                · refine tx 56 (.bool true) (by exact ex_bool (c := (n : Int) ≥ k) (by kernel_rfl) ⟨fun _ => by omega, fun _ => rfl⟩) ?_
                  try simp only [pp]
                  refine rl_end hgo <| hKK55 _ _ <| wp_cond_true (by kernel_rfl) <| wp_seq_k fun KK56 hKK56 => rl_begin fun hgK hgo => tk 57 (.int .i64 n) <| tk 6 (.int .i64 n) ?_
                  try simp only [pp]
                  refine rl_end hgo <| hKK56 _ _ ?_
                  refine wp_ret ?_
                  try simp only [Exit.then, Exit.inBlock]
                  refine bp_ret (v := .int .i64 n) (res1 rfl (res_tmp (by kernel_rfl))) ?_
                  exact ⟨ret_int (hr.is (by omega) (by rw [hma]; (repeat' split) <;> omega) hall), hB⟩
                · refine tx 56 (.bool false) (by exact ex_bool (c := (n : Int) ≥ k) (by kernel_rfl) ⟨fun q => (by cases q), fun q => absurd q (by omega)⟩) ?_
                  try simp only [pp]
                  refine rl_end hgo <| hKK55 _ _ <| wp_cond_false (by kernel_rfl) <| wp_skip <| hKK8 _ _ <| rl_begin fun hgK hgo => tk 14 (.int .i64 n) ?_
                  try simp only [pp]
                  refine tx 15 (.int .i64 (((n + 1 : Nat) : Int))) (by exact ex_arith (e := (n : Int) + 1) (r := ((n + 1 : Nat) : Int)) (by kernel_rfl) (by omega) (by omega)) <| tk 8 (.int .i64 (((n + 1 : Nat) : Int))) ?_
                  try simp only [pp]
                  refine rl_end hgo ?_
                  exact ⟨_, (by omega), fun gj => (#[.string (bs l), .int .i64 k, .int .i64 asked, undef, undef, undef, u 6, .int .i64 (sm (endsAt l) n), .int .i64 (((n + 1 : Nat) : Int)), .int .i64 n, .int .i64 n, .string (bs l), .int .i64 l.length, .bool true, .int .i64 n, .int .i64 (((n + 1 : Nat) : Int)), .int .i64 n, .bool true, .bool true, .string (bs l), .int .i64 n, .int .i64 (((n - 1 : Nat) : Int)), .int .u8 (gb l (n - 1)), .bool false, .bool false, .string (bs l), .int .i64 n, .int .i64 (((n - 1 : Nat) : Int)), .int .u8 (gb l (n - 1)), .bool true, .bool true, .int .i64 n, .bool false, .bool false, .string (bs l), .int .i64 n, .int .i64 (((n - 2 : Nat) : Int)), .int .u8 (gb l (n - 2)), .bool false, .bool false, .bool false, .bool false, .bool false, u 43, u 44, .int .i64 n, .int .i64 (sm (endsAt l) n), .int .i64 ((n : Int) + (sm (endsAt l) n)), .int .i64 asked, .bool true, .int .i64 n, .int .i64 asked, .bool false, u 53, .int .i64 n, .int .i64 k, .bool false, u 57]).getD gj undef, n + 1, rfl, rfl, by omega, all_next hall (by rw [hma]; (repeat' split) <;> omega), by assumption⟩
              · refine tx 49 (.bool false) (by exact ex_beq (x := asked) (y := 0) (by kernel_rfl) ⟨fun q => (by cases q), fun q => absurd q (by omega)⟩) ?_
                try simp only [pp]
                refine rl_end hgo <| hKK52 _ _ <| wp_cond_false (by kernel_rfl) <| wp_skip <| hKK51 _ _ <| wp_seq_k fun KK57 hKK57 => wp_seq_k fun KK58 hKK58 => rl_begin fun hgK hgo => tk 51 (.int .i64 asked) ?_
                try simp only [pp]
                by_cases h8 : asked = 1
                · refine tx 52 (.bool true) (by exact ex_beq (x := asked) (y := 1) (by kernel_rfl) ⟨fun _ => by omega, fun _ => rfl⟩) ?_
                  try simp only [pp]
                  refine rl_end hgo <| hKK58 _ _ <| wp_cond_true (by kernel_rfl) <| rl_begin fun hgK hgo => tk 53 (.int .i64 (sm (endsAt l) n)) <| tk 9 (.int .i64 (sm (endsAt l) n)) ?_
                  try simp only [pp]
                  refine rl_end hgo <| hKK57 _ _ <| wp_seq_k fun KK59 hKK59 => rl_begin fun hgK hgo => tk 54 (.int .i64 (sm (endsAt l) n)) <| tk 55 (.int .i64 k) ?_
                  try simp only [pp]
                  by_cases h9 : sm (endsAt l) n ≥ k
                  · refine tx 56 (.bool true) (by exact ex_bool (c := (sm (endsAt l) n : Int) ≥ k) (by kernel_rfl) ⟨fun _ => by omega, fun _ => rfl⟩) ?_
                    try simp only [pp]
                    refine rl_end hgo <| hKK59 _ _ <| wp_cond_true (by kernel_rfl) <| wp_seq_k fun KK60 hKK60 => rl_begin fun hgK hgo => tk 57 (.int .i64 n) <| tk 6 (.int .i64 n) ?_
                    try simp only [pp]
                    refine rl_end hgo <| hKK60 _ _ ?_
                    refine wp_ret ?_
                    try simp only [Exit.then, Exit.inBlock]
                    refine bp_ret (v := .int .i64 n) (res1 rfl (res_tmp (by kernel_rfl))) ?_
                    exact ⟨ret_int (hr.is (by omega) (by rw [hma]; (repeat' split) <;> omega) hall), hB⟩
                  · refine tx 56 (.bool false) (by exact ex_bool (c := (sm (endsAt l) n : Int) ≥ k) (by kernel_rfl) ⟨fun q => (by cases q), fun q => absurd q (by omega)⟩) ?_
                    try simp only [pp]
                    refine rl_end hgo <| hKK59 _ _ <| wp_cond_false (by kernel_rfl) <| wp_skip <| hKK8 _ _ <| rl_begin fun hgK hgo => tk 14 (.int .i64 n) ?_
                    try simp only [pp]
                    refine tx 15 (.int .i64 (((n + 1 : Nat) : Int))) (by exact ex_arith (e := (n : Int) + 1) (r := ((n + 1 : Nat) : Int)) (by kernel_rfl) (by omega) (by omega)) <| tk 8 (.int .i64 (((n + 1 : Nat) : Int))) ?_
                    try simp only [pp]
                    refine rl_end hgo ?_
                    exact ⟨_, (by omega), fun gj => (#[.string (bs l), .int .i64 k, .int .i64 asked, undef, undef, undef, u 6, .int .i64 (sm (endsAt l) n), .int .i64 (((n + 1 : Nat) : Int)), .int .i64 (sm (endsAt l) n), .int .i64 n, .string (bs l), .int .i64 l.length, .bool true, .int .i64 n, .int .i64 (((n + 1 : Nat) : Int)), .int .i64 n, .bool true, .bool true, .string (bs l), .int .i64 n, .int .i64 (((n - 1 : Nat) : Int)), .int .u8 (gb l (n - 1)), .bool false, .bool false, .string (bs l), .int .i64 n, .int .i64 (((n - 1 : Nat) : Int)), .int .u8 (gb l (n - 1)), .bool true, .bool true, .int .i64 n, .bool false, .bool false, .string (bs l), .int .i64 n, .int .i64 (((n - 2 : Nat) : Int)), .int .u8 (gb l (n - 2)), .bool false, .bool false, .bool false, .bool false, .bool false, u 43, u 44, .int .i64 n, .int .i64 (sm (endsAt l) n), .int .i64 ((n : Int) + (sm (endsAt l) n)), .int .i64 asked, .bool false, u 50, .int .i64 asked, .bool true, .int .i64 (sm (endsAt l) n), .int .i64 (sm (endsAt l) n), .int .i64 k, .bool false, u 57]).getD gj undef, n + 1, rfl, rfl, by omega, all_next hall (by rw [hma]; (repeat' split) <;> omega), by assumption⟩
                · refine tx 52 (.bool false) (by exact ex_beq (x := asked) (y := 1) (by kernel_rfl) ⟨fun q => (by cases q), fun q => absurd q (by omega)⟩) ?_
                  try simp only [pp]
                  refine rl_end hgo <| hKK58 _ _ <| wp_cond_false (by kernel_rfl) <| wp_skip <| hKK57 _ _ <| wp_seq_k fun KK61 hKK61 => rl_begin fun hgK hgo => tk 54 (.int .i64 ((n : Int) + (sm (endsAt l) n))) <| tk 55 (.int .i64 k) ?_
                  try simp only [pp]
                  by_cases h9 : (n : Int) + sm (endsAt l) n ≥ k
                  · refine tx 56 (.bool true) (by exact ex_bool (c := (((n : Int) + (sm (endsAt l) n)) : Int) ≥ k) (by kernel_rfl) ⟨fun _ => by omega, fun _ => rfl⟩) ?_
                    try simp only [pp]
                    refine rl_end hgo <| hKK61 _ _ <| wp_cond_true (by kernel_rfl) <| wp_seq_k fun KK62 hKK62 => rl_begin fun hgK hgo => tk 57 (.int .i64 n) <| tk 6 (.int .i64 n) ?_
                    try simp only [pp]
                    refine rl_end hgo <| hKK62 _ _ ?_
                    refine wp_ret ?_
                    try simp only [Exit.then, Exit.inBlock]
                    refine bp_ret (v := .int .i64 n) (res1 rfl (res_tmp (by kernel_rfl))) ?_
                    exact ⟨ret_int (hr.is (by omega) (by rw [hma]; (repeat' split) <;> omega) hall), hB⟩
                  · refine tx 56 (.bool false) (by exact ex_bool (c := (((n : Int) + (sm (endsAt l) n)) : Int) ≥ k) (by kernel_rfl) ⟨fun q => (by cases q), fun q => absurd q (by omega)⟩) ?_
                    try simp only [pp]
                    refine rl_end hgo <| hKK61 _ _ <| wp_cond_false (by kernel_rfl) <| wp_skip <| hKK8 _ _ <| rl_begin fun hgK hgo => tk 14 (.int .i64 n) ?_
                    try simp only [pp]
                    refine tx 15 (.int .i64 (((n + 1 : Nat) : Int))) (by exact ex_arith (e := (n : Int) + 1) (r := ((n + 1 : Nat) : Int)) (by kernel_rfl) (by omega) (by omega)) <| tk 8 (.int .i64 (((n + 1 : Nat) : Int))) ?_
                    try simp only [pp]
                    refine rl_end hgo ?_
                    exact ⟨_, (by omega), fun gj => (#[.string (bs l), .int .i64 k, .int .i64 asked, undef, undef, undef, u 6, .int .i64 (sm (endsAt l) n), .int .i64 (((n + 1 : Nat) : Int)), .int .i64 ((n : Int) + (sm (endsAt l) n)), .int .i64 n, .string (bs l), .int .i64 l.length, .bool true, .int .i64 n, .int .i64 (((n + 1 : Nat) : Int)), .int .i64 n, .bool true, .bool true, .string (bs l), .int .i64 n, .int .i64 (((n - 1 : Nat) : Int)), .int .u8 (gb l (n - 1)), .bool false, .bool false, .string (bs l), .int .i64 n, .int .i64 (((n - 1 : Nat) : Int)), .int .u8 (gb l (n - 1)), .bool true, .bool true, .int .i64 n, .bool false, .bool false, .string (bs l), .int .i64 n, .int .i64 (((n - 2 : Nat) : Int)), .int .u8 (gb l (n - 2)), .bool false, .bool false, .bool false, .bool false, .bool false, u 43, u 44, .int .i64 n, .int .i64 (sm (endsAt l) n), .int .i64 ((n : Int) + (sm (endsAt l) n)), .int .i64 asked, .bool false, u 50, .int .i64 asked, .bool false, u 53, .int .i64 ((n : Int) + (sm (endsAt l) n)), .int .i64 k, .bool false, u 57]).getD gj undef, n + 1, rfl, rfl, by omega, all_next hall (by rw [hma]; (repeat' split) <;> omega), by assumption⟩
        · refine tx 29 (.bool false) (by exact ex_beq (x := gb l (n - 1)) (y := 10) (by kernel_rfl) ⟨fun q => (by cases q), fun q => absurd q (by omega)⟩) <| tk 30 (.bool false) ?_
          try simp only [pp]
          refine rl_pass (some 31) rfl (by kernel_rfl) ?_
          try simp only [pp]
          refine rl_pass (some 32) rfl (by kernel_rfl) ?_
          try simp only [pp]
          refine rl_pass (some 33) rfl (by kernel_rfl) ?_
          try simp only [pp]
          refine rl_pass (some 34) rfl (by kernel_rfl) ?_
          try simp only [pp]
          refine rl_pass (some 35) rfl (by kernel_rfl) ?_
          try simp only [pp]
          refine rl_pass (some 36) rfl (by kernel_rfl) ?_
          try simp only [pp]
          refine rl_pass (some 37) rfl (by kernel_rfl) ?_
          try simp only [pp]
          refine rl_pass (some 38) rfl (by kernel_rfl) ?_
          try simp only [pp]
          refine rl_pass (some 39) rfl (by kernel_rfl) ?_
          try simp only [pp]
          refine tk 40 (.bool false) <| tk 41 (.bool false) <| tk 42 (.bool false) ?_
          try simp only [pp]
          refine rl_end hgo <| hKK10 _ _ <| wp_cond_false (by kernel_rfl) <| wp_skip <| hKK9 _ _ <| wp_seq_k fun KK63 hKK63 => rl_begin fun hgK hgo => ?_
          have hst : sm (endsAt l) n = sm (endsAt l) (n - 1) := (by rw [ends_step l n (by omega), ends_no h3 (.inl h4)]; omega); rw [← hst]
          refine tk 45 (.int .i64 n) <| tk 46 (.int .i64 (sm (endsAt l) n)) ?_
          try simp only [pp]
          refine tx 47 (.int .i64 ((n : Int) + (sm (endsAt l) n))) (by exact ex_arith (e := (n : Int) + (sm (endsAt l) n)) (r := (n : Int) + (sm (endsAt l) n)) (by kernel_rfl) (by omega) (by omega)) <| tk 9 (.int .i64 ((n : Int) + (sm (endsAt l) n))) ?_
          try simp only [pp]
          refine rl_end hgo <| hKK63 _ _ <| wp_seq_k fun KK64 hKK64 => wp_seq_k fun KK65 hKK65 => rl_begin fun hgK hgo => tk 48 (.int .i64 asked) ?_
          try simp only [pp]
          by_cases h7 : asked = 0
          · refine tx 49 (.bool true) (by exact ex_beq (x := asked) (y := 0) (by kernel_rfl) ⟨fun _ => by omega, fun _ => rfl⟩) ?_
            try simp only [pp]
            refine rl_end hgo <| hKK65 _ _ <| wp_cond_true (by kernel_rfl) <| rl_begin fun hgK hgo => tk 50 (.int .i64 n) <| tk 9 (.int .i64 n) ?_
            try simp only [pp]
            refine rl_end hgo <| hKK64 _ _ <| wp_seq_k fun KK66 hKK66 => wp_seq_k fun KK67 hKK67 => rl_begin fun hgK hgo => tk 51 (.int .i64 asked) ?_
            try simp only [pp]
            refine tx 52 (.bool false) (by exact ex_beq (x := asked) (y := 1) (by kernel_rfl) ⟨fun q => (by cases q), fun q => absurd q (by omega)⟩) ?_
            try simp only [pp]
            refine rl_end hgo <| hKK67 _ _ <| wp_cond_false (by kernel_rfl) <| wp_skip <| hKK66 _ _ <| wp_seq_k fun KK68 hKK68 => rl_begin fun hgK hgo => tk 54 (.int .i64 n) <| tk 55 (.int .i64 k) ?_
            try simp only [pp]
            by_cases h9 : (n : Int) ≥ k
            · refine tx 56 (.bool true) (by exact ex_bool (c := (n : Int) ≥ k) (by kernel_rfl) ⟨fun _ => by omega, fun _ => rfl⟩) ?_
              try simp only [pp]
              refine rl_end hgo <| hKK68 _ _ <| wp_cond_true (by kernel_rfl) <| wp_seq_k fun KK69 hKK69 => rl_begin fun hgK hgo => tk 57 (.int .i64 n) <| tk 6 (.int .i64 n) ?_
              try simp only [pp]
              refine rl_end hgo <| hKK69 _ _ ?_
              refine wp_ret ?_
              try simp only [Exit.then, Exit.inBlock]
              refine bp_ret (v := .int .i64 n) (res1 rfl (res_tmp (by kernel_rfl))) ?_
              exact ⟨ret_int (hr.is (by omega) (by rw [hma]; (repeat' split) <;> omega) hall), hB⟩
            · refine tx 56 (.bool false) (by exact ex_bool (c := (n : Int) ≥ k) (by kernel_rfl) ⟨fun q => (by cases q), fun q => absurd q (by omega)⟩) ?_
              try simp only [pp]
              refine rl_end hgo <| hKK68 _ _ <| wp_cond_false (by kernel_rfl) <| wp_skip <| hKK8 _ _ <| rl_begin fun hgK hgo => tk 14 (.int .i64 n) ?_
              try simp only [pp]
              refine tx 15 (.int .i64 (((n + 1 : Nat) : Int))) (by exact ex_arith (e := (n : Int) + 1) (r := ((n + 1 : Nat) : Int)) (by kernel_rfl) (by omega) (by omega)) <| tk 8 (.int .i64 (((n + 1 : Nat) : Int))) ?_
              try simp only [pp]
              refine rl_end hgo ?_
              exact ⟨_, (by omega), fun gj => (#[.string (bs l), .int .i64 k, .int .i64 asked, undef, undef, undef, u 6, .int .i64 (sm (endsAt l) n), .int .i64 (((n + 1 : Nat) : Int)), .int .i64 n, .int .i64 n, .string (bs l), .int .i64 l.length, .bool true, .int .i64 n, .int .i64 (((n + 1 : Nat) : Int)), .int .i64 n, .bool true, .bool true, .string (bs l), .int .i64 n, .int .i64 (((n - 1 : Nat) : Int)), .int .u8 (gb l (n - 1)), .bool false, .bool false, .string (bs l), .int .i64 n, .int .i64 (((n - 1 : Nat) : Int)), .int .u8 (gb l (n - 1)), .bool false, .bool false, undef, undef, undef, undef, undef, undef, undef, undef, undef, .bool false, .bool false, .bool false, u 43, u 44, .int .i64 n, .int .i64 (sm (endsAt l) n), .int .i64 ((n : Int) + (sm (endsAt l) n)), .int .i64 asked, .bool true, .int .i64 n, .int .i64 asked, .bool false, u 53, .int .i64 n, .int .i64 k, .bool false, u 57]).getD gj undef, n + 1, rfl, rfl, by omega, all_next hall (by rw [hma]; (repeat' split) <;> omega), by assumption⟩
          · refine tx 49 (.bool false) (by exact ex_beq (x := asked) (y := 0) (by kernel_rfl) ⟨fun q => (by cases q), fun q => absurd q (by omega)⟩) ?_
            try simp only [pp]
            refine rl_end hgo <| hKK65 _ _ <| wp_cond_false (by kernel_rfl) <| wp_skip <| hKK64 _ _ <| wp_seq_k fun KK70 hKK70 => wp_seq_k fun KK71 hKK71 => rl_begin fun hgK hgo => tk 51 (.int .i64 asked) ?_
            try simp only [pp]
            by_cases h8 : asked = 1
            · refine tx 52 (.bool true) (by exact ex_beq (x := asked) (y := 1) (by kernel_rfl) ⟨fun _ => by omega, fun _ => rfl⟩) ?_
              try simp only [pp]
              refine rl_end hgo <| hKK71 _ _ <| wp_cond_true (by kernel_rfl) <| rl_begin fun hgK hgo => tk 53 (.int .i64 (sm (endsAt l) n)) <| tk 9 (.int .i64 (sm (endsAt l) n)) ?_
              try simp only [pp]
              refine rl_end hgo <| hKK70 _ _ <| wp_seq_k fun KK72 hKK72 => rl_begin fun hgK hgo => tk 54 (.int .i64 (sm (endsAt l) n)) <| tk 55 (.int .i64 k) ?_
              try simp only [pp]
              by_cases h9 : sm (endsAt l) n ≥ k
              · refine tx 56 (.bool true) (by exact ex_bool (c := (sm (endsAt l) n : Int) ≥ k) (by kernel_rfl) ⟨fun _ => by omega, fun _ => rfl⟩) ?_
                try simp only [pp]
                refine rl_end hgo <| hKK72 _ _ <| wp_cond_true (by kernel_rfl) <| wp_seq_k fun KK73 hKK73 => rl_begin fun hgK hgo => tk 57 (.int .i64 n) <| tk 6 (.int .i64 n) ?_
                try simp only [pp]
                refine rl_end hgo <| hKK73 _ _ ?_
                refine wp_ret ?_
                try simp only [Exit.then, Exit.inBlock]
                refine bp_ret (v := .int .i64 n) (res1 rfl (res_tmp (by kernel_rfl))) ?_
                exact ⟨ret_int (hr.is (by omega) (by rw [hma]; (repeat' split) <;> omega) hall), hB⟩
              · refine tx 56 (.bool false) (by exact ex_bool (c := (sm (endsAt l) n : Int) ≥ k) (by kernel_rfl) ⟨fun q => (by cases q), fun q => absurd q (by omega)⟩) ?_
                try simp only [pp]
                refine rl_end hgo <| hKK72 _ _ <| wp_cond_false (by kernel_rfl) <| wp_skip <| hKK8 _ _ <| rl_begin fun hgK hgo => tk 14 (.int .i64 n) ?_
                try simp only [pp]
                refine tx 15 (.int .i64 (((n + 1 : Nat) : Int))) (by exact ex_arith (e := (n : Int) + 1) (r := ((n + 1 : Nat) : Int)) (by kernel_rfl) (by omega) (by omega)) <| tk 8 (.int .i64 (((n + 1 : Nat) : Int))) ?_
                try simp only [pp]
                refine rl_end hgo ?_
                exact ⟨_, (by omega), fun gj => (#[.string (bs l), .int .i64 k, .int .i64 asked, undef, undef, undef, u 6, .int .i64 (sm (endsAt l) n), .int .i64 (((n + 1 : Nat) : Int)), .int .i64 (sm (endsAt l) n), .int .i64 n, .string (bs l), .int .i64 l.length, .bool true, .int .i64 n, .int .i64 (((n + 1 : Nat) : Int)), .int .i64 n, .bool true, .bool true, .string (bs l), .int .i64 n, .int .i64 (((n - 1 : Nat) : Int)), .int .u8 (gb l (n - 1)), .bool false, .bool false, .string (bs l), .int .i64 n, .int .i64 (((n - 1 : Nat) : Int)), .int .u8 (gb l (n - 1)), .bool false, .bool false, undef, undef, undef, undef, undef, undef, undef, undef, undef, .bool false, .bool false, .bool false, u 43, u 44, .int .i64 n, .int .i64 (sm (endsAt l) n), .int .i64 ((n : Int) + (sm (endsAt l) n)), .int .i64 asked, .bool false, u 50, .int .i64 asked, .bool true, .int .i64 (sm (endsAt l) n), .int .i64 (sm (endsAt l) n), .int .i64 k, .bool false, u 57]).getD gj undef, n + 1, rfl, rfl, by omega, all_next hall (by rw [hma]; (repeat' split) <;> omega), by assumption⟩
            · refine tx 52 (.bool false) (by exact ex_beq (x := asked) (y := 1) (by kernel_rfl) ⟨fun q => (by cases q), fun q => absurd q (by omega)⟩) ?_
              try simp only [pp]
              refine rl_end hgo <| hKK71 _ _ <| wp_cond_false (by kernel_rfl) <| wp_skip <| hKK70 _ _ <| wp_seq_k fun KK74 hKK74 => rl_begin fun hgK hgo => tk 54 (.int .i64 ((n : Int) + (sm (endsAt l) n))) <| tk 55 (.int .i64 k) ?_
              try simp only [pp]
              by_cases h9 : (n : Int) + sm (endsAt l) n ≥ k
              · refine tx 56 (.bool true) (by exact ex_bool (c := (((n : Int) + (sm (endsAt l) n)) : Int) ≥ k) (by kernel_rfl) ⟨fun _ => by omega, fun _ => rfl⟩) ?_
                try simp only [pp]
                refine rl_end hgo <| hKK74 _ _ <| wp_cond_true (by kernel_rfl) <| wp_seq_k fun KK75 hKK75 => rl_begin fun hgK hgo => tk 57 (.int .i64 n) <| tk 6 (.int .i64 n) ?_
                try simp only [pp]
                refine rl_end hgo <| hKK75 _ _ ?_
                refine wp_ret ?_
                try simp only [Exit.then, Exit.inBlock]
                refine bp_ret (v := .int .i64 n) (res1 rfl (res_tmp (by kernel_rfl))) ?_
                exact ⟨ret_int (hr.is (by omega) (by rw [hma]; (repeat' split) <;> omega) hall), hB⟩
              · refine tx 56 (.bool false) (by exact ex_bool (c := (((n : Int) + (sm (endsAt l) n)) : Int) ≥ k) (by kernel_rfl) ⟨fun q => (by cases q), fun q => absurd q (by omega)⟩) ?_
                try simp only [pp]
                refine rl_end hgo <| hKK74 _ _ <| wp_cond_false (by kernel_rfl) <| wp_skip <| hKK8 _ _ <| rl_begin fun hgK hgo => tk 14 (.int .i64 n) ?_
                try simp only [pp]
                refine tx 15 (.int .i64 (((n + 1 : Nat) : Int))) (by exact ex_arith (e := (n : Int) + 1) (r := ((n + 1 : Nat) : Int)) (by kernel_rfl) (by omega) (by omega)) <| tk 8 (.int .i64 (((n + 1 : Nat) : Int))) ?_
                try simp only [pp]
                refine rl_end hgo ?_
                exact ⟨_, (by omega), fun gj => (#[.string (bs l), .int .i64 k, .int .i64 asked, undef, undef, undef, u 6, .int .i64 (sm (endsAt l) n), .int .i64 (((n + 1 : Nat) : Int)), .int .i64 ((n : Int) + (sm (endsAt l) n)), .int .i64 n, .string (bs l), .int .i64 l.length, .bool true, .int .i64 n, .int .i64 (((n + 1 : Nat) : Int)), .int .i64 n, .bool true, .bool true, .string (bs l), .int .i64 n, .int .i64 (((n - 1 : Nat) : Int)), .int .u8 (gb l (n - 1)), .bool false, .bool false, .string (bs l), .int .i64 n, .int .i64 (((n - 1 : Nat) : Int)), .int .u8 (gb l (n - 1)), .bool false, .bool false, undef, undef, undef, undef, undef, undef, undef, undef, undef, .bool false, .bool false, .bool false, u 43, u 44, .int .i64 n, .int .i64 (sm (endsAt l) n), .int .i64 ((n : Int) + (sm (endsAt l) n)), .int .i64 asked, .bool false, u 50, .int .i64 asked, .bool false, u 53, .int .i64 ((n : Int) + (sm (endsAt l) n)), .int .i64 k, .bool false, u 57]).getD gj undef, n + 1, rfl, rfl, by omega, all_next hall (by rw [hma]; (repeat' split) <;> omega), by assumption⟩
    · refine tx 17 (.bool false) (by exact ex_bool (c := (n : Int) > 0) (by kernel_rfl) ⟨fun q => (by cases q), fun q => absurd q (by omega)⟩) <| tk 18 (.bool false) ?_
      try simp only [pp]
      refine rl_pass (some 19) rfl (by kernel_rfl) ?_
      try simp only [pp]
      refine rl_pass (some 20) rfl (by kernel_rfl) ?_
      try simp only [pp]
      refine rl_pass (some 21) rfl (by kernel_rfl) ?_
      try simp only [pp]
      refine rl_pass (some 22) rfl (by kernel_rfl) ?_
      try simp only [pp]
      refine rl_pass (some 23) rfl (by kernel_rfl) ?_
      try simp only [pp]
      refine rl_pass (some 24) rfl (by kernel_rfl) ?_
      try simp only [pp]
      refine rl_pass (some 25) rfl (by kernel_rfl) ?_
      try simp only [pp]
      refine rl_pass (some 26) rfl (by kernel_rfl) ?_
      try simp only [pp]
      refine rl_pass (some 27) rfl (by kernel_rfl) ?_
      try simp only [pp]
      refine rl_pass (some 28) rfl (by kernel_rfl) ?_
      try simp only [pp]
      refine rl_pass (some 29) rfl (by kernel_rfl) ?_
      try simp only [pp]
      refine rl_pass (some 30) rfl (by kernel_rfl) ?_
      try simp only [pp]
      refine rl_pass (some 31) rfl (by kernel_rfl) ?_
      try simp only [pp]
      refine rl_pass (some 32) rfl (by kernel_rfl) ?_
      try simp only [pp]
      refine rl_pass (some 33) rfl (by kernel_rfl) ?_
      try simp only [pp]
      refine rl_pass (some 34) rfl (by kernel_rfl) ?_
      try simp only [pp]
      refine rl_pass (some 35) rfl (by kernel_rfl) ?_
      try simp only [pp]
      refine rl_pass (some 36) rfl (by kernel_rfl) ?_
      try simp only [pp]
      refine rl_pass (some 37) rfl (by kernel_rfl) ?_
      try simp only [pp]
      refine rl_pass (some 38) rfl (by kernel_rfl) ?_
      try simp only [pp]
      refine rl_pass (some 39) rfl (by kernel_rfl) ?_
      try simp only [pp]
      refine rl_pass (some 40) rfl (by kernel_rfl) ?_
      try simp only [pp]
      refine rl_pass (some 41) rfl (by kernel_rfl) ?_
      try simp only [pp]
      refine tk 42 (.bool false) ?_
      try simp only [pp]
      refine rl_end hgo <| hKK10 _ _ <| wp_cond_false (by kernel_rfl) <| wp_skip <| hKK9 _ _ <| wp_seq_k fun KK76 hKK76 => rl_begin fun hgK hgo => ?_
      have hst : sm (endsAt l) n = sm (endsAt l) (n - 1) := (by rw [show n - 1 = n by omega]); rw [← hst]
      refine tk 45 (.int .i64 n) <| tk 46 (.int .i64 (sm (endsAt l) n)) ?_
      try simp only [pp]
      refine tx 47 (.int .i64 ((n : Int) + (sm (endsAt l) n))) (by exact ex_arith (e := (n : Int) + (sm (endsAt l) n)) (r := (n : Int) + (sm (endsAt l) n)) (by kernel_rfl) (by omega) (by omega)) <| tk 9 (.int .i64 ((n : Int) + (sm (endsAt l) n))) ?_
      try simp only [pp]
      refine rl_end hgo <| hKK76 _ _ <| wp_seq_k fun KK77 hKK77 => wp_seq_k fun KK78 hKK78 => rl_begin fun hgK hgo => tk 48 (.int .i64 asked) ?_
      try simp only [pp]
      by_cases h7 : asked = 0
      · refine tx 49 (.bool true) (by exact ex_beq (x := asked) (y := 0) (by kernel_rfl) ⟨fun _ => by omega, fun _ => rfl⟩) ?_
        try simp only [pp]
        refine rl_end hgo <| hKK78 _ _ <| wp_cond_true (by kernel_rfl) <| rl_begin fun hgK hgo => tk 50 (.int .i64 n) <| tk 9 (.int .i64 n) ?_
        try simp only [pp]
        refine rl_end hgo <| hKK77 _ _ <| wp_seq_k fun KK79 hKK79 => wp_seq_k fun KK80 hKK80 => rl_begin fun hgK hgo => tk 51 (.int .i64 asked) ?_
        try simp only [pp]
        refine tx 52 (.bool false) (by exact ex_beq (x := asked) (y := 1) (by kernel_rfl) ⟨fun q => (by cases q), fun q => absurd q (by omega)⟩) ?_
        try simp only [pp]
        refine rl_end hgo <| hKK80 _ _ <| wp_cond_false (by kernel_rfl) <| wp_skip <| hKK79 _ _ <| wp_seq_k fun KK81 hKK81 => rl_begin fun hgK hgo => tk 54 (.int .i64 n) <| tk 55 (.int .i64 k) ?_
        try simp only [pp]
        by_cases h9 : (n : Int) ≥ k
        · refine tx 56 (.bool true) (by exact ex_bool (c := (n : Int) ≥ k) (by kernel_rfl) ⟨fun _ => by omega, fun _ => rfl⟩) ?_
          try simp only [pp]
          refine rl_end hgo <| hKK81 _ _ <| wp_cond_true (by kernel_rfl) <| wp_seq_k fun KK82 hKK82 => rl_begin fun hgK hgo => tk 57 (.int .i64 n) <| tk 6 (.int .i64 n) ?_
          try simp only [pp]
          refine rl_end hgo <| hKK82 _ _ ?_
          refine wp_ret ?_
          try simp only [Exit.then, Exit.inBlock]
          refine bp_ret (v := .int .i64 n) (res1 rfl (res_tmp (by kernel_rfl))) ?_
          exact ⟨ret_int (hr.is (by omega) (by rw [hma]; (repeat' split) <;> omega) hall), hB⟩
        · refine tx 56 (.bool false) (by exact ex_bool (c := (n : Int) ≥ k) (by kernel_rfl) ⟨fun q => (by cases q), fun q => absurd q (by omega)⟩) ?_
          try simp only [pp]
          refine rl_end hgo <| hKK81 _ _ <| wp_cond_false (by kernel_rfl) <| wp_skip <| hKK8 _ _ <| rl_begin fun hgK hgo => tk 14 (.int .i64 n) ?_
          try simp only [pp]
          refine tx 15 (.int .i64 (((n + 1 : Nat) : Int))) (by exact ex_arith (e := (n : Int) + 1) (r := ((n + 1 : Nat) : Int)) (by kernel_rfl) (by omega) (by omega)) <| tk 8 (.int .i64 (((n + 1 : Nat) : Int))) ?_
          try simp only [pp]
          refine rl_end hgo ?_
          exact ⟨_, (by omega), fun gj => (#[.string (bs l), .int .i64 k, .int .i64 asked, undef, undef, undef, u 6, .int .i64 (sm (endsAt l) n), .int .i64 (((n + 1 : Nat) : Int)), .int .i64 n, .int .i64 n, .string (bs l), .int .i64 l.length, .bool true, .int .i64 n, .int .i64 (((n + 1 : Nat) : Int)), .int .i64 n, .bool false, .bool false, undef, undef, undef, undef, undef, undef, undef, undef, undef, undef, undef, undef, undef, undef, undef, undef, undef, undef, undef, undef, undef, undef, undef, .bool false, u 43, u 44, .int .i64 n, .int .i64 (sm (endsAt l) n), .int .i64 ((n : Int) + (sm (endsAt l) n)), .int .i64 asked, .bool true, .int .i64 n, .int .i64 asked, .bool false, u 53, .int .i64 n, .int .i64 k, .bool false, u 57]).getD gj undef, n + 1, rfl, rfl, by omega, all_next hall (by rw [hma]; (repeat' split) <;> omega), by assumption⟩
      · refine tx 49 (.bool false) (by exact ex_beq (x := asked) (y := 0) (by kernel_rfl) ⟨fun q => (by cases q), fun q => absurd q (by omega)⟩) ?_
        try simp only [pp]
        refine rl_end hgo <| hKK78 _ _ <| wp_cond_false (by kernel_rfl) <| wp_skip <| hKK77 _ _ <| wp_seq_k fun KK83 hKK83 => wp_seq_k fun KK84 hKK84 => rl_begin fun hgK hgo => tk 51 (.int .i64 asked) ?_
        try simp only [pp]
        by_cases h8 : asked = 1
        · refine tx 52 (.bool true) (by exact ex_beq (x := asked) (y := 1) (by kernel_rfl) ⟨fun _ => by omega, fun _ => rfl⟩) ?_
          try simp only [pp]
          refine rl_end hgo <| hKK84 _ _ <| wp_cond_true (by kernel_rfl) <| rl_begin fun hgK hgo => tk 53 (.int .i64 (sm (endsAt l) n)) <| tk 9 (.int .i64 (sm (endsAt l) n)) ?_
          try simp only [pp]
          refine rl_end hgo <| hKK83 _ _ <| wp_seq_k fun KK85 hKK85 => rl_begin fun hgK hgo => tk 54 (.int .i64 (sm (endsAt l) n)) <| tk 55 (.int .i64 k) ?_
          try simp only [pp]
          by_cases h9 : sm (endsAt l) n ≥ k
          · refine tx 56 (.bool true) (by exact ex_bool (c := (sm (endsAt l) n : Int) ≥ k) (by kernel_rfl) ⟨fun _ => by omega, fun _ => rfl⟩) ?_
            try simp only [pp]
            refine rl_end hgo <| hKK85 _ _ <| wp_cond_true (by kernel_rfl) <| wp_seq_k fun KK86 hKK86 => rl_begin fun hgK hgo => tk 57 (.int .i64 n) <| tk 6 (.int .i64 n) ?_
            try simp only [pp]
            refine rl_end hgo <| hKK86 _ _ ?_
            refine wp_ret ?_
            try simp only [Exit.then, Exit.inBlock]
            refine bp_ret (v := .int .i64 n) (res1 rfl (res_tmp (by kernel_rfl))) ?_
            exact ⟨ret_int (hr.is (by omega) (by rw [hma]; (repeat' split) <;> omega) hall), hB⟩
          · refine tx 56 (.bool false) (by exact ex_bool (c := (sm (endsAt l) n : Int) ≥ k) (by kernel_rfl) ⟨fun q => (by cases q), fun q => absurd q (by omega)⟩) ?_
            try simp only [pp]
            refine rl_end hgo <| hKK85 _ _ <| wp_cond_false (by kernel_rfl) <| wp_skip <| hKK8 _ _ <| rl_begin fun hgK hgo => tk 14 (.int .i64 n) ?_
            try simp only [pp]
            refine tx 15 (.int .i64 (((n + 1 : Nat) : Int))) (by exact ex_arith (e := (n : Int) + 1) (r := ((n + 1 : Nat) : Int)) (by kernel_rfl) (by omega) (by omega)) <| tk 8 (.int .i64 (((n + 1 : Nat) : Int))) ?_
            try simp only [pp]
            refine rl_end hgo ?_
            exact ⟨_, (by omega), fun gj => (#[.string (bs l), .int .i64 k, .int .i64 asked, undef, undef, undef, u 6, .int .i64 (sm (endsAt l) n), .int .i64 (((n + 1 : Nat) : Int)), .int .i64 (sm (endsAt l) n), .int .i64 n, .string (bs l), .int .i64 l.length, .bool true, .int .i64 n, .int .i64 (((n + 1 : Nat) : Int)), .int .i64 n, .bool false, .bool false, undef, undef, undef, undef, undef, undef, undef, undef, undef, undef, undef, undef, undef, undef, undef, undef, undef, undef, undef, undef, undef, undef, undef, .bool false, u 43, u 44, .int .i64 n, .int .i64 (sm (endsAt l) n), .int .i64 ((n : Int) + (sm (endsAt l) n)), .int .i64 asked, .bool false, u 50, .int .i64 asked, .bool true, .int .i64 (sm (endsAt l) n), .int .i64 (sm (endsAt l) n), .int .i64 k, .bool false, u 57]).getD gj undef, n + 1, rfl, rfl, by omega, all_next hall (by rw [hma]; (repeat' split) <;> omega), by assumption⟩
        · refine tx 52 (.bool false) (by exact ex_beq (x := asked) (y := 1) (by kernel_rfl) ⟨fun q => (by cases q), fun q => absurd q (by omega)⟩) ?_
          try simp only [pp]
          refine rl_end hgo <| hKK84 _ _ <| wp_cond_false (by kernel_rfl) <| wp_skip <| hKK83 _ _ <| wp_seq_k fun KK87 hKK87 => rl_begin fun hgK hgo => tk 54 (.int .i64 ((n : Int) + (sm (endsAt l) n))) <| tk 55 (.int .i64 k) ?_
          try simp only [pp]
          by_cases h9 : (n : Int) + sm (endsAt l) n ≥ k
          · refine tx 56 (.bool true) (by exact ex_bool (c := (((n : Int) + (sm (endsAt l) n)) : Int) ≥ k) (by kernel_rfl) ⟨fun _ => by omega, fun _ => rfl⟩) ?_
            try simp only [pp]
            refine rl_end hgo <| hKK87 _ _ <| wp_cond_true (by kernel_rfl) <| wp_seq_k fun KK88 hKK88 => rl_begin fun hgK hgo => tk 57 (.int .i64 n) <| tk 6 (.int .i64 n) ?_
            try simp only [pp]
            refine rl_end hgo <| hKK88 _ _ ?_
            refine wp_ret ?_
            try simp only [Exit.then, Exit.inBlock]
            refine bp_ret (v := .int .i64 n) (res1 rfl (res_tmp (by kernel_rfl))) ?_
            exact ⟨ret_int (hr.is (by omega) (by rw [hma]; (repeat' split) <;> omega) hall), hB⟩
          · refine tx 56 (.bool false) (by exact ex_bool (c := (((n : Int) + (sm (endsAt l) n)) : Int) ≥ k) (by kernel_rfl) ⟨fun q => (by cases q), fun q => absurd q (by omega)⟩) ?_
            try simp only [pp]
            refine rl_end hgo <| hKK87 _ _ <| wp_cond_false (by kernel_rfl) <| wp_skip <| hKK8 _ _ <| rl_begin fun hgK hgo => tk 14 (.int .i64 n) ?_
            try simp only [pp]
            refine tx 15 (.int .i64 (((n + 1 : Nat) : Int))) (by exact ex_arith (e := (n : Int) + 1) (r := ((n + 1 : Nat) : Int)) (by kernel_rfl) (by omega) (by omega)) <| tk 8 (.int .i64 (((n + 1 : Nat) : Int))) ?_
            try simp only [pp]
            refine rl_end hgo ?_
            exact ⟨_, (by omega), fun gj => (#[.string (bs l), .int .i64 k, .int .i64 asked, undef, undef, undef, u 6, .int .i64 (sm (endsAt l) n), .int .i64 (((n + 1 : Nat) : Int)), .int .i64 ((n : Int) + (sm (endsAt l) n)), .int .i64 n, .string (bs l), .int .i64 l.length, .bool true, .int .i64 n, .int .i64 (((n + 1 : Nat) : Int)), .int .i64 n, .bool false, .bool false, undef, undef, undef, undef, undef, undef, undef, undef, undef, undef, undef, undef, undef, undef, undef, undef, undef, undef, undef, undef, undef, undef, undef, .bool false, u 43, u 44, .int .i64 n, .int .i64 (sm (endsAt l) n), .int .i64 ((n : Int) + (sm (endsAt l) n)), .int .i64 asked, .bool false, u 50, .int .i64 asked, .bool false, u 53, .int .i64 ((n : Int) + (sm (endsAt l) n)), .int .i64 k, .bool false, u 57]).getD gj undef, n + 1, rfl, rfl, by omega, all_next hall (by rw [hma]; (repeat' split) <;> omega), by assumption⟩
  · refine tx 13 (.bool false) (by exact ex_bool (c := (n : Int) ≤ l.length) (by kernel_rfl) ⟨fun q => (by cases q), fun q => absurd q (by omega)⟩) ?_
    try simp only [pp]
    refine rl_end hgo <| hKK7 _ _ <| wp_cond_false (by kernel_rfl) <| wp_exit <| hKK3 _ _ <| wp_seq_k fun KK89 hKK89 => rl_begin fun hgK hgo => tk 6 (.int .i64 (-1)) ?_
    try simp only [pp]
    refine rl_end hgo <| hKK89 _ _ ?_
    refine wp_ret ?_
    try simp only [Exit.then, Exit.inBlock]
    refine bp_ret (v := .int .i64 (-1)) (res1 rfl (res_tmp (by kernel_rfl))) ?_
    exact ⟨ret_int (hr.no (fun j hj => hall j (by omega))), hB⟩
end Go.Proofs.YtliphfgiaioebaaDoor
