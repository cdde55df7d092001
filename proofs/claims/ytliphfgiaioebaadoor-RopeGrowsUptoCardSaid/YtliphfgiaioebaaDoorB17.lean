/-
  Law 9: RopeGrows' function.
  The four laid variables: what the rows' list says of their cells.
  Law 9: an input's acts and bytes, opened; read again behind the call; a world that the cards start from.
  RopeGrows, where what it reads is of bulk at most 1048576: whatever the bytes and the numbers, it answers true, and its input reads as it did.
-/
import Derived.Test.YtliphfgiaioebaaDoorB16
import Derived.Test.YtliphfgiaioebaaDoorCards
import Derived.Test.YtliphfgiaioebaaDoorTie
import Derived.Lib.LaidTab
import Derived.Deep.Strs
import Derived.OpenShut
import Derived.ProofKit
import Derived.Deep.DeepHandedRow
import Derived.Deep.Slices
import Derived.Deep.Fields
import Derived.ChangeSame
namespace Go.Proofs.YtliphfgiaioebaaDoor
set_option linter.unusedVariables false
set_option linter.unusedSimpArgs false
open Go.RowKit
set_option maxRecDepth 100000
set_option maxHeartbeats 16000000
theorem ex_es {o : Oper} {ρ : Operand → Value} {w : World} {a : List UInt8} (h : (execOp ρ o).run Tryd.prog w = .ok (.value (.bool ((bs a).toList == (bs a).toList))) w) : (execOp ρ o).run Tryd.prog w = .ok (.value (.bool true)) w := by rw [h]; simp
theorem depth_ok {d : Nat} {l : List UInt8} (h0 : l = [] → d = 0) (h1 : 0 < l.length → ∃ t : Tr, t.ok ∧ t.bytes = l ∧ t.h = d) : d ≤ 2 * digitsN l.length + 4 := by
  rcases Nat.eq_zero_or_pos l.length with h | h
  · rw [h0 (List.length_eq_zero_iff.1 h)]; omega
  · obtain ⟨s, hs1, hs2, hs3⟩ := h1 h
    have := s.h_digits hs1
    rwa [hs2, hs3] at this
theorem RopeGrows_walk (A : Option Addr) (c : Nat) (b : List UInt8) (wh tm : Int) (w : World) (hT : Tabs w) (hA : BytesAt w A b) (hc : b.length ≤ c) (hAc : A = none → c = 0) (hm : b.length ≤ 1100000) :
    Calls Tryd.prog 10 #[.slice A b.length c, .int .i64 wh, .int .i64 tm] w fun e w' => e = .returned (.bool true) ∧ Ltr w w' := by
  have hB := Ltr.refl w
  go_enter Tryd.func10, Tryd.ntmps10
  have h4 := hT.four
  refine wp_seq_k fun KK1 hKK1 => rl_begin fun hgK hgo => tk 6 (.bool false) ?_
  try simp only [pp]
  refine rl_end hgo <| hKK1 _ _ <| wp_seq_k fun KK2 hKK2 => wp_seq_k fun KK3 hKK3 => rl_begin fun hgK hgo => ?_
  refine rl_call (some 15) 17 #[] rfl (by kernel_rfl) (by kernel_rfl) (wakes_any _ hT) ?_
  rintro e w4 ⟨rfl, hL4⟩
  refine ⟨_, rfl, ?_⟩
  replace hT := hT.later hL4
  replace hB := hB.later hL4
  replace hA := hA.later hL4
  have hz4 := hL4.size
  try simp only [pp]
  refine tk 16 (.bool false) ?_
  try simp only [pp]
  refine rl_end hgo <| hKK3 _ _ <| wp_cond_false (by kernel_rfl) <| wp_skip <| hKK2 _ _ <| wp_seq_k fun KK5 hKK5 => rl_begin fun hgK hgo => ?_
  refine rl_call (some 18) 36 #[.slice none (@List.nil UInt8).length 0] rfl (by kernel_rfl) (by kernel_rfl) (New_any none 0 [] _ hT (BytesAt.nil _ _) (Nat.zero_le _) (by simp)) ?_
  rintro e w6 ⟨r0, rfl, hL6, hr, -⟩
  refine ⟨_, rfl, ?_⟩
  replace hT := hT.later hL6
  replace hB := hB.later hL6
  replace hA := hA.later hL6
  have hz6 := hL6.size
  try simp only [pp]
  refine tk 17 (.tuple #[.pointer (some ⟨r0, 0, none⟩), .int .i64 0]) <| tk 19 (.pointer (some ⟨r0, 0, none⟩)) <| tk 20 (.int .i64 0) <| tk 7 (.pointer (some ⟨r0, 0, none⟩)) <| tk 8 (.int .i64 0) ?_
  try simp only [pp]
  refine rl_end hgo <| hKK5 _ _ <| wp_seq_k fun KK7 hKK7 => wp_seq_k fun KK8 hKK8 => rl_begin fun hgK hgo => tk 21 (.int .i64 0) ?_
  try simp only [pp]
  refine tx 22 (.bool false) (by exact ex_bne (x := 0) (y := 0) (by kernel_rfl) ⟨fun q => (by cases q), fun q => absurd q (by omega)⟩) <| tk 23 (.bool false) <| tk 24 (.pointer (some ⟨r0, 0, none⟩)) <| tk 25 (.bool false) <| tk 26 (.bool false) ?_
  try simp only [pp]
  refine rl_end hgo <| hKK8 _ _ <| wp_cond_false (by kernel_rfl) <| wp_skip <| hKK7 _ _ <| wp_seq_k fun KK9 hKK9 => rl_begin fun hgK hgo => tk 9 (.string (bs [])) ?_
  try simp only [pp]
  refine rl_end hgo <| hKK9 _ _ <| wp_seq_k fun KK10 hKK10 => wp_seq_k fun KK11 hKK11 => rl_begin fun hgK hgo => tk 10 (.int .i64 0) ?_
  try simp only [pp]
  refine rl_end hgo <| hKK11 _ _ <| wp_block ?_
  refine wp_loop_ghost (fun gn ga wl => ∃ (u : Nat → Value) (i r : Nat) (want : List UInt8), gn = b.length - i ∧ ga = ⟨#[.slice A b.length c, .int .i64 wh, .int .i64 tm, undef, undef, undef, u 6, .pointer (some ⟨r, 0, none⟩), .int .i64 0, .string (bs want), .int .i64 i, u 11, u 12, u 13, u 14, .bool true, .bool false, .tuple #[.pointer (some ⟨r0, 0, none⟩), .int .i64 0], .tuple #[.pointer (some ⟨r0, 0, none⟩), .int .i64 0], .pointer (some ⟨r0, 0, none⟩), .int .i64 0, .int .i64 0, .bool false, .bool false, .pointer (some ⟨r0, 0, none⟩), .bool false, .bool false, u 27, u 28, u 29, u 30, u 31, u 32, u 33, u 34, u 35, u 36, u 37, u 38, u 39, u 40, u 41, u 42, u 43, u 44, u 45, u 46, u 47, u 48, u 49, u 50, u 51, u 52, u 53, u 54, u 55, u 56, u 57, u 58, u 59, u 60, u 61, u 62, u 63, u 64, u 65, u 66, u 67, u 68, u 69, u 70, u 71, u 72, u 73, u 74, u 75, u 76, u 77, u 78, u 79, u 80, u 81, u 82, u 83, u 84, u 85, u 86, u 87, undef, undef, undef, undef, undef, undef, undef, undef, undef, undef, undef, undef, undef, undef], []⟩ ∧ (i ≤ b.length) ∧ (i ≤ 400) ∧ (want.length ≤ 3 * i) ∧ (Tabs wl) ∧ (Ltr w wl) ∧ (BytesAt wl A b) ∧ (RopeAt wl r want)) ((fun (i r : Nat) (want : List UInt8) => (b.length - i : Nat)) 0 r0 []) ?_ ?_
  · exact ⟨fun gj => (#[.slice A b.length c, .int .i64 wh, .int .i64 tm, undef, undef, undef, .bool false, .pointer (some ⟨r0, 0, none⟩), .int .i64 0, .string (bs []), .int .i64 0, undef, undef, undef, undef, .bool true, .bool false, .tuple #[.pointer (some ⟨r0, 0, none⟩), .int .i64 0], .tuple #[.pointer (some ⟨r0, 0, none⟩), .int .i64 0], .pointer (some ⟨r0, 0, none⟩), .int .i64 0, .int .i64 0, .bool false, .bool false, .pointer (some ⟨r0, 0, none⟩), .bool false, .bool false, undef, undef, undef, undef, undef, undef, undef, undef, undef, undef, undef, undef, undef, undef, undef, undef, undef, undef, undef, undef, undef, undef, undef, undef, undef, undef, undef, undef, undef, undef, undef, undef, undef, undef, undef, undef, undef, undef, undef, undef, undef, undef, undef, undef, undef, undef, undef, undef, undef, undef, undef, undef, undef, undef, undef, undef, undef, undef, undef, undef, undef, undef, undef, undef, undef, undef, undef, undef, undef, undef, undef, undef, undef, undef, undef]).getD gj undef, 0, r0, [], rfl, rfl, Nat.zero_le _, Nat.zero_le _, Nat.le_refl _, by assumption, by assumption, by assumption, by assumption⟩
  rintro n12 a12 w12 ⟨u, i, r, want, rfl, rfl, hil', hi4', hwl', hT', hB', hA', hr'⟩
  clear hr hA hB hT
  have hil := hil'
  clear hil'
  have hi4 := hi4'
  clear hi4'
  have hwl := hwl'
  clear hwl'
  have hT := hT'
  clear hT'
  have hB := hB'
  clear hB'
  have hA := hA'
  clear hA'
  have hr := hr'
  clear hr'
  refine wp_seq_k fun KK13 hKK13 => wp_seq_k fun KK14 hKK14 => rl_begin fun hgK hgo => tk 27 (.int .i64 i) <| tk 28 (.slice A b.length c) <| tk 29 (.int .i64 b.length) ?_
  try simp only [pp]
  by_cases h1 : (i : Int) < b.length
  · refine tx 30 (.bool true) (by exact ex_bool (c := (i : Int) < b.length) (by kernel_rfl) ⟨fun _ => by omega, fun _ => rfl⟩) <| tk 31 (.bool true) <| tk 32 (.int .i64 i) ?_
    try simp only [pp]
    by_cases h2 : (i : Int) < 400
    · refine tx 33 (.bool true) (by exact ex_bool (c := (i : Int) < 400) (by kernel_rfl) ⟨fun _ => by omega, fun _ => rfl⟩) <| tk 34 (.bool true) ?_
      try simp only [pp]
      refine rl_end hgo <| hKK14 _ _ <| wp_cond_true (by kernel_rfl) <| wp_skip <| hKK13 _ _ <| wp_seq_k fun KK15 hKK15 => wp_block <| wp_seq_k fun KK16 hKK16 => rl_begin fun hgK hgo => tk 37 (.string (bs want)) ?_
      try simp only [pp]
      refine tx 38 (.int .i64 want.length) (by exact ex_len_bs (by kernel_rfl)) <| tk 11 (.int .i64 want.length) ?_
      try simp only [pp]
      refine rl_end hgo <| hKK16 _ _ <| wp_seq_k fun KK17 hKK17 => wp_seq_k fun KK18 hKK18 => rl_begin fun hgK hgo => tk 39 (.int .i64 wh) ?_
      try simp only [pp]
      by_cases h3 : wh = 0
      · refine tx 40 (.bool true) (by exact ex_beq (x := wh) (y := 0) (by kernel_rfl) ⟨fun _ => by omega, fun _ => rfl⟩) ?_
        try simp only [pp]
        refine rl_end hgo <| hKK18 _ _ <| wp_cond_true (by kernel_rfl) <| rl_begin fun hgK hgo => tk 11 (.int .i64 0) ?_
        try simp only [pp]
        refine rl_end hgo <| hKK17 _ _ <| wp_seq_k fun KK19 hKK19 => wp_seq_k fun KK20 hKK20 => rl_begin fun hgK hgo => tk 41 (.int .i64 wh) ?_
        try simp only [pp]
        refine tx 42 (.bool false) (by exact ex_beq (x := wh) (y := 1) (by kernel_rfl) ⟨fun q => (by cases q), fun q => absurd q (by omega)⟩) ?_
        try simp only [pp]
        refine rl_end hgo <| hKK20 _ _ <| wp_cond_false (by kernel_rfl) <| wp_skip <| hKK19 _ _ <| wp_seq_k fun KK21 hKK21 => rl_begin fun hgK hgo => ?_
        have hone : ((b.take (i + 1)).drop i).length = 1 := by rw [List.length_drop, List.length_take]; omega
        refine tk 12 (.int .i64 0) ?_
        try simp only [pp]
        refine rl_end hgo <| hKK21 _ _ <| wp_block ?_
        refine wp_loop_ghost (fun gn ga wl => ∃ (u : Nat → Value) (k r2 : Nat) (wk : List UInt8), gn = 3 - k ∧ ga = ⟨#[.slice A b.length c, .int .i64 wh, .int .i64 tm, undef, undef, undef, u 6, .pointer (some ⟨r2, 0, none⟩), .int .i64 0, .string (bs wk), .int .i64 i, .int .i64 0, .int .i64 k, u 13, u 14, .bool true, .bool false, .tuple #[.pointer (some ⟨r0, 0, none⟩), .int .i64 0], .tuple #[.pointer (some ⟨r0, 0, none⟩), .int .i64 0], .pointer (some ⟨r0, 0, none⟩), .int .i64 0, .int .i64 0, .bool false, .bool false, .pointer (some ⟨r0, 0, none⟩), .bool false, .bool false, .int .i64 i, .slice A b.length c, .int .i64 b.length, .bool true, .bool true, .int .i64 i, .bool true, .bool true, u 35, u 36, .string (bs want), .int .i64 want.length, .int .i64 wh, .bool true, .int .i64 wh, .bool false, u 43, u 44, u 45, u 46, u 47, u 48, u 49, u 50, u 51, u 52, u 53, u 54, u 55, u 56, u 57, u 58, u 59, u 60, u 61, u 62, u 63, u 64, u 65, u 66, u 67, u 68, u 69, u 70, u 71, u 72, u 73, u 74, u 75, u 76, u 77, u 78, u 79, u 80, u 81, u 82, u 83, u 84, u 85, u 86, u 87, undef, undef, undef, undef, undef, undef, undef, undef, undef, undef, undef, undef, undef, undef], []⟩ ∧ (k ≤ 3) ∧ (want.length ≤ wk.length) ∧ (wk.length ≤ 3 * i + k) ∧ (Tabs wl) ∧ (Ltr w wl) ∧ (BytesAt wl A b) ∧ (RopeAt wl r2 wk)) ((fun (k r2 : Nat) (wk : List UInt8) => (3 - k : Nat)) 0 r want) ?_ ?_
        · exact ⟨fun gj => (#[.slice A b.length c, .int .i64 wh, .int .i64 tm, undef, undef, undef, u 6, .pointer (some ⟨r, 0, none⟩), .int .i64 0, .string (bs want), .int .i64 i, .int .i64 0, .int .i64 0, u 13, u 14, .bool true, .bool false, .tuple #[.pointer (some ⟨r0, 0, none⟩), .int .i64 0], .tuple #[.pointer (some ⟨r0, 0, none⟩), .int .i64 0], .pointer (some ⟨r0, 0, none⟩), .int .i64 0, .int .i64 0, .bool false, .bool false, .pointer (some ⟨r0, 0, none⟩), .bool false, .bool false, .int .i64 i, .slice A b.length c, .int .i64 b.length, .bool true, .bool true, .int .i64 i, .bool true, .bool true, u 35, u 36, .string (bs want), .int .i64 want.length, .int .i64 wh, .bool true, .int .i64 wh, .bool false, u 43, u 44, u 45, u 46, u 47, u 48, u 49, u 50, u 51, u 52, u 53, u 54, u 55, u 56, u 57, u 58, u 59, u 60, u 61, u 62, u 63, u 64, u 65, u 66, u 67, u 68, u 69, u 70, u 71, u 72, u 73, u 74, u 75, u 76, u 77, u 78, u 79, u 80, u 81, u 82, u 83, u 84, u 85, u 86, u 87, undef, undef, undef, undef, undef, undef, undef, undef, undef, undef, undef, undef, undef, undef]).getD gj undef, 0, r, want, rfl, rfl, Nat.zero_le _, Nat.le_refl _, (by omega), by assumption, by assumption, by assumption, by assumption⟩
        rintro n22 a22 w22 ⟨u, k, r2, wk, rfl, rfl, hk3', hwk', hwk2', hT', hB', hA', hr'⟩
        clear hr hA hB hT
        have hk3 := hk3'
        clear hk3'
        have hwk := hwk'
        clear hwk'
        have hwk2 := hwk2'
        clear hwk2'
        have hT := hT'
        clear hT'
        have hB := hB'
        clear hB'
        have hA := hA'
        clear hA'
        have hr := hr'
        clear hr'
        refine wp_seq_k fun KK23 hKK23 => wp_seq_k fun KK24 hKK24 => rl_begin fun hgK hgo => tk 46 (.int .i64 k) <| tk 47 (.int .i64 tm) ?_
        try simp only [pp]
        by_cases h5 : (k : Int) ≤ tm
        · refine tx 48 (.bool true) (by exact ex_bool (c := (k : Int) ≤ tm) (by kernel_rfl) ⟨fun _ => by omega, fun _ => rfl⟩) <| tk 49 (.bool true) <| tk 50 (.int .i64 k) ?_
          try simp only [pp]
          by_cases h6 : (k : Int) < 3
          · refine tx 51 (.bool true) (by exact ex_bool (c := (k : Int) < 3) (by kernel_rfl) ⟨fun _ => by omega, fun _ => rfl⟩) <| tk 52 (.bool true) ?_
            try simp only [pp]
            refine rl_end hgo <| hKK24 _ _ <| wp_cond_true (by kernel_rfl) <| wp_skip <| hKK23 _ _ <| wp_seq_k fun KK25 hKK25 => wp_block <| wp_seq_k fun KK26 hKK26 => rl_begin fun hgK hgo => tk 56 (.pointer (some ⟨r2, 0, none⟩)) <| tk 57 (.int .i64 0) <| tk 58 (.int .i64 0) <| tk 59 (.slice A b.length c) <| tk 60 (.int .i64 i) <| tk 61 (.int .i64 i) ?_
            try simp only [pp]
            refine tx 62 (.int .i64 (((i + 1 : Nat) : Int))) (by exact ex_arith (e := (i : Int) + 1) (r := ((i + 1 : Nat) : Int)) (by kernel_rfl) (by omega) (by omega)) ?_
            try simp only [pp]
            refine tx 63 (.slice (cutA A c i) 1 (c - i)) (by exact ex_cutN i (i + 1) 1 (by omega) rfl rfl (.inl rfl) (.inl rfl) (by kernel_rfl) (fun _ => by kernel_rfl) (by omega) (by omega) (by omega) _) ?_
            try simp only [pp]
            refine rl_call (some 64) 37 #[.pointer (some ⟨r2, 0, none⟩), .int .i64 0, .int .i64 0, .slice (cutA A c i) 1 (c - i)] rfl (by kernel_rfl) (by kernel_rfl) ((by have h := Replace_any r2 wk 0 0 (cutA A c i) (c - i) ((b.take (i + 1)).drop i) _ hT hr (Nat.le_refl _) (by omega) (hA.cut c i (i + 1) (by omega) (by omega) hc) (by rw [hone]; omega) (by rw [hone]; omega); rwa [hone] at h)) ?_
            rintro e w27 ⟨r3, rfl, hL27, hr3, -⟩
            refine ⟨_, rfl, ?_⟩
            replace hT := hT.later hL27
            replace hB := hB.later hL27
            replace hA := hA.later hL27
            replace hr := hr.later hL27
            have hz27 := hL27.size
            have hln : (wk.take 0 ++ (b.take (i + 1)).drop i ++ wk.drop 0).length = wk.length + 1 := (by rw [List.length_append, List.length_append, hone, List.length_take, List.length_drop]; omega)
            clear hr
            try simp only [pp]
            refine tk 55 (.tuple #[.pointer (some ⟨r3, 0, none⟩), .int .i64 0]) <| tk 65 (.pointer (some ⟨r3, 0, none⟩)) <| tk 66 (.int .i64 0) <| tk 13 (.pointer (some ⟨r3, 0, none⟩)) <| tk 14 (.int .i64 0) ?_
            try simp only [pp]
            refine rl_end hgo <| hKK26 _ _ <| wp_seq_k fun KK28 hKK28 => wp_seq_k fun KK29 hKK29 => rl_begin fun hgK hgo => tk 67 (.int .i64 0) ?_
            try simp only [pp]
            refine tx 68 (.bool false) (by exact ex_bne (x := 0) (y := 0) (by kernel_rfl) ⟨fun q => (by cases q), fun q => absurd q (by omega)⟩) <| tk 69 (.bool false) <| tk 70 (.pointer (some ⟨r3, 0, none⟩)) <| tk 71 (.bool false) <| tk 72 (.bool false) ?_
            try simp only [pp]
            refine rl_end hgo <| hKK29 _ _ <| wp_cond_false (by kernel_rfl) <| wp_skip <| hKK28 _ _ <| wp_seq_k fun KK30 hKK30 => rl_begin fun hgK hgo => tk 73 (.pointer (some ⟨r3, 0, none⟩)) <| tk 7 (.pointer (some ⟨r3, 0, none⟩)) ?_
            try simp only [pp]
            refine rl_end hgo <| hKK30 _ _ ?_
            refine rm_begin (fun W => Ltr w27 W) (by kernel_rfl) (by exact bl_drew (bl_refl _)) fun K31 hgo w31 hE hS31 => ?_
            have hv31 : Ltr w27 w31 := by rw [hE]; exact bl_drew (bl_refl _)
            have hz31 := hv31.size
            clear hE hS31
            refine mk 0 74 (.string (bs wk)) <| mk 1 75 (.int .i64 0) ?_
            try simp only [pp]
            refine mx 2 76 (.string (bs (wk.take 0))) rfl (fun W hW => by (exact ex_str_take wk 0 rfl rfl rfl (by kernel_rfl) (by omega) (by omega) _)) <| mk 3 77 (.slice A b.length c) <| mk 4 78 (.int .i64 i) <| mk 5 79 (.int .i64 i) ?_
            try simp only [pp]
            refine mx 6 80 (.int .i64 (((i + 1 : Nat) : Int))) rfl (fun W hW => by (exact ex_arith (e := (i : Int) + 1) (r := ((i + 1 : Nat) : Int)) (by kernel_rfl) (by omega) (by omega))) ?_
            try simp only [pp]
            refine mx 7 81 (.slice (cutA A c i) 1 (c - i)) rfl (fun W hW => by (exact ex_cutN i (i + 1) 1 (by omega) rfl rfl (.inl rfl) (.inl rfl) (by kernel_rfl) (fun _ => by kernel_rfl) (by omega) (by omega) (by omega) _)) ?_
            try simp only [pp]
            refine mx 8 82 (.string (bs ((b.take (i + 1)).drop i))) rfl (fun W hW => by (exact ex_conv_str _ rfl (cutA A c i) (c - i) ((b.take (i + 1)).drop i) (by rw [hone]; rfl) ((hA.later hW).cut c i (i + 1) (by omega) (by omega) hc))) ?_
            try simp only [pp]
            refine mx 9 83 (.string (bs (wk.take 0 ++ (b.take (i + 1)).drop i))) rfl (fun W hW => by (exact ex_str_add (wk.take 0) ((b.take (i + 1)).drop i) rfl rfl rfl (by rw [hone, List.length_take]; omega) _)) <| mk 10 84 (.string (bs wk)) <| mk 11 85 (.int .i64 0) ?_
            try simp only [pp]
            refine mx 12 86 (.string (bs (wk.drop 0))) rfl (fun W hW => by (exact ex_str_drop wk 0 rfl rfl rfl (by kernel_rfl) (by omega) (by omega) _)) ?_
            try simp only [pp]
            refine mx 13 87 (.string (bs (wk.take 0 ++ (b.take (i + 1)).drop i ++ wk.drop 0))) rfl (fun W hW => by (exact ex_str_add (wk.take 0 ++ (b.take (i + 1)).drop i) (wk.drop 0) rfl rfl rfl (by rw [List.length_append, hone, List.length_take, List.length_drop]; omega) _)) <| mk 14 9 (.string (bs (wk.take 0 ++ (b.take (i + 1)).drop i ++ wk.drop 0))) ?_
            try simp only [pp]
            refine rm_done (by kernel_rfl) (fun w32 hL32 hS32 => hgo.out _ _ ?_) _
            clear hgo K31
            replace hT := hT.later (show Ltr w27 _ from hS32)
            replace hB := hB.later (show Ltr w27 _ from hS32)
            replace hA := hA.later (show Ltr w27 _ from hS32)
            replace hr3 := hr3.later (show Ltr w27 _ from hS32)
            have hz32 := (show Ltr w27 _ from hS32).size
            have hy32 := hL32.size
            refine hKK25 _ _ <| rl_begin fun hgK hgo => tk 53 (.int .i64 k) ?_
            try simp only [pp]
            refine tx 54 (.int .i64 (((k + 1 : Nat) : Int))) (by exact ex_arith (e := (k : Int) + 1) (r := ((k + 1 : Nat) : Int)) (by kernel_rfl) (by omega) (by omega)) <| tk 12 (.int .i64 (((k + 1 : Nat) : Int))) ?_
            try simp only [pp]
            refine rl_end hgo ?_
            exact ⟨_, (by omega), fun gj => (#[.slice A b.length c, .int .i64 wh, .int .i64 tm, undef, undef, undef, u 6, .pointer (some ⟨r3, 0, none⟩), .int .i64 0, .string (bs (wk.take 0 ++ (b.take (i + 1)).drop i ++ wk.drop 0)), .int .i64 i, .int .i64 0, .int .i64 (((k + 1 : Nat) : Int)), .pointer (some ⟨r3, 0, none⟩), .int .i64 0, .bool true, .bool false, .tuple #[.pointer (some ⟨r0, 0, none⟩), .int .i64 0], .tuple #[.pointer (some ⟨r0, 0, none⟩), .int .i64 0], .pointer (some ⟨r0, 0, none⟩), .int .i64 0, .int .i64 0, .bool false, .bool false, .pointer (some ⟨r0, 0, none⟩), .bool false, .bool false, .int .i64 i, .slice A b.length c, .int .i64 b.length, .bool true, .bool true, .int .i64 i, .bool true, .bool true, u 35, u 36, .string (bs want), .int .i64 want.length, .int .i64 wh, .bool true, .int .i64 wh, .bool false, u 43, u 44, u 45, .int .i64 k, .int .i64 tm, .bool true, .bool true, .int .i64 k, .bool true, .bool true, .int .i64 k, .int .i64 (((k + 1 : Nat) : Int)), .tuple #[.pointer (some ⟨r3, 0, none⟩), .int .i64 0], .pointer (some ⟨r2, 0, none⟩), .int .i64 0, .int .i64 0, .slice A b.length c, .int .i64 i, .int .i64 i, .int .i64 (((i + 1 : Nat) : Int)), .slice (cutA A c i) 1 (c - i), .tuple #[.pointer (some ⟨r3, 0, none⟩), .int .i64 0], .pointer (some ⟨r3, 0, none⟩), .int .i64 0, .int .i64 0, .bool false, .bool false, .pointer (some ⟨r3, 0, none⟩), .bool false, .bool false, .pointer (some ⟨r3, 0, none⟩), .string (bs wk), .int .i64 0, .string (bs (wk.take 0)), .slice A b.length c, .int .i64 i, .int .i64 i, .int .i64 (((i + 1 : Nat) : Int)), .slice (cutA A c i) 1 (c - i), .string (bs ((b.take (i + 1)).drop i)), .string (bs (wk.take 0 ++ (b.take (i + 1)).drop i)), .string (bs wk), .int .i64 0, .string (bs (wk.drop 0)), .string (bs (wk.take 0 ++ (b.take (i + 1)).drop i ++ wk.drop 0)), undef, undef, undef, undef, undef, undef, undef, undef, undef, undef, undef, undef, undef, undef]).getD gj undef, k + 1, r3, wk.take 0 ++ (b.take (i + 1)).drop i ++ wk.drop 0, rfl, rfl, by omega, by omega, by omega, by assumption, by assumption, by assumption, hr3⟩
          · refine tx 51 (.bool false) (by exact ex_bool (c := (k : Int) < 3) (by kernel_rfl) ⟨fun q => (by cases q), fun q => absurd q (by omega)⟩) <| tk 52 (.bool false) ?_
            try simp only [pp]
            refine rl_end hgo <| hKK24 _ _ <| wp_cond_false (by kernel_rfl) <| wp_exit <| hKK15 _ _ <| rl_begin fun hgK hgo => tk 35 (.int .i64 i) ?_
            try simp only [pp]
            refine tx 36 (.int .i64 (((i + 1 : Nat) : Int))) (by exact ex_arith (e := (i : Int) + 1) (r := ((i + 1 : Nat) : Int)) (by kernel_rfl) (by omega) (by omega)) <| tk 10 (.int .i64 (((i + 1 : Nat) : Int))) ?_
            try simp only [pp]
            refine rl_end hgo ?_
            exact ⟨_, (by omega), fun gj => (#[.slice A b.length c, .int .i64 wh, .int .i64 tm, undef, undef, undef, u 6, .pointer (some ⟨r2, 0, none⟩), .int .i64 0, .string (bs wk), .int .i64 (((i + 1 : Nat) : Int)), .int .i64 0, .int .i64 k, u 13, u 14, .bool true, .bool false, .tuple #[.pointer (some ⟨r0, 0, none⟩), .int .i64 0], .tuple #[.pointer (some ⟨r0, 0, none⟩), .int .i64 0], .pointer (some ⟨r0, 0, none⟩), .int .i64 0, .int .i64 0, .bool false, .bool false, .pointer (some ⟨r0, 0, none⟩), .bool false, .bool false, .int .i64 i, .slice A b.length c, .int .i64 b.length, .bool true, .bool true, .int .i64 i, .bool true, .bool true, .int .i64 i, .int .i64 (((i + 1 : Nat) : Int)), .string (bs want), .int .i64 want.length, .int .i64 wh, .bool true, .int .i64 wh, .bool false, u 43, u 44, u 45, .int .i64 k, .int .i64 tm, .bool true, .bool true, .int .i64 k, .bool false, .bool false, u 53, u 54, u 55, u 56, u 57, u 58, u 59, u 60, u 61, u 62, u 63, u 64, u 65, u 66, u 67, u 68, u 69, u 70, u 71, u 72, u 73, u 74, u 75, u 76, u 77, u 78, u 79, u 80, u 81, u 82, u 83, u 84, u 85, u 86, u 87, undef, undef, undef, undef, undef, undef, undef, undef, undef, undef, undef, undef, undef, undef]).getD gj undef, i + 1, r2, wk, rfl, rfl, by omega, by omega, by omega, by assumption, by assumption, by assumption, by assumption⟩
        · refine tx 48 (.bool false) (by exact ex_bool (c := (k : Int) ≤ tm) (by kernel_rfl) ⟨fun q => (by cases q), fun q => absurd q (by omega)⟩) <| tk 49 (.bool false) ?_
          try simp only [pp]
          refine rl_pass (some 50) rfl (by kernel_rfl) ?_
          try simp only [pp]
          refine rl_pass (some 51) rfl (by kernel_rfl) ?_
          try simp only [pp]
          refine tk 52 (.bool false) ?_
          try simp only [pp]
          refine rl_end hgo <| hKK24 _ _ <| wp_cond_false (by kernel_rfl) <| wp_exit <| hKK15 _ _ <| rl_begin fun hgK hgo => tk 35 (.int .i64 i) ?_
          try simp only [pp]
          refine tx 36 (.int .i64 (((i + 1 : Nat) : Int))) (by exact ex_arith (e := (i : Int) + 1) (r := ((i + 1 : Nat) : Int)) (by kernel_rfl) (by omega) (by omega)) <| tk 10 (.int .i64 (((i + 1 : Nat) : Int))) ?_
          try simp only [pp]
          refine rl_end hgo ?_
          exact ⟨_, (by omega), fun gj => (#[.slice A b.length c, .int .i64 wh, .int .i64 tm, undef, undef, undef, u 6, .pointer (some ⟨r2, 0, none⟩), .int .i64 0, .string (bs wk), .int .i64 (((i + 1 : Nat) : Int)), .int .i64 0, .int .i64 k, u 13, u 14, .bool true, .bool false, .tuple #[.pointer (some ⟨r0, 0, none⟩), .int .i64 0], .tuple #[.pointer (some ⟨r0, 0, none⟩), .int .i64 0], .pointer (some ⟨r0, 0, none⟩), .int .i64 0, .int .i64 0, .bool false, .bool false, .pointer (some ⟨r0, 0, none⟩), .bool false, .bool false, .int .i64 i, .slice A b.length c, .int .i64 b.length, .bool true, .bool true, .int .i64 i, .bool true, .bool true, .int .i64 i, .int .i64 (((i + 1 : Nat) : Int)), .string (bs want), .int .i64 want.length, .int .i64 wh, .bool true, .int .i64 wh, .bool false, u 43, u 44, u 45, .int .i64 k, .int .i64 tm, .bool false, .bool false, undef, undef, .bool false, u 53, u 54, u 55, u 56, u 57, u 58, u 59, u 60, u 61, u 62, u 63, u 64, u 65, u 66, u 67, u 68, u 69, u 70, u 71, u 72, u 73, u 74, u 75, u 76, u 77, u 78, u 79, u 80, u 81, u 82, u 83, u 84, u 85, u 86, u 87, undef, undef, undef, undef, undef, undef, undef, undef, undef, undef, undef, undef, undef, undef]).getD gj undef, i + 1, r2, wk, rfl, rfl, by omega, by omega, by omega, by assumption, by assumption, by assumption, by assumption⟩
      · refine tx 40 (.bool false) (by exact ex_beq (x := wh) (y := 0) (by kernel_rfl) ⟨fun q => (by cases q), fun q => absurd q (by omega)⟩) ?_
        try simp only [pp]
        refine rl_end hgo <| hKK18 _ _ <| wp_cond_false (by kernel_rfl) <| wp_skip <| hKK17 _ _ <| wp_seq_k fun KK33 hKK33 => wp_seq_k fun KK34 hKK34 => rl_begin fun hgK hgo => tk 41 (.int .i64 wh) ?_
        try simp only [pp]
        by_cases h4 : wh = 1
        · refine tx 42 (.bool true) (by exact ex_beq (x := wh) (y := 1) (by kernel_rfl) ⟨fun _ => by omega, fun _ => rfl⟩) ?_
          try simp only [pp]
          refine rl_end hgo <| hKK34 _ _ <| wp_cond_true (by kernel_rfl) <| rl_begin fun hgK hgo => tk 43 (.string (bs want)) ?_
          try simp only [pp]
          refine tx 44 (.int .i64 want.length) (by exact ex_len_bs (by kernel_rfl)) ?_
          try simp only [pp]
          refine tx 45 (.int .i64 ((want.length / 2 : Nat) : Int)) (by exact ex_half want.length rfl rfl rfl (by kernel_rfl) (by omega) _) <| tk 11 (.int .i64 ((want.length / 2 : Nat) : Int)) ?_
          try simp only [pp]
          refine rl_end hgo <| hKK33 _ _ <| wp_seq_k fun KK35 hKK35 => rl_begin fun hgK hgo => ?_
          have hone : ((b.take (i + 1)).drop i).length = 1 := by rw [List.length_drop, List.length_take]; omega
          refine tk 12 (.int .i64 0) ?_
          try simp only [pp]
          refine rl_end hgo <| hKK35 _ _ <| wp_block ?_
          refine wp_loop_ghost (fun gn ga wl => ∃ (u : Nat → Value) (k r2 : Nat) (wk : List UInt8), gn = 3 - k ∧ ga = ⟨#[.slice A b.length c, .int .i64 wh, .int .i64 tm, undef, undef, undef, u 6, .pointer (some ⟨r2, 0, none⟩), .int .i64 0, .string (bs wk), .int .i64 i, .int .i64 ((want.length / 2 : Nat) : Int), .int .i64 k, u 13, u 14, .bool true, .bool false, .tuple #[.pointer (some ⟨r0, 0, none⟩), .int .i64 0], .tuple #[.pointer (some ⟨r0, 0, none⟩), .int .i64 0], .pointer (some ⟨r0, 0, none⟩), .int .i64 0, .int .i64 0, .bool false, .bool false, .pointer (some ⟨r0, 0, none⟩), .bool false, .bool false, .int .i64 i, .slice A b.length c, .int .i64 b.length, .bool true, .bool true, .int .i64 i, .bool true, .bool true, u 35, u 36, .string (bs want), .int .i64 want.length, .int .i64 wh, .bool false, .int .i64 wh, .bool true, .string (bs want), .int .i64 want.length, .int .i64 ((want.length / 2 : Nat) : Int), u 46, u 47, u 48, u 49, u 50, u 51, u 52, u 53, u 54, u 55, u 56, u 57, u 58, u 59, u 60, u 61, u 62, u 63, u 64, u 65, u 66, u 67, u 68, u 69, u 70, u 71, u 72, u 73, u 74, u 75, u 76, u 77, u 78, u 79, u 80, u 81, u 82, u 83, u 84, u 85, u 86, u 87, undef, undef, undef, undef, undef, undef, undef, undef, undef, undef, undef, undef, undef, undef], []⟩ ∧ (k ≤ 3) ∧ (want.length ≤ wk.length) ∧ (wk.length ≤ 3 * i + k) ∧ (Tabs wl) ∧ (Ltr w wl) ∧ (BytesAt wl A b) ∧ (RopeAt wl r2 wk)) ((fun (k r2 : Nat) (wk : List UInt8) => (3 - k : Nat)) 0 r want) ?_ ?_
          · exact ⟨fun gj => (#[.slice A b.length c, .int .i64 wh, .int .i64 tm, undef, undef, undef, u 6, .pointer (some ⟨r, 0, none⟩), .int .i64 0, .string (bs want), .int .i64 i, .int .i64 ((want.length / 2 : Nat) : Int), .int .i64 0, u 13, u 14, .bool true, .bool false, .tuple #[.pointer (some ⟨r0, 0, none⟩), .int .i64 0], .tuple #[.pointer (some ⟨r0, 0, none⟩), .int .i64 0], .pointer (some ⟨r0, 0, none⟩), .int .i64 0, .int .i64 0, .bool false, .bool false, .pointer (some ⟨r0, 0, none⟩), .bool false, .bool false, .int .i64 i, .slice A b.length c, .int .i64 b.length, .bool true, .bool true, .int .i64 i, .bool true, .bool true, u 35, u 36, .string (bs want), .int .i64 want.length, .int .i64 wh, .bool false, .int .i64 wh, .bool true, .string (bs want), .int .i64 want.length, .int .i64 ((want.length / 2 : Nat) : Int), u 46, u 47, u 48, u 49, u 50, u 51, u 52, u 53, u 54, u 55, u 56, u 57, u 58, u 59, u 60, u 61, u 62, u 63, u 64, u 65, u 66, u 67, u 68, u 69, u 70, u 71, u 72, u 73, u 74, u 75, u 76, u 77, u 78, u 79, u 80, u 81, u 82, u 83, u 84, u 85, u 86, u 87, undef, undef, undef, undef, undef, undef, undef, undef, undef, undef, undef, undef, undef, undef]).getD gj undef, 0, r, want, rfl, rfl, Nat.zero_le _, Nat.le_refl _, (by omega), by assumption, by assumption, by assumption, by assumption⟩
          rintro n36 a36 w36 ⟨u, k, r2, wk, rfl, rfl, hk3', hwk', hwk2', hT', hB', hA', hr'⟩
          clear hr hA hB hT
          have hk3 := hk3'
          clear hk3'
          have hwk := hwk'
          clear hwk'
          have hwk2 := hwk2'
          clear hwk2'
          have hT := hT'
          clear hT'
          have hB := hB'
          clear hB'
          have hA := hA'
          clear hA'
          have hr := hr'
          clear hr'
          refine wp_seq_k fun KK37 hKK37 => wp_seq_k fun KK38 hKK38 => rl_begin fun hgK hgo => tk 46 (.int .i64 k) <| tk 47 (.int .i64 tm) ?_
          try simp only [pp]
          by_cases h5 : (k : Int) ≤ tm
          · refine tx 48 (.bool true) (by exact ex_bool (c := (k : Int) ≤ tm) (by kernel_rfl) ⟨fun _ => by omega, fun _ => rfl⟩) <| tk 49 (.bool true) <| tk 50 (.int .i64 k) ?_
            try simp only [pp]
            by_cases h6 : (k : Int) < 3
            · refine tx 51 (.bool true) (by exact ex_bool (c := (k : Int) < 3) (by kernel_rfl) ⟨fun _ => by omega, fun _ => rfl⟩) <| tk 52 (.bool true) ?_
              try simp only [pp]
              refine rl_end hgo <| hKK38 _ _ <| wp_cond_true (by kernel_rfl) <| wp_skip <| hKK37 _ _ <| wp_seq_k fun KK39 hKK39 => wp_block <| wp_seq_k fun KK40 hKK40 => rl_begin fun hgK hgo => tk 56 (.pointer (some ⟨r2, 0, none⟩)) <| tk 57 (.int .i64 ((want.length / 2 : Nat) : Int)) <| tk 58 (.int .i64 ((want.length / 2 : Nat) : Int)) <| tk 59 (.slice A b.length c) <| tk 60 (.int .i64 i) <| tk 61 (.int .i64 i) ?_
              try simp only [pp]
              refine tx 62 (.int .i64 (((i + 1 : Nat) : Int))) (by exact ex_arith (e := (i : Int) + 1) (r := ((i + 1 : Nat) : Int)) (by kernel_rfl) (by omega) (by omega)) ?_
              try simp only [pp]
              refine tx 63 (.slice (cutA A c i) 1 (c - i)) (by exact ex_cutN i (i + 1) 1 (by omega) rfl rfl (.inl rfl) (.inl rfl) (by kernel_rfl) (fun _ => by kernel_rfl) (by omega) (by omega) (by omega) _) ?_
              try simp only [pp]
              refine rl_call (some 64) 37 #[.pointer (some ⟨r2, 0, none⟩), .int .i64 ((want.length / 2 : Nat) : Int), .int .i64 ((want.length / 2 : Nat) : Int), .slice (cutA A c i) 1 (c - i)] rfl (by kernel_rfl) (by kernel_rfl) ((by have h := Replace_any r2 wk (want.length / 2) (want.length / 2) (cutA A c i) (c - i) ((b.take (i + 1)).drop i) _ hT hr (Nat.le_refl _) (by omega) (hA.cut c i (i + 1) (by omega) (by omega) hc) (by rw [hone]; omega) (by rw [hone]; omega); rwa [hone] at h)) ?_
              rintro e w41 ⟨r3, rfl, hL41, hr3, -⟩
              refine ⟨_, rfl, ?_⟩
              replace hT := hT.later hL41
              replace hB := hB.later hL41
              replace hA := hA.later hL41
              replace hr := hr.later hL41
              have hz41 := hL41.size
              have hln : (wk.take (want.length / 2) ++ (b.take (i + 1)).drop i ++ wk.drop (want.length / 2)).length = wk.length + 1 := (by rw [List.length_append, List.length_append, hone, List.length_take, List.length_drop]; omega)
              clear hr
              try simp only [pp]
              refine tk 55 (.tuple #[.pointer (some ⟨r3, 0, none⟩), .int .i64 0]) <| tk 65 (.pointer (some ⟨r3, 0, none⟩)) <| tk 66 (.int .i64 0) <| tk 13 (.pointer (some ⟨r3, 0, none⟩)) <| tk 14 (.int .i64 0) ?_
              try simp only [pp]
              refine rl_end hgo <| hKK40 _ _ <| wp_seq_k fun KK42 hKK42 => wp_seq_k fun KK43 hKK43 => rl_begin fun hgK hgo => tk 67 (.int .i64 0) ?_
              try simp only [pp]
              refine tx 68 (.bool false) (by exact ex_bne (x := 0) (y := 0) (by kernel_rfl) ⟨fun q => (by cases q), fun q => absurd q (by omega)⟩) <| tk 69 (.bool false) <| tk 70 (.pointer (some ⟨r3, 0, none⟩)) <| tk 71 (.bool false) <| tk 72 (.bool false) ?_
              try simp only [pp]
              refine rl_end hgo <| hKK43 _ _ <| wp_cond_false (by kernel_rfl) <| wp_skip <| hKK42 _ _ <| wp_seq_k fun KK44 hKK44 => rl_begin fun hgK hgo => tk 73 (.pointer (some ⟨r3, 0, none⟩)) <| tk 7 (.pointer (some ⟨r3, 0, none⟩)) ?_
              try simp only [pp]
              refine rl_end hgo <| hKK44 _ _ ?_
              refine rm_begin (fun W => Ltr w41 W) (by kernel_rfl) (by exact bl_drew (bl_refl _)) fun K45 hgo w45 hE hS45 => ?_
              have hv45 : Ltr w41 w45 := by rw [hE]; exact bl_drew (bl_refl _)
              have hz45 := hv45.size
              clear hE hS45
              refine mk 0 74 (.string (bs wk)) <| mk 1 75 (.int .i64 ((want.length / 2 : Nat) : Int)) ?_
              try simp only [pp]
              refine mx 2 76 (.string (bs (wk.take (want.length / 2)))) rfl (fun W hW => by (exact ex_str_take wk (want.length / 2) rfl rfl rfl (by kernel_rfl) (by omega) (by omega) _)) <| mk 3 77 (.slice A b.length c) <| mk 4 78 (.int .i64 i) <| mk 5 79 (.int .i64 i) ?_
              try simp only [pp]
              refine mx 6 80 (.int .i64 (((i + 1 : Nat) : Int))) rfl (fun W hW => by (exact ex_arith (e := (i : Int) + 1) (r := ((i + 1 : Nat) : Int)) (by kernel_rfl) (by omega) (by omega))) ?_
              try simp only [pp]
              refine mx 7 81 (.slice (cutA A c i) 1 (c - i)) rfl (fun W hW => by (exact ex_cutN i (i + 1) 1 (by omega) rfl rfl (.inl rfl) (.inl rfl) (by kernel_rfl) (fun _ => by kernel_rfl) (by omega) (by omega) (by omega) _)) ?_
              try simp only [pp]
              refine mx 8 82 (.string (bs ((b.take (i + 1)).drop i))) rfl (fun W hW => by (exact ex_conv_str _ rfl (cutA A c i) (c - i) ((b.take (i + 1)).drop i) (by rw [hone]; rfl) ((hA.later hW).cut c i (i + 1) (by omega) (by omega) hc))) ?_
              try simp only [pp]
              refine mx 9 83 (.string (bs (wk.take (want.length / 2) ++ (b.take (i + 1)).drop i))) rfl (fun W hW => by (exact ex_str_add (wk.take (want.length / 2)) ((b.take (i + 1)).drop i) rfl rfl rfl (by rw [hone, List.length_take]; omega) _)) <| mk 10 84 (.string (bs wk)) <| mk 11 85 (.int .i64 ((want.length / 2 : Nat) : Int)) ?_
              try simp only [pp]
              refine mx 12 86 (.string (bs (wk.drop (want.length / 2)))) rfl (fun W hW => by (exact ex_str_drop wk (want.length / 2) rfl rfl rfl (by kernel_rfl) (by omega) (by omega) _)) ?_
              try simp only [pp]
              refine mx 13 87 (.string (bs (wk.take (want.length / 2) ++ (b.take (i + 1)).drop i ++ wk.drop (want.length / 2)))) rfl (fun W hW => by (exact ex_str_add (wk.take (want.length / 2) ++ (b.take (i + 1)).drop i) (wk.drop (want.length / 2)) rfl rfl rfl (by rw [List.length_append, hone, List.length_take, List.length_drop]; omega) _)) <| mk 14 9 (.string (bs (wk.take (want.length / 2) ++ (b.take (i + 1)).drop i ++ wk.drop (want.length / 2)))) ?_
              try simp only [pp]
              refine rm_done (by kernel_rfl) (fun w46 hL46 hS46 => hgo.out _ _ ?_) _
              clear hgo K45
              replace hT := hT.later (show Ltr w41 _ from hS46)
              replace hB := hB.later (show Ltr w41 _ from hS46)
              replace hA := hA.later (show Ltr w41 _ from hS46)
              replace hr3 := hr3.later (show Ltr w41 _ from hS46)
              have hz46 := (show Ltr w41 _ from hS46).size
              have hy46 := hL46.size
              refine hKK39 _ _ <| rl_begin fun hgK hgo => tk 53 (.int .i64 k) ?_
              try simp only [pp]
              refine tx 54 (.int .i64 (((k + 1 : Nat) : Int))) (by exact ex_arith (e := (k : Int) + 1) (r := ((k + 1 : Nat) : Int)) (by kernel_rfl) (by omega) (by omega)) <| tk 12 (.int .i64 (((k + 1 : Nat) : Int))) ?_
              try simp only [pp]
              refine rl_end hgo ?_
              exact ⟨_, (by omega), fun gj => (#[.slice A b.length c, .int .i64 wh, .int .i64 tm, undef, undef, undef, u 6, .pointer (some ⟨r3, 0, none⟩), .int .i64 0, .string (bs (wk.take (want.length / 2) ++ (b.take (i + 1)).drop i ++ wk.drop (want.length / 2))), .int .i64 i, .int .i64 ((want.length / 2 : Nat) : Int), .int .i64 (((k + 1 : Nat) : Int)), .pointer (some ⟨r3, 0, none⟩), .int .i64 0, .bool true, .bool false, .tuple #[.pointer (some ⟨r0, 0, none⟩), .int .i64 0], .tuple #[.pointer (some ⟨r0, 0, none⟩), .int .i64 0], .pointer (some ⟨r0, 0, none⟩), .int .i64 0, .int .i64 0, .bool false, .bool false, .pointer (some ⟨r0, 0, none⟩), .bool false, .bool false, .int .i64 i, .slice A b.length c, .int .i64 b.length, .bool true, .bool true, .int .i64 i, .bool true, .bool true, u 35, u 36, .string (bs want), .int .i64 want.length, .int .i64 wh, .bool false, .int .i64 wh, .bool true, .string (bs want), .int .i64 want.length, .int .i64 ((want.length / 2 : Nat) : Int), .int .i64 k, .int .i64 tm, .bool true, .bool true, .int .i64 k, .bool true, .bool true, .int .i64 k, .int .i64 (((k + 1 : Nat) : Int)), .tuple #[.pointer (some ⟨r3, 0, none⟩), .int .i64 0], .pointer (some ⟨r2, 0, none⟩), .int .i64 ((want.length / 2 : Nat) : Int), .int .i64 ((want.length / 2 : Nat) : Int), .slice A b.length c, .int .i64 i, .int .i64 i, .int .i64 (((i + 1 : Nat) : Int)), .slice (cutA A c i) 1 (c - i), .tuple #[.pointer (some ⟨r3, 0, none⟩), .int .i64 0], .pointer (some ⟨r3, 0, none⟩), .int .i64 0, .int .i64 0, .bool false, .bool false, .pointer (some ⟨r3, 0, none⟩), .bool false, .bool false, .pointer (some ⟨r3, 0, none⟩), .string (bs wk), .int .i64 ((want.length / 2 : Nat) : Int), .string (bs (wk.take (want.length / 2))), .slice A b.length c, .int .i64 i, .int .i64 i, .int .i64 (((i + 1 : Nat) : Int)), .slice (cutA A c i) 1 (c - i), .string (bs ((b.take (i + 1)).drop i)), .string (bs (wk.take (want.length / 2) ++ (b.take (i + 1)).drop i)), .string (bs wk), .int .i64 ((want.length / 2 : Nat) : Int), .string (bs (wk.drop (want.length / 2))), .string (bs (wk.take (want.length / 2) ++ (b.take (i + 1)).drop i ++ wk.drop (want.length / 2))), undef, undef, undef, undef, undef, undef, undef, undef, undef, undef, undef, undef, undef, undef]).getD gj undef, k + 1, r3, wk.take (want.length / 2) ++ (b.take (i + 1)).drop i ++ wk.drop (want.length / 2), rfl, rfl, by omega, by omega, by omega, by assumption, by assumption, by assumption, hr3⟩
            · refine tx 51 (.bool false) (by exact ex_bool (c := (k : Int) < 3) (by kernel_rfl) ⟨fun q => (by cases q), fun q => absurd q (by omega)⟩) <| tk 52 (.bool false) ?_
              try simp only [pp]
              refine rl_end hgo <| hKK38 _ _ <| wp_cond_false (by kernel_rfl) <| wp_exit <| hKK15 _ _ <| rl_begin fun hgK hgo => tk 35 (.int .i64 i) ?_
              try simp only [pp]
              refine tx 36 (.int .i64 (((i + 1 : Nat) : Int))) (by exact ex_arith (e := (i : Int) + 1) (r := ((i + 1 : Nat) : Int)) (by kernel_rfl) (by omega) (by omega)) <| tk 10 (.int .i64 (((i + 1 : Nat) : Int))) ?_
              try simp only [pp]
              refine rl_end hgo ?_
              exact ⟨_, (by omega), fun gj => (#[.slice A b.length c, .int .i64 wh, .int .i64 tm, undef, undef, undef, u 6, .pointer (some ⟨r2, 0, none⟩), .int .i64 0, .string (bs wk), .int .i64 (((i + 1 : Nat) : Int)), .int .i64 ((want.length / 2 : Nat) : Int), .int .i64 k, u 13, u 14, .bool true, .bool false, .tuple #[.pointer (some ⟨r0, 0, none⟩), .int .i64 0], .tuple #[.pointer (some ⟨r0, 0, none⟩), .int .i64 0], .pointer (some ⟨r0, 0, none⟩), .int .i64 0, .int .i64 0, .bool false, .bool false, .pointer (some ⟨r0, 0, none⟩), .bool false, .bool false, .int .i64 i, .slice A b.length c, .int .i64 b.length, .bool true, .bool true, .int .i64 i, .bool true, .bool true, .int .i64 i, .int .i64 (((i + 1 : Nat) : Int)), .string (bs want), .int .i64 want.length, .int .i64 wh, .bool false, .int .i64 wh, .bool true, .string (bs want), .int .i64 want.length, .int .i64 ((want.length / 2 : Nat) : Int), .int .i64 k, .int .i64 tm, .bool true, .bool true, .int .i64 k, .bool false, .bool false, u 53, u 54, u 55, u 56, u 57, u 58, u 59, u 60, u 61, u 62, u 63, u 64, u 65, u 66, u 67, u 68, u 69, u 70, u 71, u 72, u 73, u 74, u 75, u 76, u 77, u 78, u 79, u 80, u 81, u 82, u 83, u 84, u 85, u 86, u 87, undef, undef, undef, undef, undef, undef, undef, undef, undef, undef, undef, undef, undef, undef]).getD gj undef, i + 1, r2, wk, rfl, rfl, by omega, by omega, by omega, by assumption, by assumption, by assumption, by assumption⟩
          · refine tx 48 (.bool false) (by exact ex_bool (c := (k : Int) ≤ tm) (by kernel_rfl) ⟨fun q => (by cases q), fun q => absurd q (by omega)⟩) <| tk 49 (.bool false) ?_
            try simp only [pp]
            refine rl_pass (some 50) rfl (by kernel_rfl) ?_
            try simp only [pp]
            refine rl_pass (some 51) rfl (by kernel_rfl) ?_
            try simp only [pp]
            refine tk 52 (.bool false) ?_
            try simp only [pp]
            refine rl_end hgo <| hKK38 _ _ <| wp_cond_false (by kernel_rfl) <| wp_exit <| hKK15 _ _ <| rl_begin fun hgK hgo => tk 35 (.int .i64 i) ?_
            try simp only [pp]
            refine tx 36 (.int .i64 (((i + 1 : Nat) : Int))) (by exact ex_arith (e := (i : Int) + 1) (r := ((i + 1 : Nat) : Int)) (by kernel_rfl) (by omega) (by omega)) <| tk 10 (.int .i64 (((i + 1 : Nat) : Int))) ?_
            try simp only [pp]
            refine rl_end hgo ?_
            exact ⟨_, (by omega), fun gj => (#[.slice A b.length c, .int .i64 wh, .int .i64 tm, undef, undef, undef, u 6, .pointer (some ⟨r2, 0, none⟩), .int .i64 0, .string (bs wk), .int .i64 (((i + 1 : Nat) : Int)), .int .i64 ((want.length / 2 : Nat) : Int), .int .i64 k, u 13, u 14, .bool true, .bool false, .tuple #[.pointer (some ⟨r0, 0, none⟩), .int .i64 0], .tuple #[.pointer (some ⟨r0, 0, none⟩), .int .i64 0], .pointer (some ⟨r0, 0, none⟩), .int .i64 0, .int .i64 0, .bool false, .bool false, .pointer (some ⟨r0, 0, none⟩), .bool false, .bool false, .int .i64 i, .slice A b.length c, .int .i64 b.length, .bool true, .bool true, .int .i64 i, .bool true, .bool true, .int .i64 i, .int .i64 (((i + 1 : Nat) : Int)), .string (bs want), .int .i64 want.length, .int .i64 wh, .bool false, .int .i64 wh, .bool true, .string (bs want), .int .i64 want.length, .int .i64 ((want.length / 2 : Nat) : Int), .int .i64 k, .int .i64 tm, .bool false, .bool false, undef, undef, .bool false, u 53, u 54, u 55, u 56, u 57, u 58, u 59, u 60, u 61, u 62, u 63, u 64, u 65, u 66, u 67, u 68, u 69, u 70, u 71, u 72, u 73, u 74, u 75, u 76, u 77, u 78, u 79, u 80, u 81, u 82, u 83, u 84, u 85, u 86, u 87, undef, undef, undef, undef, undef, undef, undef, undef, undef, undef, undef, undef, undef, undef]).getD gj undef, i + 1, r2, wk, rfl, rfl, by omega, by omega, by omega, by assumption, by assumption, by assumption, by assumption⟩
        · refine tx 42 (.bool false) (by exact ex_beq (x := wh) (y := 1) (by kernel_rfl) ⟨fun q => (by cases q), fun q => absurd q (by omega)⟩) ?_
          try simp only [pp]
          refine rl_end hgo <| hKK34 _ _ <| wp_cond_false (by kernel_rfl) <| wp_skip <| hKK33 _ _ <| wp_seq_k fun KK47 hKK47 => rl_begin fun hgK hgo => ?_
          have hone : ((b.take (i + 1)).drop i).length = 1 := by rw [List.length_drop, List.length_take]; omega
          refine tk 12 (.int .i64 0) ?_
          try simp only [pp]
          refine rl_end hgo <| hKK47 _ _ <| wp_block ?_
          refine wp_loop_ghost (fun gn ga wl => ∃ (u : Nat → Value) (k r2 : Nat) (wk : List UInt8), gn = 3 - k ∧ ga = ⟨#[.slice A b.length c, .int .i64 wh, .int .i64 tm, undef, undef, undef, u 6, .pointer (some ⟨r2, 0, none⟩), .int .i64 0, .string (bs wk), .int .i64 i, .int .i64 want.length, .int .i64 k, u 13, u 14, .bool true, .bool false, .tuple #[.pointer (some ⟨r0, 0, none⟩), .int .i64 0], .tuple #[.pointer (some ⟨r0, 0, none⟩), .int .i64 0], .pointer (some ⟨r0, 0, none⟩), .int .i64 0, .int .i64 0, .bool false, .bool false, .pointer (some ⟨r0, 0, none⟩), .bool false, .bool false, .int .i64 i, .slice A b.length c, .int .i64 b.length, .bool true, .bool true, .int .i64 i, .bool true, .bool true, u 35, u 36, .string (bs want), .int .i64 want.length, .int .i64 wh, .bool false, .int .i64 wh, .bool false, u 43, u 44, u 45, u 46, u 47, u 48, u 49, u 50, u 51, u 52, u 53, u 54, u 55, u 56, u 57, u 58, u 59, u 60, u 61, u 62, u 63, u 64, u 65, u 66, u 67, u 68, u 69, u 70, u 71, u 72, u 73, u 74, u 75, u 76, u 77, u 78, u 79, u 80, u 81, u 82, u 83, u 84, u 85, u 86, u 87, undef, undef, undef, undef, undef, undef, undef, undef, undef, undef, undef, undef, undef, undef], []⟩ ∧ (k ≤ 3) ∧ (want.length ≤ wk.length) ∧ (wk.length ≤ 3 * i + k) ∧ (Tabs wl) ∧ (Ltr w wl) ∧ (BytesAt wl A b) ∧ (RopeAt wl r2 wk)) ((fun (k r2 : Nat) (wk : List UInt8) => (3 - k : Nat)) 0 r want) ?_ ?_
          · exact ⟨fun gj => (#[.slice A b.length c, .int .i64 wh, .int .i64 tm, undef, undef, undef, u 6, .pointer (some ⟨r, 0, none⟩), .int .i64 0, .string (bs want), .int .i64 i, .int .i64 want.length, .int .i64 0, u 13, u 14, .bool true, .bool false, .tuple #[.pointer (some ⟨r0, 0, none⟩), .int .i64 0], .tuple #[.pointer (some ⟨r0, 0, none⟩), .int .i64 0], .pointer (some ⟨r0, 0, none⟩), .int .i64 0, .int .i64 0, .bool false, .bool false, .pointer (some ⟨r0, 0, none⟩), .bool false, .bool false, .int .i64 i, .slice A b.length c, .int .i64 b.length, .bool true, .bool true, .int .i64 i, .bool true, .bool true, u 35, u 36, .string (bs want), .int .i64 want.length, .int .i64 wh, .bool false, .int .i64 wh, .bool false, u 43, u 44, u 45, u 46, u 47, u 48, u 49, u 50, u 51, u 52, u 53, u 54, u 55, u 56, u 57, u 58, u 59, u 60, u 61, u 62, u 63, u 64, u 65, u 66, u 67, u 68, u 69, u 70, u 71, u 72, u 73, u 74, u 75, u 76, u 77, u 78, u 79, u 80, u 81, u 82, u 83, u 84, u 85, u 86, u 87, undef, undef, undef, undef, undef, undef, undef, undef, undef, undef, undef, undef, undef, undef]).getD gj undef, 0, r, want, rfl, rfl, Nat.zero_le _, Nat.le_refl _, (by omega), by assumption, by assumption, by assumption, by assumption⟩
          rintro n48 a48 w48 ⟨u, k, r2, wk, rfl, rfl, hk3', hwk', hwk2', hT', hB', hA', hr'⟩
          clear hr hA hB hT
          have hk3 := hk3'
          clear hk3'
          have hwk := hwk'
          clear hwk'
          have hwk2 := hwk2'
          clear hwk2'
          have hT := hT'
          clear hT'
          have hB := hB'
          clear hB'
          have hA := hA'
          clear hA'
          have hr := hr'
          clear hr'
          refine wp_seq_k fun KK49 hKK49 => wp_seq_k fun KK50 hKK50 => rl_begin fun hgK hgo => tk 46 (.int .i64 k) <| tk 47 (.int .i64 tm) ?_
          try simp only [pp]
          by_cases h5 : (k : Int) ≤ tm
          · refine tx 48 (.bool true) (by exact ex_bool (c := (k : Int) ≤ tm) (by kernel_rfl) ⟨fun _ => by omega, fun _ => rfl⟩) <| tk 49 (.bool true) <| tk 50 (.int .i64 k) ?_
            try simp only [pp]
            by_cases h6 : (k : Int) < 3
            · refine tx 51 (.bool true) (by exact ex_bool (c := (k : Int) < 3) (by kernel_rfl) ⟨fun _ => by omega, fun _ => rfl⟩) <| tk 52 (.bool true) ?_
              try simp only [pp]
              refine rl_end hgo <| hKK50 _ _ <| wp_cond_true (by kernel_rfl) <| wp_skip <| hKK49 _ _ <| wp_seq_k fun KK51 hKK51 => wp_block <| wp_seq_k fun KK52 hKK52 => rl_begin fun hgK hgo => tk 56 (.pointer (some ⟨r2, 0, none⟩)) <| tk 57 (.int .i64 want.length) <| tk 58 (.int .i64 want.length) <| tk 59 (.slice A b.length c) <| tk 60 (.int .i64 i) <| tk 61 (.int .i64 i) ?_
              try simp only [pp]
              refine tx 62 (.int .i64 (((i + 1 : Nat) : Int))) (by exact ex_arith (e := (i : Int) + 1) (r := ((i + 1 : Nat) : Int)) (by kernel_rfl) (by omega) (by omega)) ?_
              try simp only [pp]
              refine tx 63 (.slice (cutA A c i) 1 (c - i)) (by exact ex_cutN i (i + 1) 1 (by omega) rfl rfl (.inl rfl) (.inl rfl) (by kernel_rfl) (fun _ => by kernel_rfl) (by omega) (by omega) (by omega) _) ?_
              try simp only [pp]
              refine rl_call (some 64) 37 #[.pointer (some ⟨r2, 0, none⟩), .int .i64 want.length, .int .i64 want.length, .slice (cutA A c i) 1 (c - i)] rfl (by kernel_rfl) (by kernel_rfl) ((by have h := Replace_any r2 wk want.length want.length (cutA A c i) (c - i) ((b.take (i + 1)).drop i) _ hT hr (Nat.le_refl _) (by omega) (hA.cut c i (i + 1) (by omega) (by omega) hc) (by rw [hone]; omega) (by rw [hone]; omega); rwa [hone] at h)) ?_
              rintro e w53 ⟨r3, rfl, hL53, hr3, -⟩
              refine ⟨_, rfl, ?_⟩
              replace hT := hT.later hL53
              replace hB := hB.later hL53
              replace hA := hA.later hL53
              replace hr := hr.later hL53
              have hz53 := hL53.size
              have hln : (wk.take want.length ++ (b.take (i + 1)).drop i ++ wk.drop want.length).length = wk.length + 1 := (by rw [List.length_append, List.length_append, hone, List.length_take, List.length_drop]; omega)
              clear hr
              try simp only [pp]
              refine tk 55 (.tuple #[.pointer (some ⟨r3, 0, none⟩), .int .i64 0]) <| tk 65 (.pointer (some ⟨r3, 0, none⟩)) <| tk 66 (.int .i64 0) <| tk 13 (.pointer (some ⟨r3, 0, none⟩)) <| tk 14 (.int .i64 0) ?_
              try simp only [pp]
              refine rl_end hgo <| hKK52 _ _ <| wp_seq_k fun KK54 hKK54 => wp_seq_k fun KK55 hKK55 => rl_begin fun hgK hgo => tk 67 (.int .i64 0) ?_
              try simp only [pp]
              refine tx 68 (.bool false) (by exact ex_bne (x := 0) (y := 0) (by kernel_rfl) ⟨fun q => (by cases q), fun q => absurd q (by omega)⟩) <| tk 69 (.bool false) <| tk 70 (.pointer (some ⟨r3, 0, none⟩)) <| tk 71 (.bool false) <| tk 72 (.bool false) ?_
              try simp only [pp]
              refine rl_end hgo <| hKK55 _ _ <| wp_cond_false (by kernel_rfl) <| wp_skip <| hKK54 _ _ <| wp_seq_k fun KK56 hKK56 => rl_begin fun hgK hgo => tk 73 (.pointer (some ⟨r3, 0, none⟩)) <| tk 7 (.pointer (some ⟨r3, 0, none⟩)) ?_
              try simp only [pp]
              refine rl_end hgo <| hKK56 _ _ ?_
              refine rm_begin (fun W => Ltr w53 W) (by kernel_rfl) (by exact bl_drew (bl_refl _)) fun K57 hgo w57 hE hS57 => ?_
              have hv57 : Ltr w53 w57 := by rw [hE]; exact bl_drew (bl_refl _)
              have hz57 := hv57.size
              clear hE hS57
              refine mk 0 74 (.string (bs wk)) <| mk 1 75 (.int .i64 want.length) ?_
              try simp only [pp]
              refine mx 2 76 (.string (bs (wk.take want.length))) rfl (fun W hW => by (exact ex_str_take wk want.length rfl rfl rfl (by kernel_rfl) (by omega) (by omega) _)) <| mk 3 77 (.slice A b.length c) <| mk 4 78 (.int .i64 i) <| mk 5 79 (.int .i64 i) ?_
              try simp only [pp]
              refine mx 6 80 (.int .i64 (((i + 1 : Nat) : Int))) rfl (fun W hW => by (exact ex_arith (e := (i : Int) + 1) (r := ((i + 1 : Nat) : Int)) (by kernel_rfl) (by omega) (by omega))) ?_
              try simp only [pp]
              refine mx 7 81 (.slice (cutA A c i) 1 (c - i)) rfl (fun W hW => by (exact ex_cutN i (i + 1) 1 (by omega) rfl rfl (.inl rfl) (.inl rfl) (by kernel_rfl) (fun _ => by kernel_rfl) (by omega) (by omega) (by omega) _)) ?_
              try simp only [pp]
              refine mx 8 82 (.string (bs ((b.take (i + 1)).drop i))) rfl (fun W hW => by (exact ex_conv_str _ rfl (cutA A c i) (c - i) ((b.take (i + 1)).drop i) (by rw [hone]; rfl) ((hA.later hW).cut c i (i + 1) (by omega) (by omega) hc))) ?_
              try simp only [pp]
              refine mx 9 83 (.string (bs (wk.take want.length ++ (b.take (i + 1)).drop i))) rfl (fun W hW => by (exact ex_str_add (wk.take want.length) ((b.take (i + 1)).drop i) rfl rfl rfl (by rw [hone, List.length_take]; omega) _)) <| mk 10 84 (.string (bs wk)) <| mk 11 85 (.int .i64 want.length) ?_
              try simp only [pp]
              refine mx 12 86 (.string (bs (wk.drop want.length))) rfl (fun W hW => by (exact ex_str_drop wk want.length rfl rfl rfl (by kernel_rfl) (by omega) (by omega) _)) ?_
              try simp only [pp]
              refine mx 13 87 (.string (bs (wk.take want.length ++ (b.take (i + 1)).drop i ++ wk.drop want.length))) rfl (fun W hW => by (exact ex_str_add (wk.take want.length ++ (b.take (i + 1)).drop i) (wk.drop want.length) rfl rfl rfl (by rw [List.length_append, hone, List.length_take, List.length_drop]; omega) _)) <| mk 14 9 (.string (bs (wk.take want.length ++ (b.take (i + 1)).drop i ++ wk.drop want.length))) ?_
              try simp only [pp]
              refine rm_done (by kernel_rfl) (fun w58 hL58 hS58 => hgo.out _ _ ?_) _
              clear hgo K57
              replace hT := hT.later (show Ltr w53 _ from hS58)
              replace hB := hB.later (show Ltr w53 _ from hS58)
              replace hA := hA.later (show Ltr w53 _ from hS58)
              replace hr3 := hr3.later (show Ltr w53 _ from hS58)
              have hz58 := (show Ltr w53 _ from hS58).size
              have hy58 := hL58.size
              refine hKK51 _ _ <| rl_begin fun hgK hgo => tk 53 (.int .i64 k) ?_
              try simp only [pp]
              refine tx 54 (.int .i64 (((k + 1 : Nat) : Int))) (by exact ex_arith (e := (k : Int) + 1) (r := ((k + 1 : Nat) : Int)) (by kernel_rfl) (by omega) (by omega)) <| tk 12 (.int .i64 (((k + 1 : Nat) : Int))) ?_
              try simp only [pp]
              refine rl_end hgo ?_
              exact ⟨_, (by omega), fun gj => (#[.slice A b.length c, .int .i64 wh, .int .i64 tm, undef, undef, undef, u 6, .pointer (some ⟨r3, 0, none⟩), .int .i64 0, .string (bs (wk.take want.length ++ (b.take (i + 1)).drop i ++ wk.drop want.length)), .int .i64 i, .int .i64 want.length, .int .i64 (((k + 1 : Nat) : Int)), .pointer (some ⟨r3, 0, none⟩), .int .i64 0, .bool true, .bool false, .tuple #[.pointer (some ⟨r0, 0, none⟩), .int .i64 0], .tuple #[.pointer (some ⟨r0, 0, none⟩), .int .i64 0], .pointer (some ⟨r0, 0, none⟩), .int .i64 0, .int .i64 0, .bool false, .bool false, .pointer (some ⟨r0, 0, none⟩), .bool false, .bool false, .int .i64 i, .slice A b.length c, .int .i64 b.length, .bool true, .bool true, .int .i64 i, .bool true, .bool true, u 35, u 36, .string (bs want), .int .i64 want.length, .int .i64 wh, .bool false, .int .i64 wh, .bool false, u 43, u 44, u 45, .int .i64 k, .int .i64 tm, .bool true, .bool true, .int .i64 k, .bool true, .bool true, .int .i64 k, .int .i64 (((k + 1 : Nat) : Int)), .tuple #[.pointer (some ⟨r3, 0, none⟩), .int .i64 0], .pointer (some ⟨r2, 0, none⟩), .int .i64 want.length, .int .i64 want.length, .slice A b.length c, .int .i64 i, .int .i64 i, .int .i64 (((i + 1 : Nat) : Int)), .slice (cutA A c i) 1 (c - i), .tuple #[.pointer (some ⟨r3, 0, none⟩), .int .i64 0], .pointer (some ⟨r3, 0, none⟩), .int .i64 0, .int .i64 0, .bool false, .bool false, .pointer (some ⟨r3, 0, none⟩), .bool false, .bool false, .pointer (some ⟨r3, 0, none⟩), .string (bs wk), .int .i64 want.length, .string (bs (wk.take want.length)), .slice A b.length c, .int .i64 i, .int .i64 i, .int .i64 (((i + 1 : Nat) : Int)), .slice (cutA A c i) 1 (c - i), .string (bs ((b.take (i + 1)).drop i)), .string (bs (wk.take want.length ++ (b.take (i + 1)).drop i)), .string (bs wk), .int .i64 want.length, .string (bs (wk.drop want.length)), .string (bs (wk.take want.length ++ (b.take (i + 1)).drop i ++ wk.drop want.length)), undef, undef, undef, undef, undef, undef, undef, undef, undef, undef, undef, undef, undef, undef]).getD gj undef, k + 1, r3, wk.take want.length ++ (b.take (i + 1)).drop i ++ wk.drop want.length, rfl, rfl, by omega, by omega, by omega, by assumption, by assumption, by assumption, hr3⟩
            · refine tx 51 (.bool false) (by exact ex_bool (c := (k : Int) < 3) (by kernel_rfl) ⟨fun q => (by cases q), fun q => absurd q (by omega)⟩) <| tk 52 (.bool false) ?_
              try simp only [pp]
              refine rl_end hgo <| hKK50 _ _ <| wp_cond_false (by kernel_rfl) <| wp_exit <| hKK15 _ _ <| rl_begin fun hgK hgo => tk 35 (.int .i64 i) ?_
              try simp only [pp]
              refine tx 36 (.int .i64 (((i + 1 : Nat) : Int))) (by exact ex_arith (e := (i : Int) + 1) (r := ((i + 1 : Nat) : Int)) (by kernel_rfl) (by omega) (by omega)) <| tk 10 (.int .i64 (((i + 1 : Nat) : Int))) ?_
              try simp only [pp]
              refine rl_end hgo ?_
              exact ⟨_, (by omega), fun gj => (#[.slice A b.length c, .int .i64 wh, .int .i64 tm, undef, undef, undef, u 6, .pointer (some ⟨r2, 0, none⟩), .int .i64 0, .string (bs wk), .int .i64 (((i + 1 : Nat) : Int)), .int .i64 want.length, .int .i64 k, u 13, u 14, .bool true, .bool false, .tuple #[.pointer (some ⟨r0, 0, none⟩), .int .i64 0], .tuple #[.pointer (some ⟨r0, 0, none⟩), .int .i64 0], .pointer (some ⟨r0, 0, none⟩), .int .i64 0, .int .i64 0, .bool false, .bool false, .pointer (some ⟨r0, 0, none⟩), .bool false, .bool false, .int .i64 i, .slice A b.length c, .int .i64 b.length, .bool true, .bool true, .int .i64 i, .bool true, .bool true, .int .i64 i, .int .i64 (((i + 1 : Nat) : Int)), .string (bs want), .int .i64 want.length, .int .i64 wh, .bool false, .int .i64 wh, .bool false, u 43, u 44, u 45, .int .i64 k, .int .i64 tm, .bool true, .bool true, .int .i64 k, .bool false, .bool false, u 53, u 54, u 55, u 56, u 57, u 58, u 59, u 60, u 61, u 62, u 63, u 64, u 65, u 66, u 67, u 68, u 69, u 70, u 71, u 72, u 73, u 74, u 75, u 76, u 77, u 78, u 79, u 80, u 81, u 82, u 83, u 84, u 85, u 86, u 87, undef, undef, undef, undef, undef, undef, undef, undef, undef, undef, undef, undef, undef, undef]).getD gj undef, i + 1, r2, wk, rfl, rfl, by omega, by omega, by omega, by assumption, by assumption, by assumption, by assumption⟩
          · refine tx 48 (.bool false) (by exact ex_bool (c := (k : Int) ≤ tm) (by kernel_rfl) ⟨fun q => (by cases q), fun q => absurd q (by omega)⟩) <| tk 49 (.bool false) ?_
            try simp only [pp]
            refine rl_pass (some 50) rfl (by kernel_rfl) ?_
            try simp only [pp]
            refine rl_pass (some 51) rfl (by kernel_rfl) ?_
            try simp only [pp]
            refine tk 52 (.bool false) ?_
            try simp only [pp]
            refine rl_end hgo <| hKK50 _ _ <| wp_cond_false (by kernel_rfl) <| wp_exit <| hKK15 _ _ <| rl_begin fun hgK hgo => tk 35 (.int .i64 i) ?_
            try simp only [pp]
            refine tx 36 (.int .i64 (((i + 1 : Nat) : Int))) (by exact ex_arith (e := (i : Int) + 1) (r := ((i + 1 : Nat) : Int)) (by kernel_rfl) (by omega) (by omega)) <| tk 10 (.int .i64 (((i + 1 : Nat) : Int))) ?_
            try simp only [pp]
            refine rl_end hgo ?_
            exact ⟨_, (by omega), fun gj => (#[.slice A b.length c, .int .i64 wh, .int .i64 tm, undef, undef, undef, u 6, .pointer (some ⟨r2, 0, none⟩), .int .i64 0, .string (bs wk), .int .i64 (((i + 1 : Nat) : Int)), .int .i64 want.length, .int .i64 k, u 13, u 14, .bool true, .bool false, .tuple #[.pointer (some ⟨r0, 0, none⟩), .int .i64 0], .tuple #[.pointer (some ⟨r0, 0, none⟩), .int .i64 0], .pointer (some ⟨r0, 0, none⟩), .int .i64 0, .int .i64 0, .bool false, .bool false, .pointer (some ⟨r0, 0, none⟩), .bool false, .bool false, .int .i64 i, .slice A b.length c, .int .i64 b.length, .bool true, .bool true, .int .i64 i, .bool true, .bool true, .int .i64 i, .int .i64 (((i + 1 : Nat) : Int)), .string (bs want), .int .i64 want.length, .int .i64 wh, .bool false, .int .i64 wh, .bool false, u 43, u 44, u 45, .int .i64 k, .int .i64 tm, .bool false, .bool false, undef, undef, .bool false, u 53, u 54, u 55, u 56, u 57, u 58, u 59, u 60, u 61, u 62, u 63, u 64, u 65, u 66, u 67, u 68, u 69, u 70, u 71, u 72, u 73, u 74, u 75, u 76, u 77, u 78, u 79, u 80, u 81, u 82, u 83, u 84, u 85, u 86, u 87, undef, undef, undef, undef, undef, undef, undef, undef, undef, undef, undef, undef, undef, undef]).getD gj undef, i + 1, r2, wk, rfl, rfl, by omega, by omega, by omega, by assumption, by assumption, by assumption, by assumption⟩
    · refine tx 33 (.bool false) (by exact ex_bool (c := (i : Int) < 400) (by kernel_rfl) ⟨fun q => (by cases q), fun q => absurd q (by omega)⟩) <| tk 34 (.bool false) ?_
      try simp only [pp]
      refine rl_end hgo <| hKK14 _ _ <| wp_cond_false (by kernel_rfl) <| wp_exit <| hKK10 _ _ <| wp_seq_k fun KK59 hKK59 => rl_begin fun hgK hgo => tk 88 (.pointer (some ⟨r, 0, none⟩)) ?_
      try simp only [pp]
      refine rl_call (some 89) 33 #[.pointer (some ⟨r, 0, none⟩)] rfl (by kernel_rfl) (by kernel_rfl) (text_any r want _ hr (by omega)) ?_
      rintro e w60 ⟨rfl, hL60⟩
      refine ⟨_, rfl, ?_⟩
      replace hT := hT.later hL60
      replace hB := hB.later hL60
      replace hA := hA.later hL60
      replace hr := hr.later hL60
      have hz60 := hL60.size
      try simp only [pp]
      refine tk 90 (.string (bs want)) ?_
      try simp only [pp]
      refine tx 91 (.bool true) (by exact ex_es (a := want) (by kernel_rfl)) <| tk 92 (.bool true) <| tk 93 (.pointer (some ⟨r, 0, none⟩)) ?_
      try simp only [pp]
      refine rl_call (some 94) 34 #[.pointer (some ⟨r, 0, none⟩)] rfl (by kernel_rfl) (by kernel_rfl) (Depth_any r want _ hr) ?_
      rintro e w61 ⟨d, rfl, hL61, hd0, hd1⟩
      refine ⟨_, rfl, ?_⟩
      replace hT := hT.later hL61
      replace hB := hB.later hL61
      replace hA := hA.later hL61
      replace hr := hr.later hL61
      have hz61 := hL61.size
      try simp only [pp]
      refine tk 95 (.string (bs want)) ?_
      try simp only [pp]
      refine tx 96 (.int .i64 want.length) (by exact ex_len_bs (by kernel_rfl)) ?_
      try simp only [pp]
      refine rl_call (some 97) 35 #[.int .i64 want.length] rfl (by kernel_rfl) (by kernel_rfl) (Digits_any want.length _ (by omega)) ?_
      rintro e w62 ⟨rfl, hL62⟩
      refine ⟨_, rfl, ?_⟩
      replace hT := hT.later hL62
      replace hB := hB.later hL62
      replace hA := hA.later hL62
      replace hr := hr.later hL62
      have hz62 := hL62.size
      have hdg := digits_le 22 want.length (by omega)
      try simp only [pp]
      refine tx 98 (.int .i64 ((2 : Int) * (digitsN want.length))) (by exact ex_arith (e := (2 : Int) * (digitsN want.length)) (r := (2 : Int) * (digitsN want.length)) (by kernel_rfl) (by omega) (by omega)) ?_
      try simp only [pp]
      refine tx 99 (.int .i64 ((((2 : Int) * (digitsN want.length)) : Int) + 4)) (by exact ex_arith (e := (((2 : Int) * (digitsN want.length)) : Int) + 4) (r := (((2 : Int) * (digitsN want.length)) : Int) + 4) (by kernel_rfl) (by omega) (by omega)) ?_
      try simp only [pp]
      refine tx 100 (.bool true) (by exact ex_bool (c := (d : Int) ≤ ((((2 : Int) * (digitsN want.length)) : Int) + 4)) (by kernel_rfl) ⟨fun _ => by (have := depth_ok hd0 hd1; omega), fun _ => rfl⟩) <| tk 101 (.bool true) <| tk 6 (.bool true) ?_
      try simp only [pp]
      refine rl_end hgo <| hKK59 _ _ ?_
      refine wp_ret ?_
      try simp only [Exit.then, Exit.inBlock]
      refine bp_ret (v := .bool true) (res1 rfl (res_tmp (by kernel_rfl))) ?_
      exact ⟨rfl, hB⟩
  · refine tx 30 (.bool false) (by exact ex_bool (c := (i : Int) < b.length) (by kernel_rfl) ⟨fun q => (by cases q), fun q => absurd q (by omega)⟩) <| tk 31 (.bool false) ?_
    try simp only [pp]
    refine rl_pass (some 32) rfl (by kernel_rfl) ?_
    try simp only [pp]
    refine rl_pass (some 33) rfl (by kernel_rfl) ?_
    try simp only [pp]
    refine tk 34 (.bool false) ?_
    try simp only [pp]
    refine rl_end hgo <| hKK14 _ _ <| wp_cond_false (by kernel_rfl) <| wp_exit <| hKK10 _ _ <| wp_seq_k fun KK63 hKK63 => rl_begin fun hgK hgo => tk 88 (.pointer (some ⟨r, 0, none⟩)) ?_
    try simp only [pp]
    refine rl_call (some 89) 33 #[.pointer (some ⟨r, 0, none⟩)] rfl (by kernel_rfl) (by kernel_rfl) (text_any r want _ hr (by omega)) ?_
    rintro e w64 ⟨rfl, hL64⟩
    refine ⟨_, rfl, ?_⟩
    replace hT := hT.later hL64
    replace hB := hB.later hL64
    replace hA := hA.later hL64
    replace hr := hr.later hL64
    have hz64 := hL64.size
    try simp only [pp]
    refine tk 90 (.string (bs want)) ?_
    try simp only [pp]
    refine tx 91 (.bool true) (by exact ex_es (a := want) (by kernel_rfl)) <| tk 92 (.bool true) <| tk 93 (.pointer (some ⟨r, 0, none⟩)) ?_
    try simp only [pp]
    refine rl_call (some 94) 34 #[.pointer (some ⟨r, 0, none⟩)] rfl (by kernel_rfl) (by kernel_rfl) (Depth_any r want _ hr) ?_
    rintro e w65 ⟨d, rfl, hL65, hd0, hd1⟩
    refine ⟨_, rfl, ?_⟩
    replace hT := hT.later hL65
    replace hB := hB.later hL65
    replace hA := hA.later hL65
    replace hr := hr.later hL65
    have hz65 := hL65.size
    try simp only [pp]
    refine tk 95 (.string (bs want)) ?_
    try simp only [pp]
    refine tx 96 (.int .i64 want.length) (by exact ex_len_bs (by kernel_rfl)) ?_
    try simp only [pp]
    refine rl_call (some 97) 35 #[.int .i64 want.length] rfl (by kernel_rfl) (by kernel_rfl) (Digits_any want.length _ (by omega)) ?_
    rintro e w66 ⟨rfl, hL66⟩
    refine ⟨_, rfl, ?_⟩
    replace hT := hT.later hL66
    replace hB := hB.later hL66
    replace hA := hA.later hL66
    replace hr := hr.later hL66
    have hz66 := hL66.size
    have hdg := digits_le 22 want.length (by omega)
    try simp only [pp]
    refine tx 98 (.int .i64 ((2 : Int) * (digitsN want.length))) (by exact ex_arith (e := (2 : Int) * (digitsN want.length)) (r := (2 : Int) * (digitsN want.length)) (by kernel_rfl) (by omega) (by omega)) ?_
    try simp only [pp]
    refine tx 99 (.int .i64 ((((2 : Int) * (digitsN want.length)) : Int) + 4)) (by exact ex_arith (e := (((2 : Int) * (digitsN want.length)) : Int) + 4) (r := (((2 : Int) * (digitsN want.length)) : Int) + 4) (by kernel_rfl) (by omega) (by omega)) ?_
    try simp only [pp]
    refine tx 100 (.bool true) (by exact ex_bool (c := (d : Int) ≤ ((((2 : Int) * (digitsN want.length)) : Int) + 4)) (by kernel_rfl) ⟨fun _ => by (have := depth_ok hd0 hd1; omega), fun _ => rfl⟩) <| tk 101 (.bool true) <| tk 6 (.bool true) ?_
    try simp only [pp]
    refine rl_end hgo <| hKK63 _ _ ?_
    refine wp_ret ?_
    try simp only [Exit.then, Exit.inBlock]
    refine bp_ret (v := .bool true) (res1 rfl (res_tmp (by kernel_rfl))) ?_
    exact ⟨rfl, hB⟩
end Go.Proofs.YtliphfgiaioebaaDoor
namespace Go.Proofs.YtliphfgiaioebaaDoor
set_option linter.unusedVariables false
set_option linter.unusedSimpArgs false
open Go.ChangeShapes Go.WideShapes Go.ChangeAt Go.RowKit Go.Deep
theorem chunks (k : Nat) : ∀ (n : Nat) (cs : List Value) (T : Nat → List Value), cs.length = n * k → (∀ i, i < n → (cs.drop (i * k)).take k = T i) → cs = (List.range n).flatMap T
  | 0, cs, T, h, _ => by simp at h; simp [h]
  | n + 1, cs, T, h, hT => by
    rw [List.range_succ_eq_map, List.flatMap_cons, List.flatMap_map]
    have h0 := hT 0 (by omega)
    simp only [Nat.zero_mul, List.drop_zero] at h0
    have ih := chunks k n (cs.drop k) (fun i => T (i + 1)) (by rw [List.length_drop, h, Nat.add_mul]; omega) fun i hi => by
      have := hT (i + 1) (by omega)
      rw [List.drop_drop, show k + i * k = (i + 1) * k by rw [Nat.add_mul]; omega]
      exact this
    conv => lhs; rw [← List.take_append_drop k cs, h0, ih]
theorem three {cs : List Value} (h : cs.length = 3) : ∃ x y z, cs = [x, y, z] := by
  match cs, h with
  | [x, y, z], _ => exact ⟨x, y, z, rfl⟩
section
variable {H : Type} {enc : TypeId × Value → H} {W : World} {base : Nat} {sp : Nat → Bool} {held : Bool} {fuel : Nat} {cs : List Value} {p : List MemPlace}
theorem span_cells {a b c : Int} (h : DataW.trod enc Tryd.prog W base sp held fuel 201 cs = some (.agg [.lit (.int .i64 a), .lit (.int .i64 b), .lit (.int .i64 c)], p)) : cs = [.int .i64 a, .int .i64 b, .int .i64 c] := by
  obtain ⟨y0, y1, y2, n, hx, hl, h0, h1, h2⟩ := trod_struct3 (show Tryd.prog.underlying 201 = some (.struct #[_, _, _]) from Tryd.underlying201) h
  obtain ⟨z0, c0, e0, -⟩ := DataW.trod_int (k := .i64) (by kernel_rfl) h0
  obtain ⟨z1, c1, e1, -⟩ := DataW.trod_int (k := .i64) (by kernel_rfl) h1
  obtain ⟨z2, c2, e2, -⟩ := DataW.trod_int (k := .i64) (by kernel_rfl) h2
  subst e0 e1 e2
  simp only [Prod.mk.injEq, DataW.agg.injEq, List.cons.injEq, DataW.lit.injEq, Lit.int.injEq, true_and, and_true] at hx
  obtain ⟨⟨rfl, rfl, rfl⟩, -⟩ := hx
  rw [show Tryd.prog.cellsOf 201 = 3 by kernel_rfl] at hl
  clear h h0 h1 h2
  obtain ⟨x, y, z, rfl⟩ := three hl
  rw [show Tryd.prog.cellsOf 3 = 1 by kernel_rfl] at c0 c1
  rw [show Tryd.prog.cellsOf 196 = 1 by kernel_rfl] at c2
  simp at c0 c1 c2
  rw [c0, c1, c2]
theorem step_cells {a b : Int} {c : Bool} (h : DataW.trod enc Tryd.prog W base sp held fuel 158 cs = some (.agg [.lit (.int .i32 a), .lit (.int .i64 b), .lit (.bool c)], p)) : cs = [.int .i32 a, .int .i64 b, .bool c] := by
  obtain ⟨y0, y1, y2, n, hx, hl, h0, h1, h2⟩ := trod_struct3 (show Tryd.prog.underlying 158 = some (.struct #[_, _, _]) from Tryd.underlying158) h
  obtain ⟨z0, c0, e0, -⟩ := DataW.trod_int (k := .i32) (by kernel_rfl) h0
  obtain ⟨z1, c1, e1, -⟩ := DataW.trod_int (k := .i64) (by kernel_rfl) h1
  obtain ⟨z2, c2, e2⟩ := DataW.trod_bool (by kernel_rfl) h2
  subst e0 e1 e2
  simp only [Prod.mk.injEq, DataW.agg.injEq, List.cons.injEq, DataW.lit.injEq, Lit.int.injEq, Lit.bool.injEq, true_and, and_true] at hx
  obtain ⟨⟨rfl, rfl, rfl⟩, -⟩ := hx
  rw [show Tryd.prog.cellsOf 158 = 3 by kernel_rfl] at hl
  clear h h0 h1 h2
  obtain ⟨x, y, z, rfl⟩ := three hl
  rw [show Tryd.prog.cellsOf 21 = 1 by kernel_rfl] at c0
  rw [show Tryd.prog.cellsOf 3 = 1 by kernel_rfl] at c1
  rw [show Tryd.prog.cellsOf 4 = 1 by kernel_rfl] at c2
  simp at c0 c1 c2
  rw [c0, c1, c2]
theorem spans_cells {T : List (Int × Int × Int)} (hT : T.length = 7) (h : DataW.trod enc Tryd.prog W base sp held fuel 202 cs = some (.agg (T.map fun x => .agg [.lit (.int .i64 x.1), .lit (.int .i64 x.2.1), .lit (.int .i64 x.2.2)]), p)) :
    cs = (List.range 7).flatMap fun i => (match T[i]? with | some x => [.int .i64 x.1, .int .i64 x.2.1, .int .i64 x.2.2] | none => []) := by
  obtain ⟨xs, m, -, hx, hl, hlen, hi⟩ := DataW.trod_array Tryd.underlying202 h
  rw [show Tryd.prog.cellsOf 202 = 7 * 3 by kernel_rfl] at hl
  simp only [show Tryd.prog.cellsOf 201 = 3 by kernel_rfl] at hi
  simp only [Prod.mk.injEq, DataW.agg.injEq] at hx
  refine chunks 3 7 cs _ hl fun i hi7 => ?_
  have h1 := hi i hi7
  have h2 := congrArg (·[i]?) hx.1
  simp only [List.getElem?_map] at h2
  rw [List.getElem?_eq_getElem (by omega : i < T.length), List.getElem?_eq_getElem (by omega : i < xs.length)] at h2
  rw [List.getElem?_eq_getElem (by omega : i < xs.length)] at h1
  rw [List.getElem?_eq_getElem (by omega : i < T.length)]
  simp only [Option.map_some, Option.some.injEq] at h2
  refine span_cells (p := xs[i].2) (h1.trans ?_)
  rw [h2]
end
theorem tabs_laid {W : World} (h : laidMetH Tryd.prog Rows.ropeNilUptoRow.laid W) : Tabs W := by
  have h' : laidMet Tryd.prog [("galley/octet.spans", Rows.laid_galley_octet_spans), ("galley/octet.needs", Rows.laid_galley_octet_needs), ("galley/octet.masks", Rows.laid_galley_octet_masks), ("galley/step.bad", Rows.laid_galley_step_bad)] W := h
  obtain ⟨ps, ⟨g1, t1, cs1, f1, p1, q1, hg1, ht1, hv1, hd1, ⟨g2, t2, cs2, f2, p2, q2, hg2, ht2, hv2, hd2, ⟨g3, t3, cs3, f3, p3, q3, hg3, ht3, hv3, hd3, ⟨g4, t4, cs4, f4, p4, q4, hg4, ht4, hv4, hd4, -, -⟩, -⟩, -⟩, -⟩, -⟩ := h'
  obtain rfl := Option.some.inj ((show Tryd.prog.globalNamed "galley/octet.spans" = some 3 by kernel_rfl).symm.trans hg1)
  obtain rfl := Option.some.inj ((show Tryd.prog.globalNamed "galley/octet.needs" = some 2 by kernel_rfl).symm.trans hg2)
  obtain rfl := Option.some.inj ((show Tryd.prog.globalNamed "galley/octet.masks" = some 0 by kernel_rfl).symm.trans hg3)
  obtain rfl := Option.some.inj ((show Tryd.prog.globalNamed "galley/step.bad" = some 1 by kernel_rfl).symm.trans hg4)
  obtain rfl := Option.some.inj ((show (Tryd.prog.globals[3]?).map (·.type) = some 202 by kernel_rfl).symm.trans ht1)
  obtain rfl := Option.some.inj ((show (Tryd.prog.globals[2]?).map (·.type) = some 199 by kernel_rfl).symm.trans ht2)
  obtain rfl := Option.some.inj ((show (Tryd.prog.globals[0]?).map (·.type) = some 192 by kernel_rfl).symm.trans ht3)
  obtain rfl := Option.some.inj ((show (Tryd.prog.globals[1]?).map (·.type) = some 158 by kernel_rfl).symm.trans ht4)
  have e1 : cs1.toList = spanCells := spans_cells (T := [(0, 127, 1), (128, 191, 2), (192, 193, 6), (194, 223, 3), (224, 239, 4), (240, 244, 5), (245, 255, 6)]) rfl hd1
  have e2 : cs2.toList = needCells := Lib.cells_of_tab (k := .i64) (zs := [0, 1, 0, 2, 3, 4, 0]) Tryd.underlying199 Tryd.underlying3 (by kernel_rfl) (by kernel_rfl) hd2
  have e3 : cs3.toList = maskCells := Lib.cells_of_tab (k := .u8) (zs := [0, 127, 31, 15, 7]) Tryd.underlying192 Tryd.underlying5 (by kernel_rfl) (by kernel_rfl) hd3
  have e4 : cs4.toList = badCells := step_cells hd4
  have key : ∀ {n : String} {g : Nat} {cs : Array Value} {l : List Value}, Tryd.prog.globalNamed n = some g → W.var? Tryd.prog n = some cs → cs.toList = l → ∀ i v, l[i]? = some v → W.cell? ⟨g, i, none⟩ = some v := fun hg hv e i v hi => by
    rw [World.var?_cell hg hv i, ← Array.getElem?_toList, e]; exact hi
  exact ⟨key hg1 hv1 e1, key hg2 hv2 e2, key hg3 hv3 e3, key hg4 hv4 e4⟩
end Go.Proofs.YtliphfgiaioebaaDoor
namespace Go.Proofs.YtliphfgiaioebaaDoor
set_option linter.unusedVariables false
set_option linter.unusedSimpArgs false
open Go.ChangeShapes Go.WideShapes Go.ChangeAt Go.RowKit Go.Deep
set_option maxRecDepth 100000
namespace glue
theorem one_le {H : Type} (d : DataW H) : 1 ≤ Rows.uptoBulk d := by
  cases d with
  | lit l => cases l <;> simp [Rows.uptoBulk]
  | nil => simp [Rows.uptoBulk]
  | ptr d => simp [Rows.uptoBulk]
  | slice elems spare => simp [Rows.uptoBulk]
  | agg parts => simp [Rows.uptoBulk]
  | iface t d => simp [Rows.uptoBulk]
  | map entries => simp [Rows.uptoBulk]
  | held h => simp [Rows.uptoBulk]
theorem length_le {H : Type} (l : List (DataW H)) : l.length ≤ Rows.uptoBulkAll l := by
  induction l with
  | nil => simp [Rows.uptoBulkAll]
  | cons x r ih => have := one_le x; simp only [Rows.uptoBulkAll, List.length_cons]; omega
theorem mem_le {H : Type} {l : List (DataW H)} {d : DataW H} (h : d ∈ l) : Rows.uptoBulk d ≤ Rows.uptoBulkAll l := by
  induction l with
  | nil => cases h
  | cons x r ih =>
    simp only [Rows.uptoBulkAll]
    rcases List.mem_cons.1 h with rfl | h
    · omega
    · have := ih h; omega
theorem slice_le {H : Type} (elems spare : List (DataW H)) : elems.length + spare.length + 1 ≤ Rows.uptoBulk (.slice elems spare) := by
  have h1 := length_le elems
  have h2 := length_le spare
  simp only [Rows.uptoBulk]
  omega
def setG (h : Array Obj) (g : Nat) (cs : List Value) : Array Obj := h.modify g fun
  | .cells _ t frozen => .cells cs.toArray t frozen
  | o => o
/-- a world that holds the four laid variables -/
noncomputable def laidWorld (os : Os) : World :=
  { World.holding Tryd.prog os ⟨#[], #[], []⟩ with heap := setG (setG (setG (setG (World.holding Tryd.prog os ⟨#[], #[], []⟩).heap 3 spanCells) 2 needCells) 0 maskCells) 1 badCells }
theorem own : ownKnob Tryd.prog.godebug = none := by kernel_rfl
theorem laidOut : laidOutB Tryd.prog = true := by kernel_rfl
section
variable {H : Type} {enc : TypeId × Value → H}
theorem back {W W' : World} (hb : Below W.heap.size W W') : ∀ (ts : List TypeId) (vs : List Value) (ds : List (DataW H)) (p : List MemPlace), DataW.TrodAll enc Tryd.prog W 0 (fun _ => true) true ts vs ds p →
    (∀ t ∈ ts, Tryd.prog.readableRec t = true ∧ t < Tryd.prog.types.size) → (∀ x ∈ p, x.block < W.heap.size) → DataW.TrodAll enc Tryd.prog W' 0 (fun b => decide (b < W.heap.size)) true ts vs ds p
  | [], [], [], p, h, _, _ => h
  | t :: ts, v :: vs, d :: ds, p, ⟨p1, p2, h1, h2, e⟩, ht, hp =>
    ⟨p1, p2, Below.trod laidOut (ht t (by simp)).1 (ht t (by simp)).2 h1 hb (fun x hx => hp x (by rw [e]; simp [hx])), back hb ts vs ds p2 h2 (fun t h => ht t (by simp [h])) (fun x hx => hp x (by rw [e]; simp [hx])), e⟩
  | [], _ :: _, _, _, h, _, _ => by cases h
  | [], [], _ :: _, _, h, _, _ => by cases h
  | _ :: _, [], _, _, h, _, _ => by cases h
  | _ :: _, _ :: _, [], _, h, _, _ => by cases h
/-- a slice of bytes that came in -/
theorem open_bytes0 {W : World} {a1 : Value} {fuel : Nat} {x : DataW H × List MemPlace} (hf : DataW.trod enc Tryd.prog W 0 (fun _ => true) true fuel 41 [a1] = some x) :
    ∃ (A : Option Addr) (c : Nat) (l : List UInt8), a1 = .slice A l.length c ∧ BytesAt W A l ∧ l.length ≤ c ∧ (A = none → c = 0) ∧ l.length ≤ Rows.uptoBulk x.1 := by
  rcases open_ints Tryd.underlying41 Tryd.underlying5 (by kernel_rfl) hf with ⟨hcs, hx⟩ | ⟨a, len', cap', zs, hcs, _, hl, hm, hz, hx, hcell, hwz⟩
  · simp only [List.cons.injEq, and_true] at hcs
    subst hcs
    exact ⟨none, 0, [], rfl, BytesAt.nil _ _, Nat.le_refl _, fun _ => rfl, Nat.zero_le _⟩
  · simp only [List.cons.injEq, and_true] at hcs
    subst hcs hx
    simp only [if_true] at hz
    have hlen : ((zs.take len').map fun n => UInt8.ofNat n.toNat).length = len' := by simp; omega
    refine ⟨some a, cap', (zs.take len').map fun n => UInt8.ofNat n.toNat, by rw [hlen], fun h0 => ?_, by rw [hlen]; exact hl, (fun e => by cases e), ?_⟩
    · rw [hlen] at h0
      obtain ⟨ab, ao, spot⟩ := a
      have hspot : spot = none := by simpa [Addr.add] using World.cell?_spot (hcell 0 (by omega))
      subst hspot
      refine ⟨ab, ao, rfl, fun i hi => ?_⟩
      rw [hlen] at hi
      have hc := hcell i (by omega)
      rw [Addr.add_lit] at hc
      rw [hc]
      have hb := range_u8 hwz i
      have e : zs[i]? = some (zs[i]'(by omega)) := List.getElem?_eq_getElem (by omega)
      have hg : gb ((zs.take len').map fun n => UInt8.ofNat n.toNat) i = zs.getD i 0 := by
        unfold gb
        rw [List.getD_eq_getElem?_getD, List.getElem?_map, List.getElem?_take, if_pos hi, e, List.getD_eq_getElem?_getD, e]
        rw [e] at hb
        simp only [Option.map_some, Option.getD_some, UInt8.toNat_ofNat'] at hb ⊢
        omega
      rw [hg]
    · rw [hlen]
      have := slice_le (lits (H := H) .u8 (zs.take len')) (lits .u8 (zs.drop len'))
      have h1 : (lits (H := H) .u8 (zs.take len')).length = len' := by simp [lits]; omega
      simp only
      omega
theorem open_bytes {W : World} {base : Nat} {v : Value} {d : DataW H} {p : List MemPlace} (hval : Value.okWide Tryd.prog W .any base 41 v) (h : DataW.Trod enc Tryd.prog W 0 (fun _ => true) true 41 v d p) :
    ∃ (A : Option Addr) (c : Nat) (l : List UInt8), v = .slice A l.length c ∧ BytesAt W A l ∧ l.length ≤ c ∧ (A = none → c = 0) ∧ l.length ≤ Rows.uptoBulk d := by
  obtain ⟨a1, len, cap, rfl⟩ := okWide_slice Tryd.underlying41 hval
  obtain ⟨fuel, hf⟩ := h
  exact open_bytes0 (x := (d, p)) (hf : DataW.trod enc Tryd.prog W 0 (fun _ => true) true fuel 41 [.slice a1 len cap] = some (d, p))
theorem list_of {α : Type} {P : Nat → α → Prop} : ∀ n : Nat, (∀ i, i < n → ∃ x, P i x) → ∃ l : List α, l.length = n ∧ ∀ i x, l[i]? = some x → P i x
  | 0, _ => ⟨[], rfl, fun i x h => by simp at h⟩
  | n + 1, h => by
    obtain ⟨l, h1, h2⟩ := list_of n fun i hi => h i (by omega)
    obtain ⟨x, hx⟩ := h n (by omega)
    refine ⟨l ++ [x], by simp [h1], fun i y hy => ?_⟩
    rcases Nat.lt_or_ge i l.length with hi | hi
    · rw [List.getElem?_append_left hi] at hy; exact h2 i y hy
    · rw [List.getElem?_append_right hi] at hy
      have : i - l.length = 0 := by
        have := (List.getElem?_eq_some_iff.1 hy).1; simp at this; omega
      rw [this] at hy; simp at hy; subst hy
      rwa [show i = n by omega]
theorem open_slice_fields {P : Program} {w : World} {base : Nat} {spare : Nat → Bool} {held : Bool} {t e : TypeId} {fs : Array Field} {fuel : Nat} {cs : List Value} {x : DataW H × List MemPlace} (ht : P.underlying t = some (.slice e)) (he : P.underlying e = some (.struct fs))
    (hone : oneCellFields P fs = true) (hC : P.cellsOf e = fs.size) (h : DataW.trod enc P w base spare held fuel t cs = some x) :
    (cs = [.slice none 0 0] ∧ x = (.nil, [])) ∨
    ∃ (a : Addr) (len cap m : Nat) (D : Nat → DataW H) (Pl : Nat → List MemPlace), cs = [.slice (some a) len cap] ∧ base ≤ a.block ∧ len ≤ cap ∧ cap ≤ maxLen ∧ m = (if spare a.block then cap else len) ∧
      x = (.slice ((List.range len).map D) ((List.range (m - len)).map fun j => D (len + j)), MemPlace.row a (m * fs.size) ++ (List.range m).flatMap Pl) ∧
      ∀ i, i < m → ∃ (ys : List (DataW H × List MemPlace)) (n : Nat), D i = .agg (ys.map (·.1)) ∧ Pl i = ys.flatMap (·.2) ∧ ys.length = fs.size ∧
        ∀ (j : Nat) (f : Field), fs[j]? = some f → ∃ (v : Value) (y : DataW H × List MemPlace), w.cell? (a.add (i * fs.size + j)) = some v ∧ ys[j]? = some y ∧ DataW.trod enc P w base spare held n f.type [v] = some y := by
  rcases open_slice ht h with h0 | ⟨a, len, cap, m, n, D, Pl, hcs, hb, hl, hm, hmm, hx, hi⟩
  · exact .inl h0
  · refine .inr ⟨a, len, cap, m, D, Pl, hcs, hb, hl, hm, hmm, by rw [hC] at hx; exact hx, fun i him => ?_⟩
    obtain ⟨cs', hc, ht'⟩ := hi i him
    rw [hC] at hc
    obtain ⟨ys, n', hn', hy, hlen, hyl, hf⟩ := DataW.trod_struct he ht'
    obtain ⟨_, hcl, hat⟩ := World.cells?_some hc
    simp only [Prod.mk.injEq] at hy
    refine ⟨ys, n', hy.1, hy.2, hyl, fun j f hj => ?_⟩
    obtain ⟨ho, hk⟩ := hone_of hone j f hj
    have hjl : j < fs.size := (Array.getElem?_eq_some_iff.1 hj).1
    have hcell := hat j hjl
    have hv : cs'[j]? = some (cs'[j]'(by omega)) := List.getElem?_eq_getElem (by omega)
    have h1 := hf j f hj
    rw [ho, hk] at h1
    have hone' : (cs'.drop j).take 1 = [cs'[j]'(by omega)] := by
      rw [List.drop_eq_getElem_cons (by omega)]
      rfl
    rw [hone'] at h1
    have hys : ys[j]? = some (ys[j]'(by omega)) := List.getElem?_eq_getElem (by omega)
    refine ⟨_, _, ?_, hys, h1.trans hys⟩
    rw [← Go.Deep.add_add, hcell, hv]
/-- acts that came in -/
theorem open_acts {W : World} {base : Nat} {v : Value} {d : DataW H} {p : List MemPlace} (hval : Value.okWide Tryd.prog W .any base 22 v) (h : DataW.Trod enc Tryd.prog W 0 (fun _ => true) true 22 v d p) (hk : Rows.uptoBulk d ≤ 1048576) :
    ∃ (A : Option Addr) (c : Nat) (l : List ActD), v = .slice A l.length c ∧ ActsAt W.heap.size W A l ∧ l.length ≤ c ∧ l.length ≤ 1100000 := by
  obtain ⟨a1, len, cap, rfl⟩ := okWide_slice Tryd.underlying22 hval
  obtain ⟨fuel, hf⟩ := h
  rcases open_slice_fields Tryd.underlying22 Tryd.underlying105 (by kernel_rfl) (by kernel_rfl) hf with ⟨hcs, hx⟩ | ⟨a, len', cap', m, D, Pl, hcs, _, hl, _, hm, hx, hi⟩
  · simp [Value.cells] at hcs
    obtain ⟨rfl, rfl, rfl⟩ := hcs
    exact ⟨none, 0, [], rfl, ⟨Nat.le_refl _, by simp, fun h => absurd h (by simp)⟩, Nat.le_refl _, Nat.zero_le _⟩
  · simp [Value.cells] at hcs
    obtain ⟨rfl, rfl, rfl⟩ := hcs
    simp only [Prod.mk.injEq] at hx
    obtain ⟨rfl, rfl⟩ := hx
    simp only [if_true] at hm
    have hbulk := slice_le ((List.range len).map D) ((List.range (m - len)).map fun j => D (len + j))
    simp only [List.length_map, List.length_range] at hbulk
    have hall : Rows.uptoBulkAll ((List.range len).map D) ≤ 1048576 := by simp only [Rows.uptoBulk] at hk; omega
    have key : ∀ i, i < len → ∃ x : ActD, x.ok W.heap.size W ∧ ∀ j v, x.v[j]? = some v → W.cell? (a.add (i * 6 + j)) = some v := fun i hil => by
      obtain ⟨ys, n, hD, -, hyl, hj⟩ := hi i (by omega)
      obtain ⟨v0, y0, k0, g0, t0⟩ := hj 0 _ rfl
      obtain ⟨v1, y1, k1, g1, t1⟩ := hj 1 _ rfl
      obtain ⟨v2, y2, k2, g2, t2⟩ := hj 2 _ rfl
      obtain ⟨v3, y3, k3, g3, t3⟩ := hj 3 _ rfl
      obtain ⟨v4, y4, k4, g4, t4⟩ := hj 4 _ rfl
      obtain ⟨v5, y5, k5, g5, t5⟩ := hj 5 _ rfl
      obtain ⟨z0, e0, -⟩ := DataW.trod_int (k := .i64) Tryd.underlying3 t0
      obtain ⟨z1, e1, -⟩ := DataW.trod_int (k := .i64) Tryd.underlying3 t1
      obtain ⟨z2, e2, -⟩ := DataW.trod_int (k := .i64) Tryd.underlying3 t2
      obtain ⟨z3, e3, -⟩ := DataW.trod_int (k := .i64) Tryd.underlying3 t3
      obtain ⟨z4, e4, -⟩ := DataW.trod_int (k := .i64) Tryd.underlying3 t4
      simp only [List.cons.injEq, and_true] at e0 e1 e2 e3 e4
      obtain ⟨A, c, l, rfl, hb, hc, hn, hu⟩ := open_bytes0 t5
      have hle : Rows.uptoBulk y5.1 ≤ 1048576 := by
        have h1 : y5.1 ∈ ys.map (·.1) := List.mem_map.2 ⟨y5, List.mem_of_getElem? g5, rfl⟩
        have h2 := mem_le h1
        have h3 : D i ∈ (List.range len).map D := List.mem_map.2 ⟨i, List.mem_range.2 hil, rfl⟩
        have h4 := mem_le h3
        rw [hD] at h4
        simp only [Rows.uptoBulk] at h4
        omega
      refine ⟨⟨z0, z1, z2, z3, z4, A, c, l⟩, ⟨hb.n, hc, hn, by show l.length ≤ 2000000; omega⟩, fun j v hv => ?_⟩
      subst e0 e1 e2 e3 e4
      simp only [ActD.v] at hv
      match j, hv with
      | 0, hv => cases hv; exact k0
      | 1, hv => cases hv; exact k1
      | 2, hv => cases hv; exact k2
      | 3, hv => cases hv; exact k3
      | 4, hv => cases hv; exact k4
      | 5, hv => cases hv; exact k5
      | _ + 6, hv => simp at hv
    obtain ⟨l, rfl, hll⟩ := list_of len key
    refine ⟨some a, cap, l, rfl, ⟨Nat.le_refl _, fun x hx => ?_, fun h0 => ?_⟩, hl, by omega⟩
    · obtain ⟨i, hi'⟩ := List.getElem?_of_mem hx
      exact (hll i x hi').1
    · obtain ⟨x, hx⟩ : ∃ x, l[0]? = some x := ⟨_, List.getElem?_eq_getElem h0⟩
      have hc0 := (hll 0 x hx).2 0 _ rfl
      obtain ⟨ab, ao, spot⟩ := a
      have hspot : spot = none := by simpa [Addr.add] using World.cell?_spot hc0
      subst hspot
      have hlt := World.block_lt_of_cell? W _ hc0
      rw [add_none] at hlt
      refine ⟨ab, ao, rfl, hlt, fun i x j v hx hv => ?_⟩
      have := (hll i x hx).2 j v hv
      rwa [add_none, ← Nat.add_assoc] at this
end
end glue
end Go.Proofs.YtliphfgiaioebaaDoor
namespace Go.Proofs.YtliphfgiaioebaaDoor.ropeGrows
set_option linter.unusedVariables false
set_option linter.unusedSimpArgs false
open Go.ChangeShapes Go.WideShapes Go.ChangeAt Go.RowKit Go.Deep Go.Proofs.YtliphfgiaioebaaDoor
set_option maxRecDepth 100000
section
variable {H : Type} {enc : TypeId × Value → H}
theorem contract (W : World) (base : Nat) (args : Array Value) (ds gs : List (DataW H)) (before : List MemPlace)
    (hval : ∀ (j : Nat) t v, Tryd.f10.params[j]? = some t → args[j]? = some v → Value.okWide Tryd.prog W .any base t v)
    (hW : DataW.Whole enc Tryd.prog Tryd.f10.params.toList Rows.ropeGrowsSpec.vars false W args.toList ds gs before) (hL : laidMetH Tryd.prog Rows.ropeGrowsUptoRow.laid W) (hk : Rows.uptoSmall H (ds ++ gs) = true) :
    Calls Tryd.prog 10 args W fun e W' => ∃ v, e = .returned v ∧ Rows.ropeGrowsSpec.post enc Tryd.prog Tryd.f10 false true false false W args v W' := by
  have hW' := hW
  obtain ⟨p, q, hA0, hV, rfl, hfz, hnd⟩ := hW
  have hlt : ∀ x ∈ p, x.block < W.heap.size := fun x hx => hW'.lt x (List.mem_append_left _ hx)
  have hA : DataW.TrodAll enc Tryd.prog W 0 (fun _ => true) true Tryd.f10.params.toList args.toList ds p := hA0
  rw [Tryd.params10] at hA hval
  obtain ⟨v0, v1, v2, d0, d1, d2, p0, p1, p2, hargs, rfl, rfl, h0, h1, h2⟩ := trodAll_three hA
  obtain rfl : args = #[v0, v1, v2] := by cases args; simp_all
  obtain ⟨rfl, rfl⟩ := trodVars_none hV
  have hsm : Rows.uptoBulkAll [d0, d1, d2] ≤ 1048576 := by simpa [Rows.uptoSmall] using hk
  simp only [Rows.uptoBulkAll] at hsm
  obtain ⟨A0, c0, l0, rfl, hb0, hc0, hn0, hm0⟩ := glue.open_bytes (hval 0 41 v0 rfl rfl) h0
  obtain ⟨a1, rfl, rfl, -, w1⟩ := open_int Tryd.underlying3 (hval 1 3 v1 rfl rfl) h1
  obtain ⟨a2, rfl, rfl, -, w2⟩ := open_int Tryd.underlying3 (hval 2 3 v2 rfl rfl) h2
  refine (RopeGrows_walk A0 c0 l0 a1 a2 W (tabs_laid hL) hb0 hc0 hn0 (by omega)).mono fun e W' ⟨he, hl⟩ => ?_
  subst he
  have ht : ∀ t ∈ Tryd.f10.params.toList, Tryd.prog.readableRec t = true ∧ t < Tryd.prog.types.size := by
    rw [Tryd.params10]
    intro t ht
    simp only [List.mem_cons, List.not_mem_nil, or_false] at ht
    rcases ht with rfl | rfl | rfl
    all_goals exact ⟨by kernel_rfl, of_decide_eq_true (by kernel_rfl)⟩
  exact ⟨_, rfl, _, _, _, _, _, _, hW', trodAll_cons_mk (shut_bool Tryd.underlying4 _) trodAll_mk0, glue.back hl _ _ _ _ hA0 ht hlt, rfl, Below.frame hl _, fun h => by cases h⟩
end
end Go.Proofs.YtliphfgiaioebaaDoor.ropeGrows
