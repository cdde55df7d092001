/-
  Law 9: RopeSame's function.
  The four laid variables: what the rows' list says of their cells.
  Law 9: an input's acts and bytes, opened; read again behind the call; a world that the cards start from.
  RopeSame, where what it reads is of bulk at most 1048576: whatever the acts and the place, it answers true, and its input reads as it did.
-/
import Derived.Test.YtliphfgiaioebaaDoorB16
import Derived.Test.YtliphfgiaioebaaDoorCards
import Derived.Test.YtliphfgiaioebaaDoorTie
import Derived.Lib.LaidTab
import Derived.Deep.Strs
import Derived.OpenShut
import Derived.ProofKit
import Derived.Deep.DeepHandedRow
import Derived.Deep.Slices
import Derived.Deep.Fields
import Derived.ChangeSame
namespace Go.Proofs.YtliphfgiaioebaaDoor
set_option linter.unusedVariables false
set_option linter.unusedSimpArgs false
open Go.RowKit
set_option maxRecDepth 100000
set_option maxHeartbeats 16000000
theorem lenNil (w : World) : Calls Tryd.prog 45 #[.pointer none] w fun e w' => e = .returned (.int .i64 0) ∧ Ltr w w' := by
  have hB := Ltr.refl w
  go_enter Tryd.func45, Tryd.ntmps45
  refine wp_seq_k fun KK1 hKK1 => rl_begin fun hgK hgo => tk 2 (.int .i64 0) ?_
  try simp only [pp]
  refine rl_end hgo <| hKK1 _ _ <| wp_seq_k fun KK2 hKK2 => wp_seq_k fun KK3 hKK3 => rl_begin fun hgK hgo => tk 3 (.pointer none) <| tk 4 (.bool true) <| tk 5 (.bool true) ?_
  try simp only [pp]
  refine rl_pass (some 6) rfl (by kernel_rfl) ?_
  try simp only [pp]
  refine rl_pass (some 7) rfl (by kernel_rfl) ?_
  try simp only [pp]
  refine rl_pass (some 8) rfl (by kernel_rfl) ?_
  try simp only [pp]
  refine rl_pass (some 9) rfl (by kernel_rfl) ?_
  try simp only [pp]
  refine rl_pass (some 10) rfl (by kernel_rfl) ?_
  try simp only [pp]
  refine tk 11 (.bool true) ?_
  try simp only [pp]
  refine rl_end hgo <| hKK3 _ _ <| wp_cond_true (by kernel_rfl) <| wp_seq_k fun KK4 hKK4 => rl_begin fun hgK hgo => tk 2 (.int .i64 0) ?_
  try simp only [pp]
  refine rl_end hgo <| hKK4 _ _ ?_
  refine wp_ret ?_
  try simp only [Exit.then, Exit.inBlock]
  refine bp_ret (v := .int .i64 0) (res1 rfl (res_tmp (by kernel_rfl))) ?_
  exact ⟨rfl, hB⟩
theorem sameNil1 (b : Nat) (l : List UInt8) (w : World) (hb : RopeAt w b l) : Calls Tryd.prog 38 #[.pointer none, .pointer (some ⟨b, 0, none⟩)] w fun e w' => e = .returned (.bool (l == [])) ∧ Ltr w w' := by
  have hB := Ltr.refl w
  go_enter Tryd.func38, Tryd.ntmps38
  refine wp_seq_k fun KK1 hKK1 => rl_begin fun hgK hgo => tk 4 (.bool false) ?_
  try simp only [pp]
  refine rl_end hgo <| hKK1 _ _ <| wp_seq_k fun KK2 hKK2 => wp_seq_k fun KK3 hKK3 => rl_begin fun hgK hgo => tk 9 (.pointer none) ?_
  try simp only [pp]
  refine rl_call (some 10) 45 #[.pointer none] rfl (by kernel_rfl) (by kernel_rfl) (lenNil _) ?_
  rintro e w4 ⟨rfl, hL4⟩
  refine ⟨_, rfl, ?_⟩
  replace hB := hB.later hL4
  replace hb := hb.later hL4
  have hz4 := hL4.size
  try simp only [pp]
  refine tk 11 (.pointer (some ⟨b, 0, none⟩)) ?_
  try simp only [pp]
  refine rl_call (some 12) 45 #[.pointer (some ⟨b, 0, none⟩)] rfl (by kernel_rfl) (by kernel_rfl) (Len_any b l _ hb) ?_
  rintro e w5 ⟨rfl, hL5⟩
  refine ⟨_, rfl, ?_⟩
  replace hB := hB.later hL5
  replace hb := hb.later hL5
  have hz5 := hL5.size
  try simp only [pp]
  by_cases h1 : (0 : Int) ≠ (l.length : Int)
  · refine tx 13 (.bool true) (by exact ex_bne (x := 0) (y := l.length) (by kernel_rfl) ⟨fun _ => by omega, fun _ => rfl⟩) ?_
    try simp only [pp]
    refine rl_end hgo <| hKK3 _ _ <| wp_cond_true (by kernel_rfl) <| wp_seq_k fun KK6 hKK6 => rl_begin fun hgK hgo => tk 4 (.bool false) ?_
    try simp only [pp]
    refine rl_end hgo <| hKK6 _ _ ?_
    refine wp_ret ?_
    try simp only [Exit.then, Exit.inBlock]
    refine bp_ret (v := .bool false) (res1 rfl (res_tmp (by kernel_rfl))) ?_
    exact ⟨by rw [beq_eq_false_iff_ne.2 (fun e => h1 (by rw [e]; rfl))], hB⟩
  · refine tx 13 (.bool false) (by exact ex_bne (x := 0) (y := l.length) (by kernel_rfl) ⟨fun q => (by cases q), fun q => absurd q (by omega)⟩) ?_
    try simp only [pp]
    refine rl_end hgo <| hKK3 _ _ <| wp_cond_false (by kernel_rfl) <| wp_skip <| hKK2 _ _ <| wp_seq_k fun KK7 hKK7 => wp_seq_k fun KK8 hKK8 => rl_begin fun hgK hgo => tk 14 (.pointer none) ?_
    try simp only [pp]
    refine rl_call (some 15) 45 #[.pointer none] rfl (by kernel_rfl) (by kernel_rfl) (lenNil _) ?_
    rintro e w9 ⟨rfl, hL9⟩
    refine ⟨_, rfl, ?_⟩
    replace hB := hB.later hL9
    replace hb := hb.later hL9
    have hz9 := hL9.size
    try simp only [pp]
    refine tx 16 (.bool true) (by exact ex_beq (x := 0) (y := 0) (by kernel_rfl) ⟨fun _ => by omega, fun _ => rfl⟩) ?_
    try simp only [pp]
    refine rl_end hgo <| hKK8 _ _ <| wp_cond_true (by kernel_rfl) <| wp_seq_k fun KK10 hKK10 => rl_begin fun hgK hgo => tk 4 (.bool true) ?_
    try simp only [pp]
    refine rl_end hgo <| hKK10 _ _ ?_
    refine wp_ret ?_
    try simp only [Exit.then, Exit.inBlock]
    refine bp_ret (v := .bool true) (res1 rfl (res_tmp (by kernel_rfl))) ?_
    exact ⟨by (obtain rfl : l = [] := List.eq_nil_of_length_eq_zero (by omega)); rfl, hB⟩
theorem sameNil2 (w : World) : Calls Tryd.prog 38 #[.pointer none, .pointer none] w fun e w' => e = .returned (.bool true) ∧ Ltr w w' := by
  have hB := Ltr.refl w
  go_enter Tryd.func38, Tryd.ntmps38
  refine wp_seq_k fun KK1 hKK1 => rl_begin fun hgK hgo => tk 4 (.bool false) ?_
  try simp only [pp]
  refine rl_end hgo <| hKK1 _ _ <| wp_seq_k fun KK2 hKK2 => wp_seq_k fun KK3 hKK3 => rl_begin fun hgK hgo => tk 9 (.pointer none) ?_
  try simp only [pp]
  refine rl_call (some 10) 45 #[.pointer none] rfl (by kernel_rfl) (by kernel_rfl) (lenNil _) ?_
  rintro e w4 ⟨rfl, hL4⟩
  refine ⟨_, rfl, ?_⟩
  replace hB := hB.later hL4
  have hz4 := hL4.size
  try simp only [pp]
  refine tk 11 (.pointer none) ?_
  try simp only [pp]
  refine rl_call (some 12) 45 #[.pointer none] rfl (by kernel_rfl) (by kernel_rfl) (lenNil _) ?_
  rintro e w5 ⟨rfl, hL5⟩
  refine ⟨_, rfl, ?_⟩
  replace hB := hB.later hL5
  have hz5 := hL5.size
  try simp only [pp]
  refine tx 13 (.bool false) (by exact ex_bne (x := 0) (y := 0) (by kernel_rfl) ⟨fun q => (by cases q), fun q => absurd q (by omega)⟩) ?_
  try simp only [pp]
  refine rl_end hgo <| hKK3 _ _ <| wp_cond_false (by kernel_rfl) <| wp_skip <| hKK2 _ _ <| wp_seq_k fun KK6 hKK6 => wp_seq_k fun KK7 hKK7 => rl_begin fun hgK hgo => tk 14 (.pointer none) ?_
  try simp only [pp]
  refine rl_call (some 15) 45 #[.pointer none] rfl (by kernel_rfl) (by kernel_rfl) (lenNil _) ?_
  rintro e w8 ⟨rfl, hL8⟩
  refine ⟨_, rfl, ?_⟩
  replace hB := hB.later hL8
  have hz8 := hL8.size
  try simp only [pp]
  refine tx 16 (.bool true) (by exact ex_beq (x := 0) (y := 0) (by kernel_rfl) ⟨fun _ => by omega, fun _ => rfl⟩) ?_
  try simp only [pp]
  refine rl_end hgo <| hKK7 _ _ <| wp_cond_true (by kernel_rfl) <| wp_seq_k fun KK9 hKK9 => rl_begin fun hgK hgo => tk 4 (.bool true) ?_
  try simp only [pp]
  refine rl_end hgo <| hKK9 _ _ ?_
  refine wp_ret ?_
  try simp only [Exit.then, Exit.inBlock]
  refine bp_ret (v := .bool true) (res1 rfl (res_tmp (by kernel_rfl))) ?_
  exact ⟨rfl, hB⟩
theorem same_self (a b : Nat) (t : List UInt8) (w : World) (ha : RopeAt w a t) (hb : RopeAt w b t) (ht : t.length ≤ 4000000) :
    Calls Tryd.prog 38 #[.pointer (some ⟨a, 0, none⟩), .pointer (some ⟨b, 0, none⟩)] w fun e w' => e = .returned (.bool true) ∧ Ltr w w' := by
  have := Same_any a b t t w ha hb ⟨by omega, by omega⟩
  rwa [beq_self_eq_true] at this
theorem ex_nb {o : Oper} {ρ : Operand → Value} {w : World} {x : Bool} (h : (execOp ρ o).run Tryd.prog w = .ok (.value (.bool (x != x))) w) : (execOp ρ o).run Tryd.prog w = .ok (.value (.bool false)) w := by rw [h]; simp
theorem ex_wne {o : Oper} {ρ : Operand → Value} {x y : Operand} (t : List UInt8) (ho : o.op = .binOp .neq 36 x y 36) (hx : ρ x = wv t) (hy : ρ y = wv t) (w : World) : (execOp ρ o).run Tryd.prog w = .ok (.value (.bool false)) w := by
  unfold wv at hx hy
  unfold execOp
  simp only [ho, hx, hy]
  go_simp
theorem wjoin_cut (t : List UInt8) (m : Nat) (w : World) (hT : Tabs w) (ht : t.length ≤ 4000000) : Calls Tryd.prog 40 #[wv (t.take m), wv (t.drop m)] w fun e w' => e = .returned (.tuple #[wv t, .int .i64 0]) ∧ Ltr w w' := by
  have h := congrArg List.length (List.take_append_drop m t)
  rw [List.length_append] at h
  have := WJoin_any (t.take m) (t.drop m) (by omega) w hT
  rwa [List.take_append_drop] at this
theorem RopeSame_walk {n : Nat} (A : Option Addr) (c : Nat) (l : List ActD) (at' : Int) (w : World) (hT : Tabs w) (hA : ActsAt n w A l) (hc : l.length ≤ c) (hm : l.length ≤ 1100000) :
    Calls Tryd.prog 11 #[.slice A l.length c, .int .i64 at'] w fun e w' => e = .returned (.bool true) ∧ Ltr w w' := by
  have hB := Ltr.refl w
  go_enter Tryd.func11, Tryd.ntmps11
  have h4 := hT.four
  refine wp_seq_k fun KK1 hKK1 => rl_begin fun hgK hgo => tk 4 (.bool false) ?_
  try simp only [pp]
  refine rl_end hgo <| hKK1 _ _ <| wp_seq_k fun KK2 hKK2 => wp_seq_k fun KK3 hKK3 => rl_begin fun hgK hgo => ?_
  refine rl_call (some 18) 17 #[] rfl (by kernel_rfl) (by kernel_rfl) (wakes_any _ hT) ?_
  rintro e w4 ⟨rfl, hL4⟩
  refine ⟨_, rfl, ?_⟩
  replace hT := hT.later hL4
  replace hB := hB.later hL4
  replace hA := hA.later hL4
  have hz4 := hL4.size
  try simp only [pp]
  refine tk 19 (.bool false) ?_
  try simp only [pp]
  refine rl_end hgo <| hKK3 _ _ <| wp_cond_false (by kernel_rfl) <| wp_skip <| hKK2 _ _ <| wp_seq_k fun KK5 hKK5 => rl_begin fun hgK hgo => tk 21 (.slice A l.length c) ?_
  try simp only [pp]
  refine rl_call (some 22) 18 #[.slice A l.length c] rfl (by kernel_rfl) (by kernel_rfl) (play_r A c l _ hT hA hc hm) ?_
  rintro e w6 ⟨A1, A2, c1, c2, rs, N, rfl, hL6, hP, hN⟩
  refine ⟨_, rfl, ?_⟩
  replace hT := hT.later hL6
  replace hB := hB.later hL6
  replace hA := hA.later hL6
  have hz6 := hL6.size
  have hrl := hP.len
  clear hA
  try simp only [pp]
  refine tk 20 (.tuple #[.agg #[.slice A1 rs.length c1, .slice A2 rs.length c2], .bool true]) <| tk 23 (.agg #[.slice A1 rs.length c1, .slice A2 rs.length c2]) <| tk 24 (.bool true) ?_
  try simp only [pp]
  refine rl_alloc (some 5) 27 #[.slice none 0 0, .slice none 0 0] rfl (by kernel_rfl) (fun W => by kernel_rfl) fun bk w7 hL7 hp7 hbk => ?_
  replace hT := hT.later hL7
  replace hB := hB.later hL7
  replace hP := hP.later hL7
  have hz7 := hL7.size
  have hlt7 := hbk.lt
  try simp only [pp]
  refine rl_store bk #[.slice A1 rs.length c1, .slice A2 rs.length c2] rfl rfl (by kernel_rfl) rfl rfl (by kernel_rfl) hbk rfl (by kernel_rfl) fun w8 hU8 hn8 => ?_
  have hz8 := hU8.size
  replace hT := hT.upd hU8 (by omega)
  replace hB := hB.upd hU8 (by omega)
  replace hP := hP.upd hU8 (by omega)
  clear hbk
  have hbk := hn8
  clear hn8
  try simp only [pp]
  refine tk 6 (.bool true) ?_
  try simp only [pp]
  refine rl_end hgo <| hKK5 _ _ <| wp_seq_k fun KK9 hKK9 => wp_seq_k fun KK10 hKK10 => rl_begin fun hgK hgo => tk 25 (.bool true) <| tk 26 (.bool false) ?_
  try simp only [pp]
  refine rl_end hgo <| hKK10 _ _ <| wp_cond_false (by kernel_rfl) <| wp_skip <| hKK9 _ _ <| wp_seq_k fun KK11 hKK11 => wp_seq_k fun KK12 hKK12 => rl_begin fun hgK hgo => tk 27 (.pointer (some ⟨bk, 0, none⟩)) ?_
  try simp only [pp]
  refine tx 28 (.slice A1 rs.length c1) (by exact ld1 24 _ rfl bk 0 rfl (fun _ => by kernel_rfl) _ (hbk.cell 0)) <| tk 29 (.int .i64 rs.length) <| tk 30 (.int .i64 0) ?_
  try simp only [pp]
  refine rl_end hgo <| hKK12 _ _ <| wp_block ?_
  refine wp_loop_ghost (fun gn ga wl => ∃ (u : Nat → Value) (i : Nat), gn = rs.length - i ∧ ga = ⟨#[.slice A l.length c, .int .i64 at', undef, undef, u 4, .pointer (some ⟨bk, 0, none⟩), .bool true, u 7, u 8, u 9, u 10, u 11, u 12, u 13, u 14, u 15, u 16, u 17, .bool true, .bool false, .tuple #[.agg #[.slice A1 rs.length c1, .slice A2 rs.length c2], .bool true], .slice A l.length c, .tuple #[.agg #[.slice A1 rs.length c1, .slice A2 rs.length c2], .bool true], .agg #[.slice A1 rs.length c1, .slice A2 rs.length c2], .bool true, .bool true, .bool false, .pointer (some ⟨bk, 0, none⟩), .slice A1 rs.length c1, .int .i64 rs.length, .int .i64 i, u 31, u 32, u 33, u 34, u 35, u 36, u 37, u 38, u 39, u 40, u 41, u 42, u 43, u 44, u 45, u 46, u 47, u 48, u 49, u 50, u 51, u 52, u 53, u 54, u 55, u 56, u 57, u 58, u 59, u 60, u 61, u 62, u 63, u 64, u 65, u 66, u 67, u 68, u 69, u 70, u 71, u 72, u 73, u 74, u 75, u 76, u 77, u 78, u 79, u 80, u 81, u 82, u 83, u 84, u 85, u 86, u 87, u 88, u 89, u 90, u 91, u 92, u 93, u 94, u 95, u 96, u 97, u 98, u 99, u 100, u 101, u 102, u 103, u 104, u 105, u 106, u 107, u 108, u 109, u 110, u 111, u 112, u 113, u 114, u 115, u 116, u 117, u 118, u 119, u 120, u 121, u 122, u 123, u 124, u 125, u 126, u 127, u 128, u 129, u 130, u 131, u 132, u 133, u 134, u 135, u 136, u 137, u 138, u 139, u 140, u 141, u 142, u 143, u 144, u 145, u 146, u 147, u 148, u 149, u 150, u 151, u 152, u 153, u 154, u 155, u 156, u 157, u 158, u 159, u 160, u 161, u 162, u 163, u 164, u 165, u 166, u 167, undef], []⟩ ∧ (i ≤ rs.length) ∧ (Tabs wl) ∧ (Ltr w wl) ∧ (Ropes N A1 A2 rs wl) ∧ (Blk wl bk 27 #[.slice A1 rs.length c1, .slice A2 rs.length c2])) ((fun (i : Nat) => (rs.length - i : Nat)) 0) ?_ ?_
  · exact ⟨fun gj => (#[.slice A l.length c, .int .i64 at', undef, undef, .bool false, .pointer (some ⟨bk, 0, none⟩), .bool true, undef, undef, undef, undef, undef, undef, undef, undef, undef, undef, undef, .bool true, .bool false, .tuple #[.agg #[.slice A1 rs.length c1, .slice A2 rs.length c2], .bool true], .slice A l.length c, .tuple #[.agg #[.slice A1 rs.length c1, .slice A2 rs.length c2], .bool true], .agg #[.slice A1 rs.length c1, .slice A2 rs.length c2], .bool true, .bool true, .bool false, .pointer (some ⟨bk, 0, none⟩), .slice A1 rs.length c1, .int .i64 rs.length, .int .i64 0, undef, undef, undef, undef, undef, undef, undef, undef, undef, undef, undef, undef, undef, undef, undef, undef, undef, undef, undef, undef, undef, undef, undef, undef, undef, undef, undef, undef, undef, undef, undef, undef, undef, undef, undef, undef, undef, undef, undef, undef, undef, undef, undef, undef, undef, undef, undef, undef, undef, undef, undef, undef, undef, undef, undef, undef, undef, undef, undef, undef, undef, undef, undef, undef, undef, undef, undef, undef, undef, undef, undef, undef, undef, undef, undef, undef, undef, undef, undef, undef, undef, undef, undef, undef, undef, undef, undef, undef, undef, undef, undef, undef, undef, undef, undef, undef, undef, undef, undef, undef, undef, undef, undef, undef, undef, undef, undef, undef, undef, undef, undef, undef, undef, undef, undef, undef, undef, undef, undef, undef, undef, undef, undef, undef, undef, undef, undef, undef, undef, undef, undef, undef, undef, undef, undef, undef, undef, undef]).getD gj undef, 0, rfl, rfl, Nat.zero_le _, by assumption, by assumption, by assumption, by assumption⟩
  rintro n13 a13 w13 ⟨u, i, rfl, rfl, hil', hT', hB', hP', hbk'⟩
  clear hbk hP hB hT
  have hil := hil'
  clear hil'
  have hT := hT'
  clear hT'
  have hB := hB'
  clear hB'
  have hP := hP'
  clear hP'
  have hbk := hbk'
  clear hbk'
  have hlt_hbk_13 := hbk.lt
  refine wp_seq_k fun KK14 hKK14 => rl_begin fun hgK hgo => ?_
  by_cases h1 : (i : Int) < rs.length
  · refine tx 31 (.bool true) (by exact ex_bool (c := (i : Int) < rs.length) (by kernel_rfl) ⟨fun _ => by omega, fun _ => rfl⟩) ?_
    try simp only [pp]
    refine rl_end hgo <| hKK14 _ _ <| wp_seq_k fun KK15 hKK15 => wp_cond_true (by kernel_rfl) <| wp_skip <| hKK15 _ _ <| wp_seq_k fun KK16 hKK16 => wp_block <| wp_seq_k fun KK17 hKK17 => rl_begin fun hgK hgo => tk 32 (.int .i64 i) <| tk 7 (.int .i64 i) ?_
    try simp only [pp]
    refine rl_end hgo <| hKK17 _ _ <| wp_seq_k fun KK18 hKK18 => wp_seq_k fun KK19 hKK19 => rl_begin fun hgK hgo => ?_
    (obtain ⟨b, t, hbt⟩ := rope_i i (by omega : i < rs.length)); (have htl := hP.lt hbt); (obtain ⟨gb, go', he1, hgn, -⟩ := hP.p i (by omega)); (obtain ⟨gs, gt, he2, hgn2, -⟩ := hP.s i (by omega))
    refine tk 8 (.int .i64 0) ?_
    try simp only [pp]
    refine rl_end hgo <| hKK19 _ _ <| wp_block ?_
    refine wp_loop_ghost (fun gn ga wl => ∃ (u : Nat → Value) (j : Nat), gn = i + 1 - j ∧ ga = ⟨#[.slice A l.length c, .int .i64 at', undef, undef, u 4, .pointer (some ⟨bk, 0, none⟩), .bool true, .int .i64 i, .int .i64 j, u 9, u 10, u 11, u 12, u 13, u 14, u 15, u 16, u 17, .bool true, .bool false, .tuple #[.agg #[.slice A1 rs.length c1, .slice A2 rs.length c2], .bool true], .slice A l.length c, .tuple #[.agg #[.slice A1 rs.length c1, .slice A2 rs.length c2], .bool true], .agg #[.slice A1 rs.length c1, .slice A2 rs.length c2], .bool true, .bool true, .bool false, .pointer (some ⟨bk, 0, none⟩), .slice A1 rs.length c1, .int .i64 rs.length, .int .i64 i, .bool true, .int .i64 i, u 33, u 34, u 35, u 36, u 37, u 38, u 39, u 40, u 41, u 42, u 43, u 44, u 45, u 46, u 47, u 48, u 49, u 50, u 51, u 52, u 53, u 54, u 55, u 56, u 57, u 58, u 59, u 60, u 61, u 62, u 63, u 64, u 65, u 66, u 67, u 68, u 69, u 70, u 71, u 72, u 73, u 74, u 75, u 76, u 77, u 78, u 79, u 80, u 81, u 82, u 83, u 84, u 85, u 86, u 87, u 88, u 89, u 90, u 91, u 92, u 93, u 94, u 95, u 96, u 97, u 98, u 99, u 100, u 101, u 102, u 103, u 104, u 105, u 106, u 107, u 108, u 109, u 110, u 111, u 112, u 113, u 114, u 115, u 116, u 117, u 118, u 119, u 120, u 121, u 122, u 123, u 124, u 125, u 126, u 127, u 128, u 129, u 130, u 131, u 132, u 133, u 134, u 135, u 136, u 137, u 138, u 139, u 140, u 141, u 142, u 143, u 144, u 145, u 146, u 147, u 148, u 149, u 150, u 151, u 152, u 153, u 154, u 155, u 156, u 157, u 158, u 159, u 160, u 161, u 162, u 163, u 164, u 165, u 166, u 167, undef], []⟩ ∧ (j ≤ i + 1) ∧ (Tabs wl) ∧ (Ltr w wl) ∧ (Ropes N A1 A2 rs wl) ∧ (Blk wl bk 27 #[.slice A1 rs.length c1, .slice A2 rs.length c2])) ((fun (j : Nat) => (i + 1 - j : Nat)) 0) ?_ ?_
    · exact ⟨fun gj => (#[.slice A l.length c, .int .i64 at', undef, undef, u 4, .pointer (some ⟨bk, 0, none⟩), .bool true, .int .i64 i, .int .i64 0, u 9, u 10, u 11, u 12, u 13, u 14, u 15, u 16, u 17, .bool true, .bool false, .tuple #[.agg #[.slice A1 rs.length c1, .slice A2 rs.length c2], .bool true], .slice A l.length c, .tuple #[.agg #[.slice A1 rs.length c1, .slice A2 rs.length c2], .bool true], .agg #[.slice A1 rs.length c1, .slice A2 rs.length c2], .bool true, .bool true, .bool false, .pointer (some ⟨bk, 0, none⟩), .slice A1 rs.length c1, .int .i64 rs.length, .int .i64 i, .bool true, .int .i64 i, u 33, u 34, u 35, u 36, u 37, u 38, u 39, u 40, u 41, u 42, u 43, u 44, u 45, u 46, u 47, u 48, u 49, u 50, u 51, u 52, u 53, u 54, u 55, u 56, u 57, u 58, u 59, u 60, u 61, u 62, u 63, u 64, u 65, u 66, u 67, u 68, u 69, u 70, u 71, u 72, u 73, u 74, u 75, u 76, u 77, u 78, u 79, u 80, u 81, u 82, u 83, u 84, u 85, u 86, u 87, u 88, u 89, u 90, u 91, u 92, u 93, u 94, u 95, u 96, u 97, u 98, u 99, u 100, u 101, u 102, u 103, u 104, u 105, u 106, u 107, u 108, u 109, u 110, u 111, u 112, u 113, u 114, u 115, u 116, u 117, u 118, u 119, u 120, u 121, u 122, u 123, u 124, u 125, u 126, u 127, u 128, u 129, u 130, u 131, u 132, u 133, u 134, u 135, u 136, u 137, u 138, u 139, u 140, u 141, u 142, u 143, u 144, u 145, u 146, u 147, u 148, u 149, u 150, u 151, u 152, u 153, u 154, u 155, u 156, u 157, u 158, u 159, u 160, u 161, u 162, u 163, u 164, u 165, u 166, u 167, undef]).getD gj undef, 0, rfl, rfl, Nat.zero_le _, by assumption, by assumption, by assumption, by assumption⟩
    rintro n20 a20 w20 ⟨u, j, rfl, rfl, hjl', hT', hB', hP', hbk'⟩
    clear hbk hP hB hT
    have hjl := hjl'
    clear hjl'
    have hT := hT'
    clear hT'
    have hB := hB'
    clear hB'
    have hP := hP'
    clear hP'
    have hbk := hbk'
    clear hbk'
    have hlt_hbk_20 := hbk.lt
    refine wp_seq_k fun KK21 hKK21 => wp_seq_k fun KK22 hKK22 => rl_begin fun hgK hgo => tk 33 (.int .i64 j) <| tk 34 (.int .i64 i) ?_
    try simp only [pp]
    by_cases h2 : (j : Int) ≤ i
    · refine tx 35 (.bool true) (by exact ex_bool (c := (j : Int) ≤ i) (by kernel_rfl) ⟨fun _ => by omega, fun _ => rfl⟩) ?_
      try simp only [pp]
      refine rl_end hgo <| hKK22 _ _ <| wp_cond_true (by kernel_rfl) <| wp_skip <| hKK21 _ _ <| wp_seq_k fun KK23 hKK23 => wp_block <| wp_seq_k fun KK24 hKK24 => ?_
      (obtain ⟨b2, t2, hbt2⟩ := rope_i j (by omega : j < rs.length)); (have htl2 := hP.lt hbt2)
      refine rm_begin (fun W => Ltr w20 W) (by kernel_rfl) (by exact bl_drew (bl_refl _)) fun K25 hgo w25 hE hS25 => ?_
      have hv25 : Ltr w20 w25 := by rw [hE]; exact bl_drew (bl_refl _)
      have hz25 := hv25.size
      clear hE hS25
      refine mk 0 38 (.pointer (some ⟨bk, 0, none⟩)) ?_
      try simp only [pp]
      refine mx 1 39 (.slice A1 rs.length c1) rfl (fun W hW => by (exact ld1 24 _ rfl bk 0 rfl (fun _ => by kernel_rfl) _ ((hbk.later hW).cell 0))) <| mk 2 40 (.int .i64 i) ?_
      try simp only [pp]
      refine mx 3 41 (.pointer (some ⟨gb, go' + i, none⟩)) rfl (fun W hW => by (exact ex_indexA i rfl rfl he1 rfl (by kernel_rfl) (fun _ => by kernel_rfl) (by omega) _)) ?_
      try simp only [pp]
      refine mx 4 42 (.pointer (some ⟨b, 0, none⟩)) rfl (fun W hW => by (exact ld1 31 _ rfl gb (go' + i) rfl (fun _ => by kernel_rfl) _ ((hP.later hW).pc he1 (ptrs_at hbt)))) <| mk 5 43 (.pointer (some ⟨bk, 0, none⟩)) ?_
      try simp only [pp]
      refine mx 6 44 (.slice A1 rs.length c1) rfl (fun W hW => by (exact ld1 24 _ rfl bk 0 rfl (fun _ => by kernel_rfl) _ ((hbk.later hW).cell 0))) <| mk 7 45 (.int .i64 j) ?_
      try simp only [pp]
      refine mx 8 46 (.pointer (some ⟨gb, go' + j, none⟩)) rfl (fun W hW => by (exact ex_indexA j rfl rfl he1 rfl (by kernel_rfl) (fun _ => by kernel_rfl) (by omega) _)) ?_
      try simp only [pp]
      refine mx 9 47 (.pointer (some ⟨b2, 0, none⟩)) rfl (fun W hW => by (exact ld1 31 _ rfl gb (go' + j) rfl (fun _ => by kernel_rfl) _ ((hP.later hW).pc he1 (ptrs_at hbt2)))) ?_
      try simp only [pp]
      refine rm_call 10 (some 48) (.bool (t == t2)) 38 #[.pointer (some ⟨b, 0, none⟩), .pointer (some ⟨b2, 0, none⟩)] (oi := { dst := some 48, op := Go.Op.call { callee := Go.Callee.value (Go.Operand.func 38), args := #[Go.Operand.tmp 42, Go.Operand.tmp 47], argTypes := #[31, 31] }, type := 4, pos := "law.go:405", after := #[{ on := 4, ground := Go.Ground.data }, { on := 9, ground := Go.Ground.data }], guard := none }) rfl rfl (by kernel_rfl) (by kernel_rfl) (by kernel_rfl) (by kernel_rfl) (fun W hW => by kernel_rfl) (fun W hW => Same_any b b2 t t2 W ((hP.at hbt).later hW) ((hP.at hbt2).later hW) ⟨by omega, by omega⟩) (fun _ _ h k => Ltr.trans h k) ?_
      try simp only [pp]
      refine mk 11 49 (.pointer (some ⟨bk, 1, none⟩)) ?_
      try simp only [pp]
      refine mx 12 50 (.slice A2 rs.length c2) rfl (fun W hW => by (exact ld1 25 _ rfl bk 1 rfl (fun _ => by kernel_rfl) _ ((hbk.later hW).cell 1))) <| mk 13 51 (.int .i64 i) ?_
      try simp only [pp]
      refine mx 14 52 (.pointer (some ⟨gs, gt + i, none⟩)) rfl (fun W hW => by (exact ex_indexA i rfl rfl he2 rfl (by kernel_rfl) (fun _ => by kernel_rfl) (by omega) _)) ?_
      try simp only [pp]
      refine mx 15 53 (.string (bs t)) rfl (fun W hW => by (exact ld1 9 _ rfl gs (gt + i) rfl (fun _ => by kernel_rfl) _ ((hP.later hW).sc he2 (strs_at hbt)))) <| mk 16 54 (.pointer (some ⟨bk, 1, none⟩)) ?_
      try simp only [pp]
      refine mx 17 55 (.slice A2 rs.length c2) rfl (fun W hW => by (exact ld1 25 _ rfl bk 1 rfl (fun _ => by kernel_rfl) _ ((hbk.later hW).cell 1))) <| mk 18 56 (.int .i64 j) ?_
      try simp only [pp]
      refine mx 19 57 (.pointer (some ⟨gs, gt + j, none⟩)) rfl (fun W hW => by (exact ex_indexA j rfl rfl he2 rfl (by kernel_rfl) (fun _ => by kernel_rfl) (by omega) _)) ?_
      try simp only [pp]
      refine mx 20 58 (.string (bs t2)) rfl (fun W hW => by (exact ld1 9 _ rfl gs (gt + j) rfl (fun _ => by kernel_rfl) _ ((hP.later hW).sc he2 (strs_at hbt2)))) ?_
      try simp only [pp]
      refine mx 21 59 (.bool (t == t2)) rfl (fun W hW => by (exact ex_eq_bs (by kernel_rfl))) ?_
      try simp only [pp]
      refine mx 22 60 (.bool false) rfl (fun W hW => by (exact ex_nb (x := t == t2) (by kernel_rfl))) ?_
      try simp only [pp]
      refine rm_done (by kernel_rfl) (fun w26 hL26 hS26 => hgo.out _ _ ?_) _
      clear hgo K25
      replace hT := hT.later (show Ltr w20 _ from hS26)
      replace hB := hB.later (show Ltr w20 _ from hS26)
      replace hP := hP.later (show Ltr w20 _ from hS26)
      replace hbk := hbk.later (show Ltr w20 _ from hS26)
      have hz26 := (show Ltr w20 _ from hS26).size
      have hy26 := hL26.size
      refine hKK24 _ _ <| wp_cond_false (by kernel_rfl) <| wp_skip <| hKK23 _ _ <| rl_begin fun hgK hgo => tk 36 (.int .i64 j) ?_
      try simp only [pp]
      refine tx 37 (.int .i64 (((j + 1 : Nat) : Int))) (by exact ex_arith (e := (j : Int) + 1) (r := ((j + 1 : Nat) : Int)) (by kernel_rfl) (by omega) (by omega)) <| tk 8 (.int .i64 (((j + 1 : Nat) : Int))) ?_
      try simp only [pp]
      refine rl_end hgo ?_
      exact ⟨_, (by omega), fun gj => (#[.slice A l.length c, .int .i64 at', undef, undef, u 4, .pointer (some ⟨bk, 0, none⟩), .bool true, .int .i64 i, .int .i64 (((j + 1 : Nat) : Int)), u 9, u 10, u 11, u 12, u 13, u 14, u 15, u 16, u 17, .bool true, .bool false, .tuple #[.agg #[.slice A1 rs.length c1, .slice A2 rs.length c2], .bool true], .slice A l.length c, .tuple #[.agg #[.slice A1 rs.length c1, .slice A2 rs.length c2], .bool true], .agg #[.slice A1 rs.length c1, .slice A2 rs.length c2], .bool true, .bool true, .bool false, .pointer (some ⟨bk, 0, none⟩), .slice A1 rs.length c1, .int .i64 rs.length, .int .i64 i, .bool true, .int .i64 i, .int .i64 j, .int .i64 i, .bool true, .int .i64 j, .int .i64 (((j + 1 : Nat) : Int)), .pointer (some ⟨bk, 0, none⟩), .slice A1 rs.length c1, .int .i64 i, .pointer (some ⟨gb, go' + i, none⟩), .pointer (some ⟨b, 0, none⟩), .pointer (some ⟨bk, 0, none⟩), .slice A1 rs.length c1, .int .i64 j, .pointer (some ⟨gb, go' + j, none⟩), .pointer (some ⟨b2, 0, none⟩), .bool (t == t2), .pointer (some ⟨bk, 1, none⟩), .slice A2 rs.length c2, .int .i64 i, .pointer (some ⟨gs, gt + i, none⟩), .string (bs t), .pointer (some ⟨bk, 1, none⟩), .slice A2 rs.length c2, .int .i64 j, .pointer (some ⟨gs, gt + j, none⟩), .string (bs t2), .bool (t == t2), .bool false, u 61, u 62, u 63, u 64, u 65, u 66, u 67, u 68, u 69, u 70, u 71, u 72, u 73, u 74, u 75, u 76, u 77, u 78, u 79, u 80, u 81, u 82, u 83, u 84, u 85, u 86, u 87, u 88, u 89, u 90, u 91, u 92, u 93, u 94, u 95, u 96, u 97, u 98, u 99, u 100, u 101, u 102, u 103, u 104, u 105, u 106, u 107, u 108, u 109, u 110, u 111, u 112, u 113, u 114, u 115, u 116, u 117, u 118, u 119, u 120, u 121, u 122, u 123, u 124, u 125, u 126, u 127, u 128, u 129, u 130, u 131, u 132, u 133, u 134, u 135, u 136, u 137, u 138, u 139, u 140, u 141, u 142, u 143, u 144, u 145, u 146, u 147, u 148, u 149, u 150, u 151, u 152, u 153, u 154, u 155, u 156, u 157, u 158, u 159, u 160, u 161, u 162, u 163, u 164, u 165, u 166, u 167, undef]).getD gj undef, j + 1, rfl, (by kernel_rfl), by omega, by assumption, by assumption, by assumption, by assumption⟩
    · refine tx 35 (.bool false) (by exact ex_bool (c := (j : Int) ≤ i) (by kernel_rfl) ⟨fun q => (by cases q), fun q => absurd q (by omega)⟩) ?_
      try simp only [pp]
      refine rl_end hgo <| hKK22 _ _ <| wp_cond_false (by kernel_rfl) <| wp_exit <| hKK18 _ _ <| wp_seq_k fun KK27 hKK27 => rl_begin fun hgK hgo => tk 62 (.pointer (some ⟨bk, 1, none⟩)) ?_
      try simp only [pp]
      refine tx 63 (.slice A2 rs.length c2) (by exact ld1 25 _ rfl bk 1 rfl (fun _ => by kernel_rfl) _ (hbk.cell 1)) <| tk 64 (.int .i64 i) ?_
      try simp only [pp]
      refine tx 65 (.pointer (some ⟨gs, gt + i, none⟩)) (by exact ex_indexA i rfl rfl he2 rfl (by kernel_rfl) (fun _ => by kernel_rfl) (by omega) _) ?_
      try simp only [pp]
      refine tx 66 (.string (bs t)) (by exact ld1 9 _ rfl gs (gt + i) rfl (fun _ => by kernel_rfl) _ (hP.sc he2 (strs_at hbt))) ?_
      try simp only [pp]
      refine rl_new (some 67) rfl (by kernel_rfl) (ex_conv_own _ rfl t rfl _) ?_
      rintro v28 w28 ⟨A5, c5, rfl, hL28, hS5⟩
      replace hT := hT.later hL28
      replace hB := hB.later hL28
      replace hP := hP.later hL28
      replace hbk := hbk.later hL28
      have hz28 := hL28.size
      try simp only [pp]
      refine rl_call (some 68) 36 #[.slice A5 t.length c5] rfl (by kernel_rfl) (by kernel_rfl) (New_any A5 c5 t _ hT hS5.bytes hS5.2.1 (by omega)) ?_
      rintro e w29 ⟨r1, rfl, hL29, hr1, -⟩
      refine ⟨_, rfl, ?_⟩
      replace hT := hT.later hL29
      replace hB := hB.later hL29
      replace hP := hP.later hL29
      replace hbk := hbk.later hL29
      replace hS5 := hS5.later hL29
      have hz29 := hL29.size
      clear hS5
      try simp only [pp]
      refine tk 61 (.tuple #[.pointer (some ⟨r1, 0, none⟩), .int .i64 0]) <| tk 69 (.pointer (some ⟨r1, 0, none⟩)) <| tk 70 (.int .i64 0) <| tk 9 (.pointer (some ⟨r1, 0, none⟩)) <| tk 10 (.int .i64 0) ?_
      try simp only [pp]
      refine rl_end hgo <| hKK27 _ _ <| wp_seq_k fun KK30 hKK30 => wp_seq_k fun KK31 hKK31 => ?_
      refine rm_begin (fun W => Ltr w29 W) (by kernel_rfl) (by exact bl_drew (bl_refl _)) fun K32 hgo w32 hE hS32 => ?_
      have hv32 : Ltr w29 w32 := by rw [hE]; exact bl_drew (bl_refl _)
      have hz32 := hv32.size
      clear hE hS32
      refine mk 0 71 (.int .i64 0) ?_
      try simp only [pp]
      refine mx 1 72 (.bool false) rfl (fun W hW => by (exact ex_bne (x := 0) (y := 0) (by kernel_rfl) ⟨fun q => (by cases q), fun q => absurd q (by omega)⟩)) <| mk 2 73 (.bool false) <| mk 3 74 (.pointer (some ⟨r1, 0, none⟩)) <| mk 4 75 (.pointer (some ⟨bk, 0, none⟩)) ?_
      try simp only [pp]
      refine mx 5 76 (.slice A1 rs.length c1) rfl (fun W hW => by (exact ld1 24 _ rfl bk 0 rfl (fun _ => by kernel_rfl) _ ((hbk.later hW).cell 0))) <| mk 6 77 (.int .i64 i) ?_
      try simp only [pp]
      refine mx 7 78 (.pointer (some ⟨gb, go' + i, none⟩)) rfl (fun W hW => by (exact ex_indexA i rfl rfl he1 rfl (by kernel_rfl) (fun _ => by kernel_rfl) (by omega) _)) ?_
      try simp only [pp]
      refine mx 8 79 (.pointer (some ⟨b, 0, none⟩)) rfl (fun W hW => by (exact ld1 31 _ rfl gb (go' + i) rfl (fun _ => by kernel_rfl) _ ((hP.later hW).pc he1 (ptrs_at hbt)))) ?_
      try simp only [pp]
      refine rm_call 9 (some 80) (.bool true) 38 #[.pointer (some ⟨r1, 0, none⟩), .pointer (some ⟨b, 0, none⟩)] (oi := { dst := some 80, op := Go.Op.call { callee := Go.Callee.value (Go.Operand.func 38), args := #[Go.Operand.tmp 74, Go.Operand.tmp 79], argTypes := #[31, 31] }, type := 4, pos := "law.go:410", after := #[{ on := 3, ground := Go.Ground.data }, { on := 8, ground := Go.Ground.data }, { on := 2, ground := Go.Ground.chain }, { on := 2, ground := Go.Ground.guard }], guard := some (2, false) }) rfl rfl (by kernel_rfl) (by kernel_rfl) (by kernel_rfl) (by kernel_rfl) (fun W hW => by kernel_rfl) (fun W hW => same_self r1 b t W (hr1.later hW) ((hP.at hbt).later hW) htl) (fun _ _ h k => Ltr.trans h k) ?_
      try simp only [pp]
      refine mk 10 81 (.bool false) <| mk 11 82 (.bool false) <| mk 12 83 (.bool false) <| mk 13 84 (.pointer (some ⟨bk, 0, none⟩)) ?_
      try simp only [pp]
      refine mx 14 85 (.slice A1 rs.length c1) rfl (fun W hW => by (exact ld1 24 _ rfl bk 0 rfl (fun _ => by kernel_rfl) _ ((hbk.later hW).cell 0))) <| mk 15 86 (.int .i64 i) ?_
      try simp only [pp]
      refine mx 16 87 (.pointer (some ⟨gb, go' + i, none⟩)) rfl (fun W hW => by (exact ex_indexA i rfl rfl he1 rfl (by kernel_rfl) (fun _ => by kernel_rfl) (by omega) _)) ?_
      try simp only [pp]
      refine mx 17 88 (.pointer (some ⟨b, 0, none⟩)) rfl (fun W hW => by (exact ld1 31 _ rfl gb (go' + i) rfl (fun _ => by kernel_rfl) _ ((hP.later hW).pc he1 (ptrs_at hbt)))) ?_
      try simp only [pp]
      refine rm_call 18 (some 89) (.bool (t == [])) 38 #[.pointer none, .pointer (some ⟨b, 0, none⟩)] (oi := { dst := some 89, op := Go.Op.call { callee := Go.Callee.value (Go.Operand.func 38), args := #[Go.Operand.const (Go.Value.pointer none), Go.Operand.tmp 88], argTypes := #[31, 31] }, type := 4, pos := "law.go:410", after := #[{ on := 17, ground := Go.Ground.data }, { on := 12, ground := Go.Ground.chain }, { on := 12, ground := Go.Ground.guard }], guard := some (12, false) }) rfl rfl (by kernel_rfl) (by kernel_rfl) (by kernel_rfl) (by kernel_rfl) (fun W hW => by kernel_rfl) (fun W hW => sameNil1 b t W ((hP.at hbt).later hW)) (fun _ _ h k => Ltr.trans h k) ?_
      try simp only [pp]
      refine mk 19 90 (.pointer (some ⟨bk, 1, none⟩)) ?_
      try simp only [pp]
      refine mx 20 91 (.slice A2 rs.length c2) rfl (fun W hW => by (exact ld1 25 _ rfl bk 1 rfl (fun _ => by kernel_rfl) _ ((hbk.later hW).cell 1))) <| mk 21 92 (.int .i64 i) ?_
      try simp only [pp]
      refine mx 22 93 (.pointer (some ⟨gs, gt + i, none⟩)) rfl (fun W hW => by (exact ex_indexA i rfl rfl he2 rfl (by kernel_rfl) (fun _ => by kernel_rfl) (by omega) _)) ?_
      try simp only [pp]
      refine mx 23 94 (.string (bs t)) rfl (fun W hW => by (exact ld1 9 _ rfl gs (gt + i) rfl (fun _ => by kernel_rfl) _ ((hP.later hW).sc he2 (strs_at hbt)))) ?_
      try simp only [pp]
      refine mx 24 95 (.bool (t == [])) rfl (fun W hW => by (exact ex_eq_bs (b := []) (by kernel_rfl))) ?_
      try simp only [pp]
      refine mx 25 96 (.bool false) rfl (fun W hW => by (exact ex_nb (x := t == []) (by kernel_rfl))) <| mk 26 97 (.bool false) ?_
      try simp only [pp]
      refine rm_done (by kernel_rfl) (fun w33 hL33 hS33 => hgo.out _ _ ?_) _
      clear hgo K32
      replace hT := hT.later (show Ltr w29 _ from hS33)
      replace hB := hB.later (show Ltr w29 _ from hS33)
      replace hP := hP.later (show Ltr w29 _ from hS33)
      replace hbk := hbk.later (show Ltr w29 _ from hS33)
      replace hr1 := hr1.later (show Ltr w29 _ from hS33)
      have hz33 := (show Ltr w29 _ from hS33).size
      have hy33 := hL33.size
      refine hKK31 _ _ <| wp_cond_false (by kernel_rfl) <| wp_skip <| hKK30 _ _ <| wp_seq_k fun KK34 hKK34 => ?_
      (have hwl := whichV_lt at' (t.length + 1) (by omega)); (obtain ⟨m, hm'⟩ : ∃ m, m = whichV at' (t.length + 1) := ⟨_, rfl⟩); rw [← hm'] at hwl; (have l1 : (t.take m).length = m := by rw [List.length_take]; omega); (have l2 : (t.drop m).length = t.length - m := by rw [List.length_drop])
      refine rm_begin (fun W => Ltr w33 W) (by kernel_rfl) (by exact bl_drew (bl_refl _)) fun K35 hgo w35 hE hS35 => ?_
      have hv35 : Ltr w33 w35 := by rw [hE]; exact bl_drew (bl_refl _)
      have hz35 := hv35.size
      clear hE hS35
      refine mk 0 99 (.pointer (some ⟨bk, 0, none⟩)) ?_
      try simp only [pp]
      refine mx 1 100 (.slice A1 rs.length c1) rfl (fun W hW => by (exact ld1 24 _ rfl bk 0 rfl (fun _ => by kernel_rfl) _ ((hbk.later hW).cell 0))) <| mk 2 101 (.int .i64 i) ?_
      try simp only [pp]
      refine mx 3 102 (.pointer (some ⟨gb, go' + i, none⟩)) rfl (fun W hW => by (exact ex_indexA i rfl rfl he1 rfl (by kernel_rfl) (fun _ => by kernel_rfl) (by omega) _)) ?_
      try simp only [pp]
      refine mx 4 103 (.pointer (some ⟨b, 0, none⟩)) rfl (fun W hW => by (exact ld1 31 _ rfl gb (go' + i) rfl (fun _ => by kernel_rfl) _ ((hP.later hW).pc he1 (ptrs_at hbt)))) <| mk 5 104 (.int .i64 at') <| mk 6 105 (.pointer (some ⟨bk, 1, none⟩)) ?_
      try simp only [pp]
      refine mx 7 106 (.slice A2 rs.length c2) rfl (fun W hW => by (exact ld1 25 _ rfl bk 1 rfl (fun _ => by kernel_rfl) _ ((hbk.later hW).cell 1))) <| mk 8 107 (.int .i64 i) ?_
      try simp only [pp]
      refine mx 9 108 (.pointer (some ⟨gs, gt + i, none⟩)) rfl (fun W hW => by (exact ex_indexA i rfl rfl he2 rfl (by kernel_rfl) (fun _ => by kernel_rfl) (by omega) _)) ?_
      try simp only [pp]
      refine mx 10 109 (.string (bs t)) rfl (fun W hW => by (exact ld1 9 _ rfl gs (gt + i) rfl (fun _ => by kernel_rfl) _ ((hP.later hW).sc he2 (strs_at hbt)))) ?_
      try simp only [pp]
      refine mx 11 110 (.int .i64 t.length) rfl (fun W hW => by (exact ex_len_bs (by kernel_rfl))) ?_
      try simp only [pp]
      refine mx 12 111 (.int .i64 (((t.length + 1 : Nat) : Int))) rfl (fun W hW => by (exact ex_arith (e := (t.length : Int) + 1) (r := ((t.length + 1 : Nat) : Int)) (by kernel_rfl) (by omega) (by omega))) ?_
      try simp only [pp]
      refine rm_call 13 (some 112) (.int .i64 m) 25 #[.int .i64 at', .int .i64 (((t.length + 1 : Nat) : Int))] (oi := { dst := some 112, op := Go.Op.call { callee := Go.Callee.value (Go.Operand.func 25), args := #[Go.Operand.tmp 104, Go.Operand.tmp 111], argTypes := #[3, 3] }, type := 3, pos := "law.go:413", after := #[{ on := 5, ground := Go.Ground.data }, { on := 12, ground := Go.Ground.data }], guard := none }) rfl rfl (by kernel_rfl) (by kernel_rfl) (by kernel_rfl) (by kernel_rfl) (fun W hW => by kernel_rfl) (fun W hW => (hm' ▸ which_any at' (t.length + 1) (by omega) (by omega) W)) (fun _ _ h k => Ltr.trans h k) ?_
      try simp only [pp]
      refine rm_pick1 (i := 14) (by kernel_rfl) ?_
      refine rm_callx (some 113) 39 #[.pointer (some ⟨b, 0, none⟩), .int .i64 m] (oi := { dst := some 113, op := Go.Op.call { callee := Go.Callee.value (Go.Operand.func 39), args := #[Go.Operand.tmp 103, Go.Operand.tmp 112], argTypes := #[31, 3] }, type := 77, pos := "law.go:413", after := #[{ on := 4, ground := Go.Ground.data }, { on := 13, ground := Go.Ground.data }, { on := 13, ground := Go.Ground.chain }], guard := none }) rfl rfl (by kernel_rfl) (fun W hW => by kernel_rfl) (fun W hlz hW => RSplit_any b t m W (hT.later (show Ltr w33 W from hW)) ((hP.at hbt).later (show Ltr w33 W from hW)) (by omega) (by omega)) (by rintro W e w' ⟨r2, r3, rfl, hL36, hr2, hr3, -, -⟩; exact hL36) (fun _ _ h k => Ltr.trans h k) ?_
      rintro q36 e w36 hq36 hQ36 ⟨r2, r3, rfl, hL36, hr2, hr3, -, -⟩ hS36
      refine ⟨_, rfl, ?_⟩
      have hz36 := hL36.size
      have hy36 := hq36.size
      try simp only [pp]
      refine mk 15 98 (.tuple #[.pointer (some ⟨r2, 0, none⟩), .pointer (some ⟨r3, 0, none⟩), .int .i64 0]) <| mk 16 114 (.pointer (some ⟨r2, 0, none⟩)) <| mk 17 115 (.pointer (some ⟨r3, 0, none⟩)) <| mk 18 116 (.int .i64 0) <| mk 19 11 (.pointer (some ⟨r2, 0, none⟩)) <| mk 20 12 (.pointer (some ⟨r3, 0, none⟩)) <| mk 21 13 (.int .i64 0) ?_
      try simp only [pp]
      refine rm_done (by kernel_rfl) (fun w37 hL37 hS37 => hgo.out _ _ ?_) _
      clear hgo K35
      replace hr2 := hr2.later hL37
      replace hr3 := hr3.later hL37
      replace hT := hT.later (show Ltr w33 _ from hS37)
      replace hB := hB.later (show Ltr w33 _ from hS37)
      replace hP := hP.later (show Ltr w33 _ from hS37)
      replace hbk := hbk.later (show Ltr w33 _ from hS37)
      replace hr1 := hr1.later (show Ltr w33 _ from hS37)
      have hz37 := (show Ltr w33 _ from hS37).size
      have hy37 := hL37.size
      refine hKK34 _ _ <| wp_seq_k fun KK38 hKK38 => wp_seq_k fun KK39 hKK39 => rl_begin fun hgK hgo => ?_
      (obtain ⟨N2, v2, t2', hN2, hr2⟩ := hr2.nn); (obtain ⟨N3, v3, t3, hN3, hr3⟩ := hr3.nn); (obtain ⟨N1, v1, t1, hN1, hr1⟩ := hr1.nn)
      refine tk 117 (.int .i64 0) ?_
      try simp only [pp]
      refine tx 118 (.bool false) (by exact ex_bne (x := 0) (y := 0) (by kernel_rfl) ⟨fun q => (by cases q), fun q => absurd q (by omega)⟩) <| tk 119 (.bool false) <| tk 120 (.pointer (some ⟨r2, 0, none⟩)) <| tk 121 (.bool false) <| tk 122 (.bool false) <| tk 123 (.bool false) <| tk 124 (.pointer (some ⟨r3, 0, none⟩)) <| tk 125 (.bool false) <| tk 126 (.bool false) ?_
      try simp only [pp]
      refine rl_end hgo <| hKK39 _ _ <| wp_cond_false (by kernel_rfl) <| wp_skip <| hKK38 _ _ <| wp_seq_k fun KK40 hKK40 => rl_begin fun hgK hgo => tk 128 (.pointer (some ⟨r2, 0, none⟩)) ?_
      try simp only [pp]
      refine rl_call (some 129) 41 #[.pointer (some ⟨r2, 0, none⟩)] rfl (by kernel_rfl) (by kernel_rfl) (RWeld_any r2 (t.take m) _ hT hr2.at) ?_
      rintro e w41 ⟨rfl, hL41⟩
      refine ⟨_, rfl, ?_⟩
      replace hT := hT.later hL41
      replace hB := hB.later hL41
      replace hP := hP.later hL41
      replace hbk := hbk.later hL41
      replace hr1 := hr1.later hL41
      replace hr2 := hr2.later hL41
      replace hr3 := hr3.later hL41
      have hz41 := hL41.size
      try simp only [pp]
      refine tk 130 (.pointer (some ⟨r3, 0, none⟩)) ?_
      try simp only [pp]
      refine rl_call (some 131) 41 #[.pointer (some ⟨r3, 0, none⟩)] rfl (by kernel_rfl) (by kernel_rfl) (RWeld_any r3 (t.drop m) _ hT hr3.at) ?_
      rintro e w42 ⟨rfl, hL42⟩
      refine ⟨_, rfl, ?_⟩
      replace hT := hT.later hL42
      replace hB := hB.later hL42
      replace hP := hP.later hL42
      replace hbk := hbk.later hL42
      replace hr1 := hr1.later hL42
      replace hr2 := hr2.later hL42
      replace hr3 := hr3.later hL42
      have hz42 := hL42.size
      try simp only [pp]
      refine rl_call (some 132) 40 #[.agg #[.int .i64 (t.take m).length, .int .i64 (runesN (t.take m)), .int .i64 (unitsN (t.take m)), .int .i64 (endsN (t.take m)), .string (bs (headOf (t.take m))), .string (bs (tailOf (t.take m)))], .agg #[.int .i64 (t.drop m).length, .int .i64 (runesN (t.drop m)), .int .i64 (unitsN (t.drop m)), .int .i64 (endsN (t.drop m)), .string (bs (headOf (t.drop m))), .string (bs (tailOf (t.drop m)))]] rfl (by kernel_rfl) (by kernel_rfl) (wjoin_cut t m _ hT htl) ?_
      rintro e w43 ⟨rfl, hL43⟩
      refine ⟨_, rfl, ?_⟩
      replace hT := hT.later hL43
      replace hB := hB.later hL43
      replace hP := hP.later hL43
      replace hbk := hbk.later hL43
      replace hr1 := hr1.later hL43
      replace hr2 := hr2.later hL43
      replace hr3 := hr3.later hL43
      have hz43 := hL43.size
      try simp only [pp]
      refine tk 127 (.tuple #[.agg #[.int .i64 t.length, .int .i64 (runesN t), .int .i64 (unitsN t), .int .i64 (endsN t), .string (bs (headOf t)), .string (bs (tailOf t))], .int .i64 0]) <| tk 133 (.agg #[.int .i64 t.length, .int .i64 (runesN t), .int .i64 (unitsN t), .int .i64 (endsN t), .string (bs (headOf t)), .string (bs (tailOf t))]) <| tk 134 (.int .i64 0) ?_
      try simp only [pp]
      refine rl_alloc (some 14) 36 #[.int .i64 0, .int .i64 0, .int .i64 0, .int .i64 0, .string ⟨#[]⟩, .string ⟨#[]⟩] rfl (by kernel_rfl) (fun W => by kernel_rfl) fun jw w44 hL44 hp44 hjw => ?_
      replace hT := hT.later hL44
      replace hB := hB.later hL44
      replace hP := hP.later hL44
      replace hbk := hbk.later hL44
      replace hr1 := hr1.later hL44
      replace hr2 := hr2.later hL44
      replace hr3 := hr3.later hL44
      have hz44 := hL44.size
      have hlt44 := hjw.lt
      try simp only [pp]
      refine rl_store jw #[.int .i64 t.length, .int .i64 (runesN t), .int .i64 (unitsN t), .int .i64 (endsN t), .string (bs (headOf t)), .string (bs (tailOf t))] rfl rfl (by kernel_rfl) rfl rfl (by kernel_rfl) hjw rfl (by kernel_rfl) fun w45 hU45 hn45 => ?_
      have hz45 := hU45.size
      replace hT := hT.upd hU45 (by omega)
      replace hB := hB.upd hU45 (by omega)
      replace hP := hP.upd hU45 (by omega)
      replace hbk := hbk.upd hU45 (by omega)
      replace hr1 := hr1.upd hU45 (by omega)
      replace hr2 := hr2.upd hU45 (by omega)
      replace hr3 := hr3.upd hU45 (by omega)
      clear hjw
      have hjw := hn45
      clear hn45
      try simp only [pp]
      refine tk 15 (.int .i64 0) ?_
      try simp only [pp]
      refine rl_end hgo <| hKK40 _ _ <| wp_seq_k fun KK46 hKK46 => rl_begin fun hgK hgo => tk 136 (.pointer (some ⟨r2, 0, none⟩)) <| tk 137 (.pointer (some ⟨r3, 0, none⟩)) ?_
      try simp only [pp]
      refine rl_call (some 138) 42 #[.pointer (some ⟨r2, 0, none⟩), .pointer (some ⟨r3, 0, none⟩)] rfl (by kernel_rfl) (by kernel_rfl) (RJoin_any r2 r3 (t.take m) (t.drop m) _ hT hr2.at hr3.at (by omega)) ?_
      rintro e w47 ⟨r4, rfl, hL47, hr4, -⟩
      refine ⟨_, rfl, ?_⟩
      replace hT := hT.later hL47
      replace hB := hB.later hL47
      replace hP := hP.later hL47
      replace hbk := hbk.later hL47
      replace hr1 := hr1.later hL47
      replace hr2 := hr2.later hL47
      replace hr3 := hr3.later hL47
      replace hjw := hjw.later hL47
      have hz47 := hL47.size
      rw [List.take_append_drop] at hr4
      try simp only [pp]
      refine tk 135 (.tuple #[.pointer (some ⟨r4, 0, none⟩), .int .i64 0]) <| tk 139 (.pointer (some ⟨r4, 0, none⟩)) <| tk 140 (.int .i64 0) <| tk 16 (.pointer (some ⟨r4, 0, none⟩)) <| tk 17 (.int .i64 0) ?_
      try simp only [pp]
      refine rl_end hgo <| hKK46 _ _ <| wp_seq_k fun KK48 hKK48 => ?_
      refine rm_begin (fun W => Ltr w47 W) (by kernel_rfl) (by exact bl_drew (bl_refl _)) fun K49 hgo w49 hE hS49 => ?_
      have hv49 : Ltr w47 w49 := by rw [hE]; exact bl_drew (bl_refl _)
      have hz49 := hv49.size
      clear hE hS49
      refine mk 0 141 (.int .i64 0) ?_
      try simp only [pp]
      refine mx 1 142 (.bool false) rfl (fun W hW => by (exact ex_bne (x := 0) (y := 0) (by kernel_rfl) ⟨fun q => (by cases q), fun q => absurd q (by omega)⟩)) <| mk 2 143 (.bool false) <| mk 3 144 (.int .i64 0) ?_
      try simp only [pp]
      refine mx 4 145 (.bool false) rfl (fun W hW => by (exact ex_bne (x := 0) (y := 0) (by kernel_rfl) ⟨fun q => (by cases q), fun q => absurd q (by omega)⟩)) <| mk 5 146 (.bool false) <| mk 6 147 (.bool false) ?_
      try simp only [pp]
      refine mx 7 148 (.agg #[.int .i64 t.length, .int .i64 (runesN t), .int .i64 (unitsN t), .int .i64 (endsN t), .string (bs (headOf t)), .string (bs (tailOf t))]) rfl (fun W hW => by (exact ldN 36 _ rfl jw 0 rfl (fun _ => by kernel_rfl) [] [.int .i64 t.length, .int .i64 (runesN t), .int .i64 (unitsN t), .int .i64 (endsN t), .string (bs (headOf t)), .string (bs (tailOf t))] [] (by kernel_rfl) (hjw.later hW) rfl rfl)) <| mk 8 149 (.pointer (some ⟨bk, 0, none⟩)) ?_
      try simp only [pp]
      refine mx 9 150 (.slice A1 rs.length c1) rfl (fun W hW => by (exact ld1 24 _ rfl bk 0 rfl (fun _ => by kernel_rfl) _ ((hbk.later hW).cell 0))) <| mk 10 151 (.int .i64 i) ?_
      try simp only [pp]
      refine mx 11 152 (.pointer (some ⟨gb, go' + i, none⟩)) rfl (fun W hW => by (exact ex_indexA i rfl rfl he1 rfl (by kernel_rfl) (fun _ => by kernel_rfl) (by omega) _)) ?_
      try simp only [pp]
      refine mx 12 153 (.pointer (some ⟨b, 0, none⟩)) rfl (fun W hW => by (exact ld1 31 _ rfl gb (go' + i) rfl (fun _ => by kernel_rfl) _ ((hP.later hW).pc he1 (ptrs_at hbt)))) ?_
      try simp only [pp]
      refine rm_call 13 (some 154) (.agg #[.int .i64 t.length, .int .i64 (runesN t), .int .i64 (unitsN t), .int .i64 (endsN t), .string (bs (headOf t)), .string (bs (tailOf t))]) 41 #[.pointer (some ⟨b, 0, none⟩)] (oi := { dst := some 154, op := Go.Op.call { callee := Go.Callee.value (Go.Operand.func 41), args := #[Go.Operand.tmp 153], argTypes := #[31] }, type := 36, pos := "law.go:419", after := #[{ on := 12, ground := Go.Ground.data }, { on := 6, ground := Go.Ground.chain }, { on := 6, ground := Go.Ground.guard }], guard := some (6, false) }) rfl rfl (by kernel_rfl) (by kernel_rfl) (by kernel_rfl) (by kernel_rfl) (fun W hW => by kernel_rfl) (fun W hW => RWeld_any b t W (hT.later hW) ((hP.at hbt).later hW)) (fun _ _ h k => Ltr.trans h k) ?_
      try simp only [pp]
      refine mx 14 155 (.bool false) rfl (fun W hW => by (exact ex_wne t rfl rfl rfl _)) <| mk 15 156 (.bool false) <| mk 16 157 (.bool false) <| mk 17 158 (.pointer (some ⟨r4, 0, none⟩)) <| mk 18 159 (.pointer (some ⟨bk, 0, none⟩)) ?_
      try simp only [pp]
      refine mx 19 160 (.slice A1 rs.length c1) rfl (fun W hW => by (exact ld1 24 _ rfl bk 0 rfl (fun _ => by kernel_rfl) _ ((hbk.later hW).cell 0))) <| mk 20 161 (.int .i64 i) ?_
      try simp only [pp]
      refine mx 21 162 (.pointer (some ⟨gb, go' + i, none⟩)) rfl (fun W hW => by (exact ex_indexA i rfl rfl he1 rfl (by kernel_rfl) (fun _ => by kernel_rfl) (by omega) _)) ?_
      try simp only [pp]
      refine mx 22 163 (.pointer (some ⟨b, 0, none⟩)) rfl (fun W hW => by (exact ld1 31 _ rfl gb (go' + i) rfl (fun _ => by kernel_rfl) _ ((hP.later hW).pc he1 (ptrs_at hbt)))) ?_
      try simp only [pp]
      refine rm_call 23 (some 164) (.bool true) 38 #[.pointer (some ⟨r4, 0, none⟩), .pointer (some ⟨b, 0, none⟩)] (oi := { dst := some 164, op := Go.Op.call { callee := Go.Callee.value (Go.Operand.func 38), args := #[Go.Operand.tmp 158, Go.Operand.tmp 163], argTypes := #[31, 31] }, type := 4, pos := "law.go:419", after := #[{ on := 17, ground := Go.Ground.data }, { on := 22, ground := Go.Ground.data }, { on := 16, ground := Go.Ground.chain }, { on := 16, ground := Go.Ground.guard }], guard := some (16, false) }) rfl rfl (by kernel_rfl) (by kernel_rfl) (by kernel_rfl) (by kernel_rfl) (fun W hW => by kernel_rfl) (fun W hW => same_self r4 b t W (hr4.later hW) ((hP.at hbt).later hW) htl) (fun _ _ h k => Ltr.trans h k) ?_
      try simp only [pp]
      refine mk 24 165 (.bool false) <| mk 25 166 (.bool false) ?_
      try simp only [pp]
      refine rm_done (by kernel_rfl) (fun w50 hL50 hS50 => hgo.out _ _ ?_) _
      clear hgo K49
      replace hT := hT.later (show Ltr w47 _ from hS50)
      replace hB := hB.later (show Ltr w47 _ from hS50)
      replace hP := hP.later (show Ltr w47 _ from hS50)
      replace hbk := hbk.later (show Ltr w47 _ from hS50)
      replace hr1 := hr1.later (show Ltr w47 _ from hS50)
      replace hr2 := hr2.later (show Ltr w47 _ from hS50)
      replace hr3 := hr3.later (show Ltr w47 _ from hS50)
      replace hjw := hjw.later (show Ltr w47 _ from hS50)
      replace hr4 := hr4.later (show Ltr w47 _ from hS50)
      have hz50 := (show Ltr w47 _ from hS50).size
      have hy50 := hL50.size
      refine hKK48 _ _ <| wp_cond_false (by kernel_rfl) <| wp_skip <| hKK16 _ _ <| rl_begin fun hgK hgo => ?_
      refine tx 167 (.int .i64 (((i + 1 : Nat) : Int))) (by exact ex_arith (e := (i : Int) + 1) (r := ((i + 1 : Nat) : Int)) (by kernel_rfl) (by omega) (by omega)) <| tk 30 (.int .i64 (((i + 1 : Nat) : Int))) ?_
      try simp only [pp]
      refine rl_end hgo ?_
      exact ⟨_, (by omega), fun gj => (#[.slice A l.length c, .int .i64 at', undef, undef, u 4, .pointer (some ⟨bk, 0, none⟩), .bool true, .int .i64 i, .int .i64 j, .pointer (some ⟨r1, 0, none⟩), .int .i64 0, .pointer (some ⟨r2, 0, none⟩), .pointer (some ⟨r3, 0, none⟩), .int .i64 0, .pointer (some ⟨jw, 0, none⟩), .int .i64 0, .pointer (some ⟨r4, 0, none⟩), .int .i64 0, .bool true, .bool false, .tuple #[.agg #[.slice A1 rs.length c1, .slice A2 rs.length c2], .bool true], .slice A l.length c, .tuple #[.agg #[.slice A1 rs.length c1, .slice A2 rs.length c2], .bool true], .agg #[.slice A1 rs.length c1, .slice A2 rs.length c2], .bool true, .bool true, .bool false, .pointer (some ⟨bk, 0, none⟩), .slice A1 rs.length c1, .int .i64 rs.length, .int .i64 (((i + 1 : Nat) : Int)), .bool true, .int .i64 i, .int .i64 j, .int .i64 i, .bool false, u 36, u 37, u 38, u 39, u 40, u 41, u 42, u 43, u 44, u 45, u 46, u 47, u 48, u 49, u 50, u 51, u 52, u 53, u 54, u 55, u 56, u 57, u 58, u 59, u 60, .tuple #[.pointer (some ⟨r1, 0, none⟩), .int .i64 0], .pointer (some ⟨bk, 1, none⟩), .slice A2 rs.length c2, .int .i64 i, .pointer (some ⟨gs, gt + i, none⟩), .string (bs t), .slice A5 t.length c5, .tuple #[.pointer (some ⟨r1, 0, none⟩), .int .i64 0], .pointer (some ⟨r1, 0, none⟩), .int .i64 0, .int .i64 0, .bool false, .bool false, .pointer (some ⟨r1, 0, none⟩), .pointer (some ⟨bk, 0, none⟩), .slice A1 rs.length c1, .int .i64 i, .pointer (some ⟨gb, go' + i, none⟩), .pointer (some ⟨b, 0, none⟩), .bool true, .bool false, .bool false, .bool false, .pointer (some ⟨bk, 0, none⟩), .slice A1 rs.length c1, .int .i64 i, .pointer (some ⟨gb, go' + i, none⟩), .pointer (some ⟨b, 0, none⟩), .bool (t == []), .pointer (some ⟨bk, 1, none⟩), .slice A2 rs.length c2, .int .i64 i, .pointer (some ⟨gs, gt + i, none⟩), .string (bs t), .bool (t == []), .bool false, .bool false, .tuple #[.pointer (some ⟨r2, 0, none⟩), .pointer (some ⟨r3, 0, none⟩), .int .i64 0], .pointer (some ⟨bk, 0, none⟩), .slice A1 rs.length c1, .int .i64 i, .pointer (some ⟨gb, go' + i, none⟩), .pointer (some ⟨b, 0, none⟩), .int .i64 at', .pointer (some ⟨bk, 1, none⟩), .slice A2 rs.length c2, .int .i64 i, .pointer (some ⟨gs, gt + i, none⟩), .string (bs t), .int .i64 t.length, .int .i64 (((t.length + 1 : Nat) : Int)), .int .i64 m, .tuple #[.pointer (some ⟨r2, 0, none⟩), .pointer (some ⟨r3, 0, none⟩), .int .i64 0], .pointer (some ⟨r2, 0, none⟩), .pointer (some ⟨r3, 0, none⟩), .int .i64 0, .int .i64 0, .bool false, .bool false, .pointer (some ⟨r2, 0, none⟩), .bool false, .bool false, .bool false, .pointer (some ⟨r3, 0, none⟩), .bool false, .bool false, .tuple #[.agg #[.int .i64 t.length, .int .i64 (runesN t), .int .i64 (unitsN t), .int .i64 (endsN t), .string (bs (headOf t)), .string (bs (tailOf t))], .int .i64 0], .pointer (some ⟨r2, 0, none⟩), .agg #[.int .i64 (t.take m).length, .int .i64 (runesN (t.take m)), .int .i64 (unitsN (t.take m)), .int .i64 (endsN (t.take m)), .string (bs (headOf (t.take m))), .string (bs (tailOf (t.take m)))], .pointer (some ⟨r3, 0, none⟩), .agg #[.int .i64 (t.drop m).length, .int .i64 (runesN (t.drop m)), .int .i64 (unitsN (t.drop m)), .int .i64 (endsN (t.drop m)), .string (bs (headOf (t.drop m))), .string (bs (tailOf (t.drop m)))], .tuple #[.agg #[.int .i64 t.length, .int .i64 (runesN t), .int .i64 (unitsN t), .int .i64 (endsN t), .string (bs (headOf t)), .string (bs (tailOf t))], .int .i64 0], .agg #[.int .i64 t.length, .int .i64 (runesN t), .int .i64 (unitsN t), .int .i64 (endsN t), .string (bs (headOf t)), .string (bs (tailOf t))], .int .i64 0, .tuple #[.pointer (some ⟨r4, 0, none⟩), .int .i64 0], .pointer (some ⟨r2, 0, none⟩), .pointer (some ⟨r3, 0, none⟩), .tuple #[.pointer (some ⟨r4, 0, none⟩), .int .i64 0], .pointer (some ⟨r4, 0, none⟩), .int .i64 0, .int .i64 0, .bool false, .bool false, .int .i64 0, .bool false, .bool false, .bool false, .agg #[.int .i64 t.length, .int .i64 (runesN t), .int .i64 (unitsN t), .int .i64 (endsN t), .string (bs (headOf t)), .string (bs (tailOf t))], .pointer (some ⟨bk, 0, none⟩), .slice A1 rs.length c1, .int .i64 i, .pointer (some ⟨gb, go' + i, none⟩), .pointer (some ⟨b, 0, none⟩), .agg #[.int .i64 t.length, .int .i64 (runesN t), .int .i64 (unitsN t), .int .i64 (endsN t), .string (bs (headOf t)), .string (bs (tailOf t))], .bool false, .bool false, .bool false, .pointer (some ⟨r4, 0, none⟩), .pointer (some ⟨bk, 0, none⟩), .slice A1 rs.length c1, .int .i64 i, .pointer (some ⟨gb, go' + i, none⟩), .pointer (some ⟨b, 0, none⟩), .bool true, .bool false, .bool false, .int .i64 (((i + 1 : Nat) : Int)), undef]).getD gj undef, i + 1, rfl, (by kernel_rfl), by omega, by assumption, by assumption, by assumption, by assumption⟩
  · refine tx 31 (.bool false) (by exact ex_bool (c := (i : Int) < rs.length) (by kernel_rfl) ⟨fun q => (by cases q), fun q => absurd q (by omega)⟩) ?_
    try simp only [pp]
    refine rl_end hgo <| hKK14 _ _ <| wp_seq_k fun KK51 hKK51 => wp_cond_false (by kernel_rfl) <| wp_exit <| hKK11 _ _ <| wp_seq_k fun KK52 hKK52 => rl_begin fun hgK hgo => ?_
    refine rl_call (some 168) 38 #[.pointer none, .pointer none] rfl (by kernel_rfl) (by kernel_rfl) (sameNil2 _) ?_
    rintro e w53 ⟨rfl, hL53⟩
    refine ⟨_, rfl, ?_⟩
    replace hT := hT.later hL53
    replace hB := hB.later hL53
    replace hP := hP.later hL53
    replace hbk := hbk.later hL53
    have hz53 := hL53.size
    try simp only [pp]
    refine tk 4 (.bool true) ?_
    try simp only [pp]
    refine rl_end hgo <| hKK52 _ _ ?_
    refine wp_ret ?_
    try simp only [Exit.then, Exit.inBlock]
    refine bp_ret (v := .bool true) (res1 rfl (res_tmp (by kernel_rfl))) ?_
    exact ⟨rfl, hB⟩
end Go.Proofs.YtliphfgiaioebaaDoor
namespace Go.Proofs.YtliphfgiaioebaaDoor
set_option linter.unusedVariables false
set_option linter.unusedSimpArgs false
open Go.ChangeShapes Go.WideShapes Go.ChangeAt Go.RowKit Go.Deep
theorem chunks (k : Nat) : ∀ (n : Nat) (cs : List Value) (T : Nat → List Value), cs.length = n * k → (∀ i, i < n → (cs.drop (i * k)).take k = T i) → cs = (List.range n).flatMap T
  | 0, cs, T, h, _ => by simp at h; simp [h]
  | n + 1, cs, T, h, hT => by
    rw [List.range_succ_eq_map, List.flatMap_cons, List.flatMap_map]
    have h0 := hT 0 (by omega)
    simp only [Nat.zero_mul, List.drop_zero] at h0
    have ih := chunks k n (cs.drop k) (fun i => T (i + 1)) (by rw [List.length_drop, h, Nat.add_mul]; omega) fun i hi => by
      have := hT (i + 1) (by omega)
      rw [List.drop_drop, show k + i * k = (i + 1) * k by rw [Nat.add_mul]; omega]
      exact this
    conv => lhs; rw [← List.take_append_drop k cs, h0, ih]
theorem three {cs : List Value} (h : cs.length = 3) : ∃ x y z, cs = [x, y, z] := by
  match cs, h with
  | [x, y, z], _ => exact ⟨x, y, z, rfl⟩
section
variable {H : Type} {enc : TypeId × Value → H} {W : World} {base : Nat} {sp : Nat → Bool} {held : Bool} {fuel : Nat} {cs : List Value} {p : List MemPlace}
theorem span_cells {a b c : Int} (h : DataW.trod enc Tryd.prog W base sp held fuel 201 cs = some (.agg [.lit (.int .i64 a), .lit (.int .i64 b), .lit (.int .i64 c)], p)) : cs = [.int .i64 a, .int .i64 b, .int .i64 c] := by
  obtain ⟨y0, y1, y2, n, hx, hl, h0, h1, h2⟩ := trod_struct3 (show Tryd.prog.underlying 201 = some (.struct #[_, _, _]) from Tryd.underlying201) h
  obtain ⟨z0, c0, e0, -⟩ := DataW.trod_int (k := .i64) (by kernel_rfl) h0
  obtain ⟨z1, c1, e1, -⟩ := DataW.trod_int (k := .i64) (by kernel_rfl) h1
  obtain ⟨z2, c2, e2, -⟩ := DataW.trod_int (k := .i64) (by kernel_rfl) h2
  subst e0 e1 e2
  simp only [Prod.mk.injEq, DataW.agg.injEq, List.cons.injEq, DataW.lit.injEq, Lit.int.injEq, true_and, and_true] at hx
  obtain ⟨⟨rfl, rfl, rfl⟩, -⟩ := hx
  rw [show Tryd.prog.cellsOf 201 = 3 by kernel_rfl] at hl
  clear h h0 h1 h2
  obtain ⟨x, y, z, rfl⟩ := three hl
  rw [show Tryd.prog.cellsOf 3 = 1 by kernel_rfl] at c0 c1
  rw [show Tryd.prog.cellsOf 196 = 1 by kernel_rfl] at c2
  simp at c0 c1 c2
  rw [c0, c1, c2]
theorem step_cells {a b : Int} {c : Bool} (h : DataW.trod enc Tryd.prog W base sp held fuel 158 cs = some (.agg [.lit (.int .i32 a), .lit (.int .i64 b), .lit (.bool c)], p)) : cs = [.int .i32 a, .int .i64 b, .bool c] := by
  obtain ⟨y0, y1, y2, n, hx, hl, h0, h1, h2⟩ := trod_struct3 (show Tryd.prog.underlying 158 = some (.struct #[_, _, _]) from Tryd.underlying158) h
  obtain ⟨z0, c0, e0, -⟩ := DataW.trod_int (k := .i32) (by kernel_rfl) h0
  obtain ⟨z1, c1, e1, -⟩ := DataW.trod_int (k := .i64) (by kernel_rfl) h1
  obtain ⟨z2, c2, e2⟩ := DataW.trod_bool (by kernel_rfl) h2
  subst e0 e1 e2
  simp only [Prod.mk.injEq, DataW.agg.injEq, List.cons.injEq, DataW.lit.injEq, Lit.int.injEq, Lit.bool.injEq, true_and, and_true] at hx
  obtain ⟨⟨rfl, rfl, rfl⟩, -⟩ := hx
  rw [show Tryd.prog.cellsOf 158 = 3 by kernel_rfl] at hl
  clear h h0 h1 h2
  obtain ⟨x, y, z, rfl⟩ := three hl
  rw [show Tryd.prog.cellsOf 21 = 1 by kernel_rfl] at c0
  rw [show Tryd.prog.cellsOf 3 = 1 by kernel_rfl] at c1
  rw [show Tryd.prog.cellsOf 4 = 1 by kernel_rfl] at c2
  simp at c0 c1 c2
  rw [c0, c1, c2]
theorem spans_cells {T : List (Int × Int × Int)} (hT : T.length = 7) (h : DataW.trod enc Tryd.prog W base sp held fuel 202 cs = some (.agg (T.map fun x => .agg [.lit (.int .i64 x.1), .lit (.int .i64 x.2.1), .lit (.int .i64 x.2.2)]), p)) :
    cs = (List.range 7).flatMap fun i => (match T[i]? with | some x => [.int .i64 x.1, .int .i64 x.2.1, .int .i64 x.2.2] | none => []) := by
  obtain ⟨xs, m, -, hx, hl, hlen, hi⟩ := DataW.trod_array Tryd.underlying202 h
  rw [show Tryd.prog.cellsOf 202 = 7 * 3 by kernel_rfl] at hl
  simp only [show Tryd.prog.cellsOf 201 = 3 by kernel_rfl] at hi
  simp only [Prod.mk.injEq, DataW.agg.injEq] at hx
  refine chunks 3 7 cs _ hl fun i hi7 => ?_
  have h1 := hi i hi7
  have h2 := congrArg (·[i]?) hx.1
  simp only [List.getElem?_map] at h2
  rw [List.getElem?_eq_getElem (by omega : i < T.length), List.getElem?_eq_getElem (by omega : i < xs.length)] at h2
  rw [List.getElem?_eq_getElem (by omega : i < xs.length)] at h1
  rw [List.getElem?_eq_getElem (by omega : i < T.length)]
  simp only [Option.map_some, Option.some.injEq] at h2
  refine span_cells (p := xs[i].2) (h1.trans ?_)
  rw [h2]
end
theorem tabs_laid {W : World} (h : laidMetH Tryd.prog Rows.ropeNilUptoRow.laid W) : Tabs W := by
  have h' : laidMet Tryd.prog [("galley/octet.spans", Rows.laid_galley_octet_spans), ("galley/octet.needs", Rows.laid_galley_octet_needs), ("galley/octet.masks", Rows.laid_galley_octet_masks), ("galley/step.bad", Rows.laid_galley_step_bad)] W := h
  obtain ⟨ps, ⟨g1, t1, cs1, f1, p1, q1, hg1, ht1, hv1, hd1, ⟨g2, t2, cs2, f2, p2, q2, hg2, ht2, hv2, hd2, ⟨g3, t3, cs3, f3, p3, q3, hg3, ht3, hv3, hd3, ⟨g4, t4, cs4, f4, p4, q4, hg4, ht4, hv4, hd4, -, -⟩, -⟩, -⟩, -⟩, -⟩ := h'
  obtain rfl := Option.some.inj ((show Tryd.prog.globalNamed "galley/octet.spans" = some 3 by kernel_rfl).symm.trans hg1)
  obtain rfl := Option.some.inj ((show Tryd.prog.globalNamed "galley/octet.needs" = some 2 by kernel_rfl).symm.trans hg2)
  obtain rfl := Option.some.inj ((show Tryd.prog.globalNamed "galley/octet.masks" = some 0 by kernel_rfl).symm.trans hg3)
  obtain rfl := Option.some.inj ((show Tryd.prog.globalNamed "galley/step.bad" = some 1 by kernel_rfl).symm.trans hg4)
  obtain rfl := Option.some.inj ((show (Tryd.prog.globals[3]?).map (·.type) = some 202 by kernel_rfl).symm.trans ht1)
  obtain rfl := Option.some.inj ((show (Tryd.prog.globals[2]?).map (·.type) = some 199 by kernel_rfl).symm.trans ht2)
  obtain rfl := Option.some.inj ((show (Tryd.prog.globals[0]?).map (·.type) = some 192 by kernel_rfl).symm.trans ht3)
  obtain rfl := Option.some.inj ((show (Tryd.prog.globals[1]?).map (·.type) = some 158 by kernel_rfl).symm.trans ht4)
  have e1 : cs1.toList = spanCells := spans_cells (T := [(0, 127, 1), (128, 191, 2), (192, 193, 6), (194, 223, 3), (224, 239, 4), (240, 244, 5), (245, 255, 6)]) rfl hd1
  have e2 : cs2.toList = needCells := Lib.cells_of_tab (k := .i64) (zs := [0, 1, 0, 2, 3, 4, 0]) Tryd.underlying199 Tryd.underlying3 (by kernel_rfl) (by kernel_rfl) hd2
  have e3 : cs3.toList = maskCells := Lib.cells_of_tab (k := .u8) (zs := [0, 127, 31, 15, 7]) Tryd.underlying192 Tryd.underlying5 (by kernel_rfl) (by kernel_rfl) hd3
  have e4 : cs4.toList = badCells := step_cells hd4
  have key : ∀ {n : String} {g : Nat} {cs : Array Value} {l : List Value}, Tryd.prog.globalNamed n = some g → W.var? Tryd.prog n = some cs → cs.toList = l → ∀ i v, l[i]? = some v → W.cell? ⟨g, i, none⟩ = some v := fun hg hv e i v hi => by
    rw [World.var?_cell hg hv i, ← Array.getElem?_toList, e]; exact hi
  exact ⟨key hg1 hv1 e1, key hg2 hv2 e2, key hg3 hv3 e3, key hg4 hv4 e4⟩
end Go.Proofs.YtliphfgiaioebaaDoor
namespace Go.Proofs.YtliphfgiaioebaaDoor
set_option linter.unusedVariables false
set_option linter.unusedSimpArgs false
open Go.ChangeShapes Go.WideShapes Go.ChangeAt Go.RowKit Go.Deep
set_option maxRecDepth 100000
namespace glue
theorem one_le {H : Type} (d : DataW H) : 1 ≤ Rows.uptoBulk d := by
  cases d with
  | lit l => cases l <;> simp [Rows.uptoBulk]
  | nil => simp [Rows.uptoBulk]
  | ptr d => simp [Rows.uptoBulk]
  | slice elems spare => simp [Rows.uptoBulk]
  | agg parts => simp [Rows.uptoBulk]
  | iface t d => simp [Rows.uptoBulk]
  | map entries => simp [Rows.uptoBulk]
  | held h => simp [Rows.uptoBulk]
theorem length_le {H : Type} (l : List (DataW H)) : l.length ≤ Rows.uptoBulkAll l := by
  induction l with
  | nil => simp [Rows.uptoBulkAll]
  | cons x r ih => have := one_le x; simp only [Rows.uptoBulkAll, List.length_cons]; omega
theorem mem_le {H : Type} {l : List (DataW H)} {d : DataW H} (h : d ∈ l) : Rows.uptoBulk d ≤ Rows.uptoBulkAll l := by
  induction l with
  | nil => cases h
  | cons x r ih =>
    simp only [Rows.uptoBulkAll]
    rcases List.mem_cons.1 h with rfl | h
    · omega
    · have := ih h; omega
theorem slice_le {H : Type} (elems spare : List (DataW H)) : elems.length + spare.length + 1 ≤ Rows.uptoBulk (.slice elems spare) := by
  have h1 := length_le elems
  have h2 := length_le spare
  simp only [Rows.uptoBulk]
  omega
def setG (h : Array Obj) (g : Nat) (cs : List Value) : Array Obj := h.modify g fun
  | .cells _ t frozen => .cells cs.toArray t frozen
  | o => o
/-- a world that holds the four laid variables -/
noncomputable def laidWorld (os : Os) : World :=
  { World.holding Tryd.prog os ⟨#[], #[], []⟩ with heap := setG (setG (setG (setG (World.holding Tryd.prog os ⟨#[], #[], []⟩).heap 3 spanCells) 2 needCells) 0 maskCells) 1 badCells }
theorem own : ownKnob Tryd.prog.godebug = none := by kernel_rfl
theorem laidOut : laidOutB Tryd.prog = true := by kernel_rfl
section
variable {H : Type} {enc : TypeId × Value → H}
theorem back {W W' : World} (hb : Below W.heap.size W W') : ∀ (ts : List TypeId) (vs : List Value) (ds : List (DataW H)) (p : List MemPlace), DataW.TrodAll enc Tryd.prog W 0 (fun _ => true) true ts vs ds p →
    (∀ t ∈ ts, Tryd.prog.readableRec t = true ∧ t < Tryd.prog.types.size) → (∀ x ∈ p, x.block < W.heap.size) → DataW.TrodAll enc Tryd.prog W' 0 (fun b => decide (b < W.heap.size)) true ts vs ds p
  | [], [], [], p, h, _, _ => h
  | t :: ts, v :: vs, d :: ds, p, ⟨p1, p2, h1, h2, e⟩, ht, hp =>
    ⟨p1, p2, Below.trod laidOut (ht t (by simp)).1 (ht t (by simp)).2 h1 hb (fun x hx => hp x (by rw [e]; simp [hx])), back hb ts vs ds p2 h2 (fun t h => ht t (by simp [h])) (fun x hx => hp x (by rw [e]; simp [hx])), e⟩
  | [], _ :: _, _, _, h, _, _ => by cases h
  | [], [], _ :: _, _, h, _, _ => by cases h
  | _ :: _, [], _, _, h, _, _ => by cases h
  | _ :: _, _ :: _, [], _, h, _, _ => by cases h
/-- a slice of bytes that came in -/
theorem open_bytes0 {W : World} {a1 : Value} {fuel : Nat} {x : DataW H × List MemPlace} (hf : DataW.trod enc Tryd.prog W 0 (fun _ => true) true fuel 41 [a1] = some x) :
    ∃ (A : Option Addr) (c : Nat) (l : List UInt8), a1 = .slice A l.length c ∧ BytesAt W A l ∧ l.length ≤ c ∧ (A = none → c = 0) ∧ l.length ≤ Rows.uptoBulk x.1 := by
  rcases open_ints Tryd.underlying41 Tryd.underlying5 (by kernel_rfl) hf with ⟨hcs, hx⟩ | ⟨a, len', cap', zs, hcs, _, hl, hm, hz, hx, hcell, hwz⟩
  · simp only [List.cons.injEq, and_true] at hcs
    subst hcs
    exact ⟨none, 0, [], rfl, BytesAt.nil _ _, Nat.le_refl _, fun _ => rfl, Nat.zero_le _⟩
  · simp only [List.cons.injEq, and_true] at hcs
    subst hcs hx
    simp only [if_true] at hz
    have hlen : ((zs.take len').map fun n => UInt8.ofNat n.toNat).length = len' := by simp; omega
    refine ⟨some a, cap', (zs.take len').map fun n => UInt8.ofNat n.toNat, by rw [hlen], fun h0 => ?_, by rw [hlen]; exact hl, (fun e => by cases e), ?_⟩
    · rw [hlen] at h0
      obtain ⟨ab, ao, spot⟩ := a
      have hspot : spot = none := by simpa [Addr.add] using World.cell?_spot (hcell 0 (by omega))
      subst hspot
      refine ⟨ab, ao, rfl, fun i hi => ?_⟩
      rw [hlen] at hi
      have hc := hcell i (by omega)
      rw [Addr.add_lit] at hc
      rw [hc]
      have hb := range_u8 hwz i
      have e : zs[i]? = some (zs[i]'(by omega)) := List.getElem?_eq_getElem (by omega)
      have hg : gb ((zs.take len').map fun n => UInt8.ofNat n.toNat) i = zs.getD i 0 := by
        unfold gb
        rw [List.getD_eq_getElem?_getD, List.getElem?_map, List.getElem?_take, if_pos hi, e, List.getD_eq_getElem?_getD, e]
        rw [e] at hb
        simp only [Option.map_some, Option.getD_some, UInt8.toNat_ofNat'] at hb ⊢
        omega
      rw [hg]
    · rw [hlen]
      have := slice_le (lits (H := H) .u8 (zs.take len')) (lits .u8 (zs.drop len'))
      have h1 : (lits (H := H) .u8 (zs.take len')).length = len' := by simp [lits]; omega
      simp only
      omega
theorem open_bytes {W : World} {base : Nat} {v : Value} {d : DataW H} {p : List MemPlace} (hval : Value.okWide Tryd.prog W .any base 41 v) (h : DataW.Trod enc Tryd.prog W 0 (fun _ => true) true 41 v d p) :
    ∃ (A : Option Addr) (c : Nat) (l : List UInt8), v = .slice A l.length c ∧ BytesAt W A l ∧ l.length ≤ c ∧ (A = none → c = 0) ∧ l.length ≤ Rows.uptoBulk d := by
  obtain ⟨a1, len, cap, rfl⟩ := okWide_slice Tryd.underlying41 hval
  obtain ⟨fuel, hf⟩ := h
  exact open_bytes0 (x := (d, p)) (hf : DataW.trod enc Tryd.prog W 0 (fun _ => true) true fuel 41 [.slice a1 len cap] = some (d, p))
theorem list_of {α : Type} {P : Nat → α → Prop} : ∀ n : Nat, (∀ i, i < n → ∃ x, P i x) → ∃ l : List α, l.length = n ∧ ∀ i x, l[i]? = some x → P i x
  | 0, _ => ⟨[], rfl, fun i x h => by simp at h⟩
  | n + 1, h => by
    obtain ⟨l, h1, h2⟩ := list_of n fun i hi => h i (by omega)
    obtain ⟨x, hx⟩ := h n (by omega)
    refine ⟨l ++ [x], by simp [h1], fun i y hy => ?_⟩
    rcases Nat.lt_or_ge i l.length with hi | hi
    · rw [List.getElem?_append_left hi] at hy; exact h2 i y hy
    · rw [List.getElem?_append_right hi] at hy
      have : i - l.length = 0 := by
        have := (List.getElem?_eq_some_iff.1 hy).1; simp at this; omega
      rw [this] at hy; simp at hy; subst hy
      rwa [show i = n by omega]
theorem open_slice_fields {P : Program} {w : World} {base : Nat} {spare : Nat → Bool} {held : Bool} {t e : TypeId} {fs : Array Field} {fuel : Nat} {cs : List Value} {x : DataW H × List MemPlace} (ht : P.underlying t = some (.slice e)) (he : P.underlying e = some (.struct fs))
    (hone : oneCellFields P fs = true) (hC : P.cellsOf e = fs.size) (h : DataW.trod enc P w base spare held fuel t cs = some x) :
    (cs = [.slice none 0 0] ∧ x = (.nil, [])) ∨
    ∃ (a : Addr) (len cap m : Nat) (D : Nat → DataW H) (Pl : Nat → List MemPlace), cs = [.slice (some a) len cap] ∧ base ≤ a.block ∧ len ≤ cap ∧ cap ≤ maxLen ∧ m = (if spare a.block then cap else len) ∧
      x = (.slice ((List.range len).map D) ((List.range (m - len)).map fun j => D (len + j)), MemPlace.row a (m * fs.size) ++ (List.range m).flatMap Pl) ∧
      ∀ i, i < m → ∃ (ys : List (DataW H × List MemPlace)) (n : Nat), D i = .agg (ys.map (·.1)) ∧ Pl i = ys.flatMap (·.2) ∧ ys.length = fs.size ∧
        ∀ (j : Nat) (f : Field), fs[j]? = some f → ∃ (v : Value) (y : DataW H × List MemPlace), w.cell? (a.add (i * fs.size + j)) = some v ∧ ys[j]? = some y ∧ DataW.trod enc P w base spare held n f.type [v] = some y := by
  rcases open_slice ht h with h0 | ⟨a, len, cap, m, n, D, Pl, hcs, hb, hl, hm, hmm, hx, hi⟩
  · exact .inl h0
  · refine .inr ⟨a, len, cap, m, D, Pl, hcs, hb, hl, hm, hmm, by rw [hC] at hx; exact hx, fun i him => ?_⟩
    obtain ⟨cs', hc, ht'⟩ := hi i him
    rw [hC] at hc
    obtain ⟨ys, n', hn', hy, hlen, hyl, hf⟩ := DataW.trod_struct he ht'
    obtain ⟨_, hcl, hat⟩ := World.cells?_some hc
    simp only [Prod.mk.injEq] at hy
    refine ⟨ys, n', hy.1, hy.2, hyl, fun j f hj => ?_⟩
    obtain ⟨ho, hk⟩ := hone_of hone j f hj
    have hjl : j < fs.size := (Array.getElem?_eq_some_iff.1 hj).1
    have hcell := hat j hjl
    have hv : cs'[j]? = some (cs'[j]'(by omega)) := List.getElem?_eq_getElem (by omega)
    have h1 := hf j f hj
    rw [ho, hk] at h1
    have hone' : (cs'.drop j).take 1 = [cs'[j]'(by omega)] := by
      rw [List.drop_eq_getElem_cons (by omega)]
      rfl
    rw [hone'] at h1
    have hys : ys[j]? = some (ys[j]'(by omega)) := List.getElem?_eq_getElem (by omega)
    refine ⟨_, _, ?_, hys, h1.trans hys⟩
    rw [← Go.Deep.add_add, hcell, hv]
/-- acts that came in -/
theorem open_acts {W : World} {base : Nat} {v : Value} {d : DataW H} {p : List MemPlace} (hval : Value.okWide Tryd.prog W .any base 22 v) (h : DataW.Trod enc Tryd.prog W 0 (fun _ => true) true 22 v d p) (hk : Rows.uptoBulk d ≤ 1048576) :
    ∃ (A : Option Addr) (c : Nat) (l : List ActD), v = .slice A l.length c ∧ ActsAt W.heap.size W A l ∧ l.length ≤ c ∧ l.length ≤ 1100000 := by
  obtain ⟨a1, len, cap, rfl⟩ := okWide_slice Tryd.underlying22 hval
  obtain ⟨fuel, hf⟩ := h
  rcases open_slice_fields Tryd.underlying22 Tryd.underlying105 (by kernel_rfl) (by kernel_rfl) hf with ⟨hcs, hx⟩ | ⟨a, len', cap', m, D, Pl, hcs, _, hl, _, hm, hx, hi⟩
  · simp [Value.cells] at hcs
    obtain ⟨rfl, rfl, rfl⟩ := hcs
    exact ⟨none, 0, [], rfl, ⟨Nat.le_refl _, by simp, fun h => absurd h (by simp)⟩, Nat.le_refl _, Nat.zero_le _⟩
  · simp [Value.cells] at hcs
    obtain ⟨rfl, rfl, rfl⟩ := hcs
    simp only [Prod.mk.injEq] at hx
    obtain ⟨rfl, rfl⟩ := hx
    simp only [if_true] at hm
    have hbulk := slice_le ((List.range len).map D) ((List.range (m - len)).map fun j => D (len + j))
    simp only [List.length_map, List.length_range] at hbulk
    have hall : Rows.uptoBulkAll ((List.range len).map D) ≤ 1048576 := by simp only [Rows.uptoBulk] at hk; omega
    have key : ∀ i, i < len → ∃ x : ActD, x.ok W.heap.size W ∧ ∀ j v, x.v[j]? = some v → W.cell? (a.add (i * 6 + j)) = some v := fun i hil => by
      obtain ⟨ys, n, hD, -, hyl, hj⟩ := hi i (by omega)
      obtain ⟨v0, y0, k0, g0, t0⟩ := hj 0 _ rfl
      obtain ⟨v1, y1, k1, g1, t1⟩ := hj 1 _ rfl
      obtain ⟨v2, y2, k2, g2, t2⟩ := hj 2 _ rfl
      obtain ⟨v3, y3, k3, g3, t3⟩ := hj 3 _ rfl
      obtain ⟨v4, y4, k4, g4, t4⟩ := hj 4 _ rfl
      obtain ⟨v5, y5, k5, g5, t5⟩ := hj 5 _ rfl
      obtain ⟨z0, e0, -⟩ := DataW.trod_int (k := .i64) Tryd.underlying3 t0
      obtain ⟨z1, e1, -⟩ := DataW.trod_int (k := .i64) Tryd.underlying3 t1
      obtain ⟨z2, e2, -⟩ := DataW.trod_int (k := .i64) Tryd.underlying3 t2
      obtain ⟨z3, e3, -⟩ := DataW.trod_int (k := .i64) Tryd.underlying3 t3
      obtain ⟨z4, e4, -⟩ := DataW.trod_int (k := .i64) Tryd.underlying3 t4
      simp only [List.cons.injEq, and_true] at e0 e1 e2 e3 e4
      obtain ⟨A, c, l, rfl, hb, hc, hn, hu⟩ := open_bytes0 t5
      have hle : Rows.uptoBulk y5.1 ≤ 1048576 := by
        have h1 : y5.1 ∈ ys.map (·.1) := List.mem_map.2 ⟨y5, List.mem_of_getElem? g5, rfl⟩
        have h2 := mem_le h1
        have h3 : D i ∈ (List.range len).map D := List.mem_map.2 ⟨i, List.mem_range.2 hil, rfl⟩
        have h4 := mem_le h3
        rw [hD] at h4
        simp only [Rows.uptoBulk] at h4
        omega
      refine ⟨⟨z0, z1, z2, z3, z4, A, c, l⟩, ⟨hb.n, hc, hn, by show l.length ≤ 2000000; omega⟩, fun j v hv => ?_⟩
      subst e0 e1 e2 e3 e4
      simp only [ActD.v] at hv
      match j, hv with
      | 0, hv => cases hv; exact k0
      | 1, hv => cases hv; exact k1
      | 2, hv => cases hv; exact k2
      | 3, hv => cases hv; exact k3
      | 4, hv => cases hv; exact k4
      | 5, hv => cases hv; exact k5
      | _ + 6, hv => simp at hv
    obtain ⟨l, rfl, hll⟩ := list_of len key
    refine ⟨some a, cap, l, rfl, ⟨Nat.le_refl _, fun x hx => ?_, fun h0 => ?_⟩, hl, by omega⟩
    · obtain ⟨i, hi'⟩ := List.getElem?_of_mem hx
      exact (hll i x hi').1
    · obtain ⟨x, hx⟩ : ∃ x, l[0]? = some x := ⟨_, List.getElem?_eq_getElem h0⟩
      have hc0 := (hll 0 x hx).2 0 _ rfl
      obtain ⟨ab, ao, spot⟩ := a
      have hspot : spot = none := by simpa [Addr.add] using World.cell?_spot hc0
      subst hspot
      have hlt := World.block_lt_of_cell? W _ hc0
      rw [add_none] at hlt
      refine ⟨ab, ao, rfl, hlt, fun i x j v hx hv => ?_⟩
      have := (hll i x hx).2 j v hv
      rwa [add_none, ← Nat.add_assoc] at this
end
end glue
end Go.Proofs.YtliphfgiaioebaaDoor
namespace Go.Proofs.YtliphfgiaioebaaDoor.ropeSame
set_option linter.unusedVariables false
set_option linter.unusedSimpArgs false
open Go.ChangeShapes Go.WideShapes Go.ChangeAt Go.RowKit Go.Deep Go.Proofs.YtliphfgiaioebaaDoor
set_option maxRecDepth 100000
section
variable {H : Type} {enc : TypeId × Value → H}
theorem contract (W : World) (base : Nat) (args : Array Value) (ds gs : List (DataW H)) (before : List MemPlace)
    (hval : ∀ (j : Nat) t v, Tryd.f11.params[j]? = some t → args[j]? = some v → Value.okWide Tryd.prog W .any base t v)
    (hW : DataW.Whole enc Tryd.prog Tryd.f11.params.toList Rows.ropeSameSpec.vars false W args.toList ds gs before) (hL : laidMetH Tryd.prog Rows.ropeSameUptoRow.laid W) (hk : Rows.uptoSmall H (ds ++ gs) = true) :
    Calls Tryd.prog 11 args W fun e W' => ∃ v, e = .returned v ∧ Rows.ropeSameSpec.post enc Tryd.prog Tryd.f11 false true false false W args v W' := by
  have hW' := hW
  obtain ⟨p, q, hA0, hV, rfl, hfz, hnd⟩ := hW
  have hlt : ∀ x ∈ p, x.block < W.heap.size := fun x hx => hW'.lt x (List.mem_append_left _ hx)
  have hA : DataW.TrodAll enc Tryd.prog W 0 (fun _ => true) true Tryd.f11.params.toList args.toList ds p := hA0
  rw [Tryd.params11] at hA hval
  obtain ⟨v0, v1, d0, d1, p0, p1, hargs, rfl, rfl, h0, h1⟩ := trodAll_two hA
  obtain rfl : args = #[v0, v1] := by cases args; simp_all
  obtain ⟨rfl, rfl⟩ := trodVars_none hV
  have hsm : Rows.uptoBulkAll [d0, d1] ≤ 1048576 := by simpa [Rows.uptoSmall] using hk
  simp only [Rows.uptoBulkAll] at hsm
  obtain ⟨A0, c0, l0, rfl, hb0, hc0, hm0⟩ := glue.open_acts (hval 0 22 v0 rfl rfl) h0 (by omega)
  obtain ⟨a1, rfl, rfl, -, w1⟩ := open_int Tryd.underlying3 (hval 1 3 v1 rfl rfl) h1
  refine (RopeSame_walk A0 c0 l0 a1 W (tabs_laid hL) hb0 hc0 hm0).mono fun e W' ⟨he, hl⟩ => ?_
  subst he
  have ht : ∀ t ∈ Tryd.f11.params.toList, Tryd.prog.readableRec t = true ∧ t < Tryd.prog.types.size := by
    rw [Tryd.params11]
    intro t ht
    simp only [List.mem_cons, List.not_mem_nil, or_false] at ht
    rcases ht with rfl | rfl
    all_goals exact ⟨by kernel_rfl, of_decide_eq_true (by kernel_rfl)⟩
  exact ⟨_, rfl, _, _, _, _, _, _, hW', trodAll_cons_mk (shut_bool Tryd.underlying4 _) trodAll_mk0, glue.back hl _ _ _ _ hA0 ht hlt, rfl, Below.frame hl _, fun h => by cases h⟩
end
end Go.Proofs.YtliphfgiaioebaaDoor.ropeSame
