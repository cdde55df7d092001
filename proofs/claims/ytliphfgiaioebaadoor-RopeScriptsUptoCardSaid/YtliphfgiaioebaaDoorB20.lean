/-
  Law 9: holds.
  Law 9: RopeScripts' function.
  The four laid variables: what the rows' list says of their cells.
  Law 9: an input's acts and bytes, opened; read again behind the call; a world that the cards start from.
  RopeScripts, where what it reads is of bulk at most 1048576: whatever the acts and the two places, it answers true, and its input reads as it did.
-/
import Derived.Test.YtliphfgiaioebaaDoorB19
import Derived.Test.YtliphfgiaioebaaDoorCards
import Derived.Test.YtliphfgiaioebaaDoorTie
import Derived.Lib.LaidTab
import Derived.Deep.Strs
import Derived.OpenShut
import Derived.ProofKit
import Derived.Deep.DeepHandedRow
import Derived.Deep.Slices
import Derived.Deep.Fields
import Derived.ChangeSame
namespace Go.Proofs.YtliphfgiaioebaaDoor
set_option linter.unusedVariables false
set_option linter.unusedSimpArgs false
open Go.RowKit
set_option maxRecDepth 100000
set_option maxHeartbeats 16000000
theorem Bytes_out (b : Nat) (l : List UInt8) (lo hi : Int) (w : World) (hr : RopeAt w b l) (h : ¬ (0 ≤ lo ∧ lo ≤ hi ∧ hi ≤ l.length)) :
    Calls Tryd.prog 44 #[.pointer (some ⟨b, 0, none⟩), .int .i64 lo, .int .i64 hi] w fun e w' => e = .returned (.tuple #[.slice none 0 0, .int .i64 2]) ∧ Ltr w w' := by
  have hB := Ltr.refl w
  by_cases h2 : hi < 0 ∨ (l.length : Int) < hi
  · skip
    refine (callsIn_wide (n := 0)).1 ?_
    refine callsIn_of_wp_marks Tryd.func44 rfl trivial ?_ rfl
    simp only [Tryd.ntmps44, List.size_toArray, List.length_cons, List.length_nil, Nat.reduceAdd, Nat.reduceSub, Array.replicate_succ, Array.replicate_zero, List.push_toArray, List.append_toArray, List.nil_append, List.cons_append]
    refine (wpIn_wide (n := 0)).2 ?_
    refine wp_seq_k fun KK1 hKK1 => rl_begin fun hgK hgo => ?_
    refine rl_alloc (some 4) 3 #[.int .i64 lo] rfl (by kernel_rfl) (fun W => by kernel_rfl) fun pl w2 hL2 hp2 hpl => ?_
    replace hB := hB.later hL2
    replace hr := hr.later hL2
    have hz2 := hL2.size
    have hlt2 := hpl.lt
    try simp only [pp]
    refine rl_alloc (some 5) 3 #[.int .i64 hi] rfl (by kernel_rfl) (fun W => by kernel_rfl) fun ph w3 hL3 hp3 hph => ?_
    replace hB := hB.later hL3
    replace hr := hr.later hL3
    replace hpl := hpl.later hL3
    have hz3 := hL3.size
    have hlt3 := hph.lt
    try simp only [pp]
    refine tk 6 (.slice none 0 0) <| tk 7 (.int .i64 0) ?_
    simp only [pp]
    refine rl_end hgo <| hKK1 _ _ <| wp_seq_k fun KK4 hKK4 => wp_seq_k fun KK5 hKK5 => rl_begin fun hgK hgo => tk 11 (.pointer (some ⟨b, 0, none⟩)) ?_
    simp only [pp]
    refine tx 12 (.int .i64 hi) (by exact ld1 3 _ rfl ph 0 rfl (fun _ => by kernel_rfl) _ (hph.cell 0)) ?_
    simp only [pp]
    refine rl_call (some 13) 77 #[.pointer (some ⟨b, 0, none⟩), .int .i64 hi] rfl (by kernel_rfl) (by kernel_rfl) (place_out b l hi h2 _ hr) ?_
    rintro e w6 ⟨rfl, hL6⟩
    refine ⟨_, rfl, ?_⟩
    replace hB := hB.later hL6
    replace hr := hr.later hL6
    replace hpl := hpl.later hL6
    replace hph := hph.later hL6
    have hz6 := hL6.size
    try simp only [pp]
    refine tk 8 (.int .i64 2) ?_
    simp only [pp]
    refine rl_end hgo <| hKK5 _ _ <| wp_seq_k fun KK7 hKK7 => rl_begin fun hgK hgo => tk 14 (.int .i64 2) ?_
    simp only [pp]
    refine tx 15 (.bool true) (by exact ex_bne (x := 2) (y := 0) (by kernel_rfl) ⟨fun _ => by omega, fun _ => rfl⟩) ?_
    simp only [pp]
    refine rl_end hgo <| hKK7 _ _ <| wp_cond_true (by kernel_rfl) <| wp_seq_k fun KK8 hKK8 => rl_begin fun hgK hgo => tk 16 (.int .i64 2) <| tk 6 (.slice none 0 0) <| tk 7 (.int .i64 2) ?_
    simp only [pp]
    refine rl_end hgo <| hKK8 _ _ ?_
    refine wp_ret ?_
    try simp only [Exit.then, Exit.inBlock]
    refine bm_ret (v := .tuple #[.slice none 0 0, .int .i64 2]) (res2 rfl (res_tmp (by kernel_rfl)) (res_tmp (by kernel_rfl))) ?_
    exact ⟨rfl, hB⟩
  · obtain ⟨k, rfl⟩ := Int.eq_ofNat_of_zero_le (by omega : 0 ≤ hi)
    refine (callsIn_wide (n := 0)).1 ?_
    refine callsIn_of_wp_marks Tryd.func44 rfl trivial ?_ rfl
    simp only [Tryd.ntmps44, List.size_toArray, List.length_cons, List.length_nil, Nat.reduceAdd, Nat.reduceSub, Array.replicate_succ, Array.replicate_zero, List.push_toArray, List.append_toArray, List.nil_append, List.cons_append]
    refine (wpIn_wide (n := 0)).2 ?_
    refine wp_seq_k fun KK1 hKK1 => rl_begin fun hgK hgo => ?_
    refine rl_alloc (some 4) 3 #[.int .i64 lo] rfl (by kernel_rfl) (fun W => by kernel_rfl) fun pl w2 hL2 hp2 hpl => ?_
    replace hB := hB.later hL2
    replace hr := hr.later hL2
    have hz2 := hL2.size
    have hlt2 := hpl.lt
    try simp only [pp]
    refine rl_alloc (some 5) 3 #[.int .i64 (k : Int)] rfl (by kernel_rfl) (fun W => by kernel_rfl) fun ph w3 hL3 hp3 hph => ?_
    replace hB := hB.later hL3
    replace hr := hr.later hL3
    replace hpl := hpl.later hL3
    have hz3 := hL3.size
    have hlt3 := hph.lt
    try simp only [pp]
    refine tk 6 (.slice none 0 0) <| tk 7 (.int .i64 0) ?_
    simp only [pp]
    refine rl_end hgo <| hKK1 _ _ <| wp_seq_k fun KK4 hKK4 => wp_seq_k fun KK5 hKK5 => rl_begin fun hgK hgo => tk 11 (.pointer (some ⟨b, 0, none⟩)) ?_
    simp only [pp]
    refine tx 12 (.int .i64 (k : Int)) (by exact ld1 3 _ rfl ph 0 rfl (fun _ => by kernel_rfl) _ (hph.cell 0)) ?_
    simp only [pp]
    refine rl_call (some 13) 77 #[.pointer (some ⟨b, 0, none⟩), .int .i64 (k : Int)] rfl (by kernel_rfl) (by kernel_rfl) (place_in b l k (by omega) _ hr) ?_
    rintro e w6 ⟨rfl, hL6⟩
    refine ⟨_, rfl, ?_⟩
    replace hB := hB.later hL6
    replace hr := hr.later hL6
    replace hpl := hpl.later hL6
    replace hph := hph.later hL6
    have hz6 := hL6.size
    try simp only [pp]
    refine tk 8 (.int .i64 0) ?_
    simp only [pp]
    refine rl_end hgo <| hKK5 _ _ <| wp_seq_k fun KK7 hKK7 => rl_begin fun hgK hgo => tk 14 (.int .i64 0) ?_
    simp only [pp]
    refine tx 15 (.bool false) (by exact ex_bne (x := 0) (y := 0) (by kernel_rfl) ⟨fun q => (by cases q), fun q => absurd q (by omega)⟩) ?_
    simp only [pp]
    refine rl_end hgo <| hKK7 _ _ <| wp_cond_false (by kernel_rfl) <| wp_skip <| hKK4 _ _ <| wp_seq_k fun KK8 hKK8 => wp_seq_k fun KK9 hKK9 => rl_begin fun hgK hgo => ?_
    refine tx 17 (.int .i64 lo) (by exact ld1 3 _ rfl pl 0 rfl (fun _ => by kernel_rfl) _ (hpl.cell 0)) ?_
    simp only [pp]
    by_cases h3 : lo < 0
    ·refine tx 18 (.bool true) (by exact ex_bool (c := (lo : Int) < 0) (by kernel_rfl) ⟨fun _ => by omega, fun _ => rfl⟩) <| tk 19 (.bool true) ?_
     simp only [pp]
     refine rl_pass (some 20) rfl (by kernel_rfl) ?_
     try simp only [pp]
     refine rl_pass (some 21) rfl (by kernel_rfl) ?_
     try simp only [pp]
     refine rl_pass (some 22) rfl (by kernel_rfl) ?_
     try simp only [pp]
     refine tk 23 (.bool true) ?_
     simp only [pp]
     refine rl_end hgo <| hKK9 _ _ <| wp_cond_true (by kernel_rfl) <| wp_seq_k fun KK10 hKK10 => rl_begin fun hgK hgo => tk 6 (.slice none 0 0) <| tk 7 (.int .i64 2) ?_
     simp only [pp]
     refine rl_end hgo <| hKK10 _ _ ?_
     refine wp_ret ?_
     try simp only [Exit.then, Exit.inBlock]
     refine bm_ret (v := .tuple #[.slice none 0 0, .int .i64 2]) (res2 rfl (res_tmp (by kernel_rfl)) (res_tmp (by kernel_rfl))) ?_
     exact ⟨rfl, hB⟩
    ·refine tx 18 (.bool false) (by exact ex_bool (c := (lo : Int) < 0) (by kernel_rfl) ⟨fun q => (by cases q), fun q => absurd q (by omega)⟩) <| tk 19 (.bool false) ?_
     simp only [pp]
     refine tx 20 (.int .i64 lo) (by exact ld1 3 _ rfl pl 0 rfl (fun _ => by kernel_rfl) _ (hpl.cell 0)) ?_
     simp only [pp]
     refine tx 21 (.int .i64 (k : Int)) (by exact ld1 3 _ rfl ph 0 rfl (fun _ => by kernel_rfl) _ (hph.cell 0)) ?_
     simp only [pp]
     refine tx 22 (.bool true) (by exact ex_bool (c := (lo : Int) > (k : Int)) (by kernel_rfl) ⟨fun _ => by omega, fun _ => rfl⟩) <| tk 23 (.bool true) ?_
     simp only [pp]
     refine rl_end hgo <| hKK9 _ _ <| wp_cond_true (by kernel_rfl) <| wp_seq_k fun KK11 hKK11 => rl_begin fun hgK hgo => tk 6 (.slice none 0 0) <| tk 7 (.int .i64 2) ?_
     simp only [pp]
     refine rl_end hgo <| hKK11 _ _ ?_
     refine wp_ret ?_
     try simp only [Exit.then, Exit.inBlock]
     refine bm_ret (v := .tuple #[.slice none 0 0, .int .i64 2]) (res2 rfl (res_tmp (by kernel_rfl)) (res_tmp (by kernel_rfl))) ?_
     exact ⟨rfl, hB⟩
theorem Before_out (b : Nat) (l : List UInt8) (n : Int) (w : World) (hr : RopeAt w b l) (h : n < 0 ∨ (l.length : Int) < n) :
    Calls Tryd.prog 43 #[.pointer (some ⟨b, 0, none⟩), .int .i64 n] w fun e w' => e = .returned (.tuple #[.agg #[.int .i64 0, .int .i64 0, .int .i64 0, .int .i64 0, .string ⟨#[]⟩, .string ⟨#[]⟩], .int .i64 2]) ∧ Ltr w w' := by
  have hB := Ltr.refl w
  go_enter Tryd.func43, Tryd.ntmps43
  refine wp_seq_k fun KK1 hKK1 => rl_begin fun hgK hgo => ?_
  refine rl_alloc (some 4) 36 #[.int .i64 0, .int .i64 0, .int .i64 0, .int .i64 0, .string ⟨#[]⟩, .string ⟨#[]⟩] rfl (by kernel_rfl) (fun W => by kernel_rfl) fun rr w2 hL2 hp2 hrr => ?_
  replace hB := hB.later hL2
  replace hr := hr.later hL2
  have hz2 := hL2.size
  have hlt2 := hrr.lt
  try simp only [pp]
  refine tk 5 (.int .i64 0) ?_
  simp only [pp]
  refine rl_end hgo <| hKK1 _ _ <| wp_seq_k fun KK3 hKK3 => wp_seq_k fun KK4 hKK4 => rl_begin fun hgK hgo => tk 13 (.pointer (some ⟨b, 0, none⟩)) <| tk 14 (.int .i64 n) ?_
  simp only [pp]
  refine rl_call (some 15) 77 #[.pointer (some ⟨b, 0, none⟩), .int .i64 n] rfl (by kernel_rfl) (by kernel_rfl) (place_out b l n h _ hr) ?_
  rintro e w5 ⟨rfl, hL5⟩
  refine ⟨_, rfl, ?_⟩
  replace hB := hB.later hL5
  replace hr := hr.later hL5
  replace hrr := hrr.later hL5
  have hz5 := hL5.size
  clear hr
  try simp only [pp]
  refine tk 6 (.int .i64 2) ?_
  simp only [pp]
  refine rl_end hgo <| hKK4 _ _ <| wp_seq_k fun KK6 hKK6 => rl_begin fun hgK hgo => tk 16 (.int .i64 2) ?_
  simp only [pp]
  refine tx 17 (.bool true) (by exact ex_bne (x := 2) (y := 0) (by kernel_rfl) ⟨fun _ => by omega, fun _ => rfl⟩) ?_
  simp only [pp]
  refine rl_end hgo <| hKK6 _ _ <| wp_cond_true (by kernel_rfl) <| wp_seq_k fun KK7 hKK7 => rl_begin fun hgK hgo => tk 18 (.agg #[.int .i64 0, .int .i64 0, .int .i64 0, .int .i64 0, .string ⟨#[]⟩, .string ⟨#[]⟩]) <| tk 19 (.int .i64 2) ?_
  simp only [pp]
  refine rl_store rr #[.int .i64 0, .int .i64 0, .int .i64 0, .int .i64 0, .string ⟨#[]⟩, .string ⟨#[]⟩] rfl rfl (by kernel_rfl) rfl rfl (by kernel_rfl) hrr rfl (by kernel_rfl) fun w8 hU8 hn8 => ?_
  have hz8 := hU8.size
  replace hB := hB.upd hU8 (by omega)
  clear hrr
  have hrr := hn8
  clear hn8
  try simp only [pp]
  refine tk 5 (.int .i64 2) ?_
  simp only [pp]
  refine rl_end hgo <| hKK7 _ _ ?_
  refine wp_ret ?_
  try simp only [Exit.then, Exit.inBlock]
  refine bp_ret (v := .tuple #[.agg #[.int .i64 0, .int .i64 0, .int .i64 0, .int .i64 0, .string ⟨#[]⟩, .string ⟨#[]⟩], .int .i64 2]) (res2 rfl (res_cell (b := rr) (cs := [.int .i64 0, .int .i64 0, .int .i64 0, .int .i64 0, .string ⟨#[]⟩, .string ⟨#[]⟩]) (by kernel_rfl) (fun _ => by kernel_rfl) (by kernel_rfl) hrr) (res_tmp (by kernel_rfl))) ?_
  exact ⟨rfl, hB⟩
theorem Before_in (b : Nat) (l : List UInt8) (n : Nat) (w : World) (hT : Tabs w) (hr : RopeAt w b l) (hn : n ≤ l.length) (hm : l.length ≤ 200000000) :
    Calls Tryd.prog 43 #[.pointer (some ⟨b, 0, none⟩), .int .i64 n] w fun e w' => e = .returned (.tuple #[wv (l.take n), .int .i64 0]) ∧ Ltr w w' := by
  rcases Nat.eq_zero_or_pos n with h | h
  · subst h; exact Before_0 b l w hT hr
  · exact Before_1 b l n w hT hr h hn hm
theorem ex_wne' {o : Oper} {ρ : Operand → Value} {x y : Operand} (t : List UInt8) (ho : o.op = .binOp .neq 36 x y 36) (hx : ρ x = wv t) (hy : ρ y = wv t) (w : World) : (execOp ρ o).run Tryd.prog w = .ok (.value (.bool false)) w := by
  unfold wv at hx hy
  unfold execOp
  simp only [ho, hx, hy]
  go_simp
theorem ex_weq' {o : Oper} {ρ : Operand → Value} {x y : Operand} (t : List UInt8) (ho : o.op = .binOp .eql 36 x y 36) (hx : ρ x = wv t) (hy : ρ y = wv t) (w : World) : (execOp ρ o).run Tryd.prog w = .ok (.value (.bool true)) w := by
  unfold wv at hx hy
  unfold execOp
  simp only [ho, hx, hy]
  go_simp
theorem ex_conv_ownD {o : Oper} {ρ : Operand → Value} (x : Operand) (ho : o.op = .convert 9 41 x) (l : List UInt8) (hx : ρ x = .string (bs l)) (w : World) :
    ∃ v w', (execOp ρ o).run Tryd.prog w = .ok (.value v) w' ∧ Ltr w w' ∧ ∃ A c, v = .slice A l.length c ∧ BytesAt w' A l ∧ l.length ≤ c := by
  obtain ⟨v, w', h1, A, c, h2, h3, h4⟩ := ex_conv_own x ho l hx w
  exact ⟨v, w', h1, h3, A, c, h2, h4.bytes, h4.2.1⟩
theorem holds_in (b : Nat) (t : List UInt8) (lo hi : Nat) (w : World) (hT : Tabs w) (hr : RopeAt w b t) (ht : t.length ≤ 4000000) (h1 : lo ≤ hi) (h2 : hi ≤ t.length) :
    Calls Tryd.prog 19 #[.pointer (some ⟨b, 0, none⟩), .string (bs t), .int .i64 lo, .int .i64 hi] w fun e w' => e = .returned (.bool true) ∧ Ltr w w' := by
  have hB := Ltr.refl w
  go_enter Tryd.func19, Tryd.ntmps19
  have h4 := hT.four
  refine wp_seq_k fun KK1 hKK1 => rl_begin fun hgK hgo => tk 8 (.bool false) ?_
  simp only [pp]
  refine rl_end hgo <| hKK1 _ _ <| wp_seq_k fun KK2 hKK2 => wp_seq_k fun KK3 hKK3 => rl_begin fun hgK hgo => tk 13 (.pointer (some ⟨b, 0, none⟩)) ?_
  simp only [pp]
  refine rl_call (some 14) 45 #[.pointer (some ⟨b, 0, none⟩)] rfl (by kernel_rfl) (by kernel_rfl) (Len_any b t _ hr) ?_
  rintro e w4 ⟨rfl, hL4⟩
  refine ⟨_, rfl, ?_⟩
  replace hT := hT.later hL4
  replace hB := hB.later hL4
  replace hr := hr.later hL4
  have hz4 := hL4.size
  try simp only [pp]
  refine tk 15 (.string (bs t)) ?_
  simp only [pp]
  refine tx 16 (.int .i64 t.length) (by exact ex_len_bs (by kernel_rfl)) ?_
  simp only [pp]
  refine tx 17 (.bool false) (by exact ex_bne (x := t.length) (y := t.length) (by kernel_rfl) ⟨fun q => (by cases q), fun q => absurd q (by omega)⟩) <| tk 18 (.bool false) <| tk 19 (.pointer (some ⟨b, 0, none⟩)) ?_
  simp only [pp]
  refine rl_call (some 20) 33 #[.pointer (some ⟨b, 0, none⟩)] rfl (by kernel_rfl) (by kernel_rfl) (text_any b t _ hr (by omega)) ?_
  rintro e w5 ⟨rfl, hL5⟩
  refine ⟨_, rfl, ?_⟩
  replace hT := hT.later hL5
  replace hB := hB.later hL5
  replace hr := hr.later hL5
  have hz5 := hL5.size
  try simp only [pp]
  refine tk 21 (.string (bs t)) ?_
  simp only [pp]
  refine tx 22 (.bool false) (by exact ex_ne_lit (a := t) (b := t) (by kernel_rfl) rfl) <| tk 23 (.bool false) <| tk 24 (.bool false) <| tk 25 (.pointer (some ⟨b, 0, none⟩)) ?_
  simp only [pp]
  refine rl_call (some 26) 41 #[.pointer (some ⟨b, 0, none⟩)] rfl (by kernel_rfl) (by kernel_rfl) (RWeld_any b t _ hT hr) ?_
  rintro e w6 ⟨rfl, hL6⟩
  refine ⟨_, rfl, ?_⟩
  replace hT := hT.later hL6
  replace hB := hB.later hL6
  replace hr := hr.later hL6
  have hz6 := hL6.size
  try simp only [pp]
  refine tk 27 (.string (bs t)) ?_
  simp only [pp]
  refine rl_new (some 28) rfl (by kernel_rfl) (ex_conv_own _ rfl t rfl _) ?_
  rintro v7 w7 ⟨A5, c5, rfl, hL7, hS5⟩
  replace hT := hT.later hL7
  replace hB := hB.later hL7
  replace hr := hr.later hL7
  have hz7 := hL7.size
  try simp only [pp]
  refine rl_call (some 29) 24 #[.slice A5 t.length c5] rfl (by kernel_rfl) (by kernel_rfl) (Of_ref A5 c5 t _ hS5.bytes hS5.2.1 (by omega)) ?_
  rintro e w8 ⟨rfl, hL8⟩
  refine ⟨_, rfl, ?_⟩
  replace hT := hT.later hL8
  replace hB := hB.later hL8
  replace hr := hr.later hL8
  replace hS5 := hS5.later hL8
  have hz8 := hL8.size
  clear hS5
  try simp only [pp]
  refine tx 30 (.bool false) (by exact ex_wne' t rfl rfl rfl _) <| tk 31 (.bool false) ?_
  simp only [pp]
  refine rl_end hgo <| hKK3 _ _ <| wp_cond_false (by kernel_rfl) <| wp_skip <| hKK2 _ _ <| wp_seq_k fun KK9 hKK9 => rl_begin fun hgK hgo => tk 33 (.pointer (some ⟨b, 0, none⟩)) <| tk 34 (.int .i64 lo) <| tk 35 (.int .i64 hi) ?_
  simp only [pp]
  refine rl_call (some 36) 44 #[.pointer (some ⟨b, 0, none⟩), .int .i64 lo, .int .i64 hi] rfl (by kernel_rfl) (by kernel_rfl) (Bytes_in b t lo hi _ hr h1 h2 (by omega)) ?_
  rintro e w10 ⟨A1, c1, rfl, hL10, hx⟩
  refine ⟨_, rfl, ?_⟩
  replace hT := hT.later hL10
  replace hB := hB.later hL10
  replace hr := hr.later hL10
  have hz10 := hL10.size
  (replace hx := hx.bytes)
  try simp only [pp]
  refine tk 32 (.tuple #[.slice A1 ((t.take hi).drop lo).length c1, .int .i64 0]) <| tk 37 (.slice A1 ((t.take hi).drop lo).length c1) <| tk 38 (.int .i64 0) <| tk 9 (.slice A1 ((t.take hi).drop lo).length c1) <| tk 10 (.int .i64 0) ?_
  simp only [pp]
  refine rl_end hgo <| hKK9 _ _ <| wp_seq_k fun KK11 hKK11 => wp_seq_k fun KK12 hKK12 => rl_begin fun hgK hgo => tk 39 (.string (bs t)) ?_
  simp only [pp]
  refine tx 40 (.int .i64 t.length) (by exact ex_len_bs (by kernel_rfl)) <| tk 41 (.int .i64 lo) <| tk 42 (.int .i64 hi) ?_
  simp only [pp]
  refine rl_call (some 43) 59 #[.int .i64 t.length, .int .i64 lo, .int .i64 hi] rfl (by kernel_rfl) (by kernel_rfl) (Span_true t.length lo hi (by omega) _) ?_
  rintro e w13 ⟨rfl, hL13⟩
  refine ⟨_, rfl, ?_⟩
  replace hT := hT.later hL13
  replace hB := hB.later hL13
  replace hr := hr.later hL13
  replace hx := hx.later hL13
  have hz13 := hL13.size
  try simp only [pp]
  refine tk 44 (.bool false) ?_
  simp only [pp]
  refine rl_end hgo <| hKK12 _ _ <| wp_cond_false (by kernel_rfl) <| wp_seq_k fun KK14 hKK14 => ?_
  refine rm_begin (fun W => Ltr w13 W) (by kernel_rfl) (by exact bl_drew (bl_refl _)) fun K15 hgo w15 hE hS15 => ?_
  have hv15 : Ltr w13 w15 := by rw [hE]; exact bl_drew (bl_refl _)
  have hz15 := hv15.size
  clear hE hS15
  refine mk 0 52 (.int .i64 0) ?_
  try simp only [pp]
  refine mx 1 53 (.bool false) rfl (fun W hW => by (exact ex_bne (x := 0) (y := 0) (by kernel_rfl) ⟨fun q => (by cases q), fun q => absurd q (by omega)⟩)) <| mk 2 54 (.bool false) <| mk 3 55 (.slice A1 ((t.take hi).drop lo).length c1) ?_
  try simp only [pp]
  refine mx 4 56 (.string (bs ((t.take hi).drop lo))) rfl (fun W hW => by (exact ex_conv_str _ rfl A1 c1 ((t.take hi).drop lo) rfl (hx.later hW))) <| mk 5 57 (.string (bs t)) <| mk 6 58 (.int .i64 lo) <| mk 7 59 (.int .i64 hi) ?_
  try simp only [pp]
  refine mx 8 60 (.string (bs ((t.take hi).drop lo))) rfl (fun W hW => by (exact ex_str_cut t lo hi rfl rfl (.inl rfl) (.inl rfl) (by kernel_rfl) h1 h2 (by omega) _)) ?_
  try simp only [pp]
  refine mx 9 61 (.bool false) rfl (fun W hW => by (exact ex_ne_lit (a := (t.take hi).drop lo) (b := (t.take hi).drop lo) (by kernel_rfl) rfl)) <| mk 10 62 (.bool false) ?_
  try simp only [pp]
  refine rm_done (by kernel_rfl) (fun w16 hL16 hS16 => hgo.out _ _ ?_) _
  clear hgo K15
  replace hT := hT.later (show Ltr w13 _ from hS16)
  replace hB := hB.later (show Ltr w13 _ from hS16)
  replace hr := hr.later (show Ltr w13 _ from hS16)
  replace hx := hx.later (show Ltr w13 _ from hS16)
  have hz16 := (show Ltr w13 _ from hS16).size
  have hy16 := hL16.size
  refine hKK14 _ _ <| wp_cond_false (by kernel_rfl) <| wp_skip <| hKK11 _ _ <| wp_seq_k fun KK17 hKK17 => rl_begin fun hgK hgo => tk 64 (.pointer (some ⟨b, 0, none⟩)) <| tk 65 (.int .i64 lo) ?_
  simp only [pp]
  refine rl_call (some 66) 43 #[.pointer (some ⟨b, 0, none⟩), .int .i64 lo] rfl (by kernel_rfl) (by kernel_rfl) (Before_in b t lo _ hT hr (by omega) (by omega)) ?_
  rintro e w18 ⟨rfl, hL18⟩
  refine ⟨_, rfl, ?_⟩
  replace hT := hT.later hL18
  replace hB := hB.later hL18
  replace hr := hr.later hL18
  replace hx := hx.later hL18
  have hz18 := hL18.size
  clear hr
  clear hT
  try simp only [pp]
  refine tk 63 (.tuple #[.agg #[.int .i64 (t.take lo).length, .int .i64 (runesN (t.take lo)), .int .i64 (unitsN (t.take lo)), .int .i64 (endsN (t.take lo)), .string (bs (headOf (t.take lo))), .string (bs (tailOf (t.take lo)))], .int .i64 0]) <| tk 67 (.agg #[.int .i64 (t.take lo).length, .int .i64 (runesN (t.take lo)), .int .i64 (unitsN (t.take lo)), .int .i64 (endsN (t.take lo)), .string (bs (headOf (t.take lo))), .string (bs (tailOf (t.take lo)))]) <| tk 68 (.int .i64 0) ?_
  simp only [pp]
  refine rl_alloc (some 11) 36 #[.int .i64 0, .int .i64 0, .int .i64 0, .int .i64 0, .string ⟨#[]⟩, .string ⟨#[]⟩] rfl (by kernel_rfl) (fun W => by kernel_rfl) fun ww w19 hL19 hp19 hww => ?_
  replace hB := hB.later hL19
  replace hx := hx.later hL19
  have hz19 := hL19.size
  have hlt19 := hww.lt
  try simp only [pp]
  refine rl_store ww #[.int .i64 (t.take lo).length, .int .i64 (runesN (t.take lo)), .int .i64 (unitsN (t.take lo)), .int .i64 (endsN (t.take lo)), .string (bs (headOf (t.take lo))), .string (bs (tailOf (t.take lo)))] rfl rfl (by kernel_rfl) rfl rfl (by kernel_rfl) hww rfl (by kernel_rfl) fun w20 hU20 hn20 => ?_
  have hz20 := hU20.size
  clear hx
  replace hB := hB.upd hU20 (by omega)
  clear hww
  have hww := hn20
  clear hn20
  try simp only [pp]
  refine tk 12 (.int .i64 0) ?_
  simp only [pp]
  refine rl_end hgo <| hKK17 _ _ <| wp_seq_k fun KK21 hKK21 => wp_seq_k fun KK22 hKK22 => rl_begin fun hgK hgo => tk 69 (.int .i64 lo) ?_
  simp only [pp]
  refine tx 70 (.bool false) (by exact ex_bool (c := (lo : Int) < 0) (by kernel_rfl) ⟨fun q => (by cases q), fun q => absurd q (by omega)⟩) <| tk 71 (.bool false) <| tk 72 (.int .i64 lo) <| tk 73 (.string (bs t)) ?_
  simp only [pp]
  refine tx 74 (.int .i64 t.length) (by exact ex_len_bs (by kernel_rfl)) ?_
  simp only [pp]
  refine tx 75 (.bool false) (by exact ex_bool (c := (lo : Int) > t.length) (by kernel_rfl) ⟨fun q => (by cases q), fun q => absurd q (by omega)⟩) <| tk 76 (.bool false) ?_
  simp only [pp]
  refine rl_end hgo <| hKK22 _ _ <| wp_cond_false (by kernel_rfl) <| wp_skip <| hKK21 _ _ <| wp_seq_k fun KK23 hKK23 => ?_
  refine rm_begin (fun W => Ltr w20 W) (by kernel_rfl) (by exact bl_drew (bl_refl _)) fun K24 hgo w24 hE hS24 => ?_
  have hv24 : Ltr w20 w24 := by rw [hE]; exact bl_drew (bl_refl _)
  have hz24 := hv24.size
  clear hE hS24
  refine mk 0 84 (.int .i64 0) ?_
  try simp only [pp]
  refine mx 1 85 (.bool true) rfl (fun W hW => by (exact ex_beq (x := 0) (y := 0) (by kernel_rfl) ⟨fun _ => by omega, fun _ => rfl⟩)) <| mk 2 86 (.bool true) ?_
  try simp only [pp]
  refine mx 3 87 (.agg #[.int .i64 (t.take lo).length, .int .i64 (runesN (t.take lo)), .int .i64 (unitsN (t.take lo)), .int .i64 (endsN (t.take lo)), .string (bs (headOf (t.take lo))), .string (bs (tailOf (t.take lo)))]) rfl (fun W hW => by (exact ldN 36 _ rfl ww 0 rfl (fun _ => by kernel_rfl) [] [.int .i64 (t.take lo).length, .int .i64 (runesN (t.take lo)), .int .i64 (unitsN (t.take lo)), .int .i64 (endsN (t.take lo)), .string (bs (headOf (t.take lo))), .string (bs (tailOf (t.take lo)))] [] (by kernel_rfl) (hww.later hW) rfl rfl)) <| mk 4 88 (.string (bs t)) <| mk 5 89 (.int .i64 lo) ?_
  try simp only [pp]
  refine mx 6 90 (.string (bs (t.take lo))) rfl (fun W hW => by (exact ex_str_take t lo rfl rfl rfl (by kernel_rfl) (by omega) (by omega) _)) ?_
  try simp only [pp]
  refine rm_pick1 (i := 7) (by kernel_rfl) ?_
  refine rm_new (some 91) _ (oi := { dst := some 91, op := Go.Op.convert 9 41 (Go.Operand.tmp 90), type := 41, pos := "law.go:152", after := #[{ on := 6, ground := Go.Ground.data }, { on := 2, ground := Go.Ground.guard }], guard := some (2, true) }) rfl rfl (by kernel_rfl) (fun W hlz hW => ex_conv_ownD _ rfl (t.take lo) rfl W) (fun _ _ h k => Ltr.trans h k) ?_
  rintro v25 w25 hL25 ⟨A7, c7, rfl, hS7, hl7⟩ hS25
  have hz25 := hL25.size
  try simp only [pp]
  refine rm_pick1 (i := 8) (by kernel_rfl) ?_
  refine rm_callx (some 92) 24 #[.slice A7 (t.take lo).length c7] (oi := { dst := some 92, op := Go.Op.call { callee := Go.Callee.value (Go.Operand.func 24), args := #[Go.Operand.tmp 91], argTypes := #[41] }, type := 36, pos := "law.go:152", after := #[{ on := 7, ground := Go.Ground.data }, { on := 2, ground := Go.Ground.chain }, { on := 2, ground := Go.Ground.guard }], guard := some (2, true) }) rfl rfl (by kernel_rfl) (fun W hW => by kernel_rfl) (fun W hlz hW => Of_ref A7 c7 (t.take lo) W (hS7.later hlz) hl7 (by rw [List.length_take]; omega)) (by rintro W e w' ⟨rfl, hL26⟩; exact hL26) (fun _ _ h k => Ltr.trans h k) ?_
  rintro q26 e w26 hq26 hQ26 ⟨rfl, hL26⟩ hS26
  refine ⟨_, rfl, ?_⟩
  replace hS7 := (hS7.later hq26).later hL26
  have hz26 := hL26.size
  have hy26 := hq26.size
  try simp only [pp]
  refine mx 9 93 (.bool true) rfl (fun W hW => by (exact ex_weq' (t.take lo) rfl rfl rfl _)) <| mk 10 94 (.bool true) <| mk 11 8 (.bool true) ?_
  try simp only [pp]
  refine rm_done (by kernel_rfl) (fun w27 hL27 hS27 => hgo.out _ _ ?_) _
  clear hgo K24
  replace hS7 := hS7.later hL27
  replace hB := hB.later (show Ltr w20 _ from hS27)
  replace hww := hww.later (show Ltr w20 _ from hS27)
  have hz27 := (show Ltr w20 _ from hS27).size
  have hy27 := hL27.size
  refine hKK23 _ _ ?_
  refine wp_ret ?_
  try simp only [Exit.then, Exit.inBlock]
  refine bp_ret (v := .bool true) (res1 rfl (res_tmp (by kernel_rfl))) ?_
  exact ⟨rfl, hB⟩
theorem holds_mid (b : Nat) (t : List UInt8) (lo : Nat) (hi : Int) (w : World) (hT : Tabs w) (hr : RopeAt w b t) (ht : t.length ≤ 4000000) (h1 : lo ≤ t.length) (h2 : ¬ (0 ≤ (lo : Int) ∧ (lo : Int) ≤ hi ∧ hi ≤ t.length)) :
    Calls Tryd.prog 19 #[.pointer (some ⟨b, 0, none⟩), .string (bs t), .int .i64 lo, .int .i64 hi] w fun e w' => e = .returned (.bool true) ∧ Ltr w w' := by
  have hB := Ltr.refl w
  go_enter Tryd.func19, Tryd.ntmps19
  have h4 := hT.four
  refine wp_seq_k fun KK1 hKK1 => rl_begin fun hgK hgo => tk 8 (.bool false) ?_
  simp only [pp]
  refine rl_end hgo <| hKK1 _ _ <| wp_seq_k fun KK2 hKK2 => wp_seq_k fun KK3 hKK3 => rl_begin fun hgK hgo => tk 13 (.pointer (some ⟨b, 0, none⟩)) ?_
  simp only [pp]
  refine rl_call (some 14) 45 #[.pointer (some ⟨b, 0, none⟩)] rfl (by kernel_rfl) (by kernel_rfl) (Len_any b t _ hr) ?_
  rintro e w4 ⟨rfl, hL4⟩
  refine ⟨_, rfl, ?_⟩
  replace hT := hT.later hL4
  replace hB := hB.later hL4
  replace hr := hr.later hL4
  have hz4 := hL4.size
  try simp only [pp]
  refine tk 15 (.string (bs t)) ?_
  simp only [pp]
  refine tx 16 (.int .i64 t.length) (by exact ex_len_bs (by kernel_rfl)) ?_
  simp only [pp]
  refine tx 17 (.bool false) (by exact ex_bne (x := t.length) (y := t.length) (by kernel_rfl) ⟨fun q => (by cases q), fun q => absurd q (by omega)⟩) <| tk 18 (.bool false) <| tk 19 (.pointer (some ⟨b, 0, none⟩)) ?_
  simp only [pp]
  refine rl_call (some 20) 33 #[.pointer (some ⟨b, 0, none⟩)] rfl (by kernel_rfl) (by kernel_rfl) (text_any b t _ hr (by omega)) ?_
  rintro e w5 ⟨rfl, hL5⟩
  refine ⟨_, rfl, ?_⟩
  replace hT := hT.later hL5
  replace hB := hB.later hL5
  replace hr := hr.later hL5
  have hz5 := hL5.size
  try simp only [pp]
  refine tk 21 (.string (bs t)) ?_
  simp only [pp]
  refine tx 22 (.bool false) (by exact ex_ne_lit (a := t) (b := t) (by kernel_rfl) rfl) <| tk 23 (.bool false) <| tk 24 (.bool false) <| tk 25 (.pointer (some ⟨b, 0, none⟩)) ?_
  simp only [pp]
  refine rl_call (some 26) 41 #[.pointer (some ⟨b, 0, none⟩)] rfl (by kernel_rfl) (by kernel_rfl) (RWeld_any b t _ hT hr) ?_
  rintro e w6 ⟨rfl, hL6⟩
  refine ⟨_, rfl, ?_⟩
  replace hT := hT.later hL6
  replace hB := hB.later hL6
  replace hr := hr.later hL6
  have hz6 := hL6.size
  try simp only [pp]
  refine tk 27 (.string (bs t)) ?_
  simp only [pp]
  refine rl_new (some 28) rfl (by kernel_rfl) (ex_conv_own _ rfl t rfl _) ?_
  rintro v7 w7 ⟨A5, c5, rfl, hL7, hS5⟩
  replace hT := hT.later hL7
  replace hB := hB.later hL7
  replace hr := hr.later hL7
  have hz7 := hL7.size
  try simp only [pp]
  refine rl_call (some 29) 24 #[.slice A5 t.length c5] rfl (by kernel_rfl) (by kernel_rfl) (Of_ref A5 c5 t _ hS5.bytes hS5.2.1 (by omega)) ?_
  rintro e w8 ⟨rfl, hL8⟩
  refine ⟨_, rfl, ?_⟩
  replace hT := hT.later hL8
  replace hB := hB.later hL8
  replace hr := hr.later hL8
  replace hS5 := hS5.later hL8
  have hz8 := hL8.size
  clear hS5
  try simp only [pp]
  refine tx 30 (.bool false) (by exact ex_wne' t rfl rfl rfl _) <| tk 31 (.bool false) ?_
  simp only [pp]
  refine rl_end hgo <| hKK3 _ _ <| wp_cond_false (by kernel_rfl) <| wp_skip <| hKK2 _ _ <| wp_seq_k fun KK9 hKK9 => rl_begin fun hgK hgo => tk 33 (.pointer (some ⟨b, 0, none⟩)) <| tk 34 (.int .i64 lo) <| tk 35 (.int .i64 hi) ?_
  simp only [pp]
  refine rl_call (some 36) 44 #[.pointer (some ⟨b, 0, none⟩), .int .i64 lo, .int .i64 hi] rfl (by kernel_rfl) (by kernel_rfl) (Bytes_out b t lo hi _ hr h2) ?_
  rintro e w10 ⟨rfl, hL10⟩
  refine ⟨_, rfl, ?_⟩
  replace hT := hT.later hL10
  replace hB := hB.later hL10
  replace hr := hr.later hL10
  have hz10 := hL10.size
  try simp only [pp]
  refine tk 32 (.tuple #[.slice none 0 0, .int .i64 2]) <| tk 37 (.slice none 0 0) <| tk 38 (.int .i64 2) <| tk 9 (.slice none 0 0) <| tk 10 (.int .i64 2) ?_
  simp only [pp]
  refine rl_end hgo <| hKK9 _ _ <| wp_seq_k fun KK11 hKK11 => wp_seq_k fun KK12 hKK12 => rl_begin fun hgK hgo => tk 39 (.string (bs t)) ?_
  simp only [pp]
  refine tx 40 (.int .i64 t.length) (by exact ex_len_bs (by kernel_rfl)) <| tk 41 (.int .i64 lo) <| tk 42 (.int .i64 hi) ?_
  simp only [pp]
  refine rl_call (some 43) 59 #[.int .i64 t.length, .int .i64 lo, .int .i64 hi] rfl (by kernel_rfl) (by kernel_rfl) (Span_false t.length lo hi h2 _) ?_
  rintro e w13 ⟨rfl, hL13⟩
  refine ⟨_, rfl, ?_⟩
  replace hT := hT.later hL13
  replace hB := hB.later hL13
  replace hr := hr.later hL13
  have hz13 := hL13.size
  try simp only [pp]
  refine tk 44 (.bool true) ?_
  simp only [pp]
  refine rl_end hgo <| hKK12 _ _ <| wp_cond_true (by kernel_rfl) <| wp_seq_k fun KK14 hKK14 => rl_begin fun hgK hgo => tk 45 (.int .i64 2) ?_
  simp only [pp]
  refine tx 46 (.bool false) (by exact ex_bne (x := 2) (y := 2) (by kernel_rfl) ⟨fun q => (by cases q), fun q => absurd q (by omega)⟩) <| tk 47 (.bool false) <| tk 48 (.slice none 0 0) <| tk 49 (.int .i64 0) ?_
  simp only [pp]
  refine tx 50 (.bool false) (by exact ex_bne (x := 0) (y := 0) (by kernel_rfl) ⟨fun q => (by cases q), fun q => absurd q (by omega)⟩) <| tk 51 (.bool false) ?_
  simp only [pp]
  refine rl_end hgo <| hKK14 _ _ <| wp_cond_false (by kernel_rfl) <| wp_skip <| hKK11 _ _ <| wp_seq_k fun KK15 hKK15 => rl_begin fun hgK hgo => tk 64 (.pointer (some ⟨b, 0, none⟩)) <| tk 65 (.int .i64 lo) ?_
  simp only [pp]
  refine rl_call (some 66) 43 #[.pointer (some ⟨b, 0, none⟩), .int .i64 lo] rfl (by kernel_rfl) (by kernel_rfl) (Before_in b t lo _ hT hr (by omega) (by omega)) ?_
  rintro e w16 ⟨rfl, hL16⟩
  refine ⟨_, rfl, ?_⟩
  replace hT := hT.later hL16
  replace hB := hB.later hL16
  replace hr := hr.later hL16
  have hz16 := hL16.size
  clear hr
  clear hT
  try simp only [pp]
  refine tk 63 (.tuple #[.agg #[.int .i64 (t.take lo).length, .int .i64 (runesN (t.take lo)), .int .i64 (unitsN (t.take lo)), .int .i64 (endsN (t.take lo)), .string (bs (headOf (t.take lo))), .string (bs (tailOf (t.take lo)))], .int .i64 0]) <| tk 67 (.agg #[.int .i64 (t.take lo).length, .int .i64 (runesN (t.take lo)), .int .i64 (unitsN (t.take lo)), .int .i64 (endsN (t.take lo)), .string (bs (headOf (t.take lo))), .string (bs (tailOf (t.take lo)))]) <| tk 68 (.int .i64 0) ?_
  simp only [pp]
  refine rl_alloc (some 11) 36 #[.int .i64 0, .int .i64 0, .int .i64 0, .int .i64 0, .string ⟨#[]⟩, .string ⟨#[]⟩] rfl (by kernel_rfl) (fun W => by kernel_rfl) fun ww w17 hL17 hp17 hww => ?_
  replace hB := hB.later hL17
  have hz17 := hL17.size
  have hlt17 := hww.lt
  try simp only [pp]
  refine rl_store ww #[.int .i64 (t.take lo).length, .int .i64 (runesN (t.take lo)), .int .i64 (unitsN (t.take lo)), .int .i64 (endsN (t.take lo)), .string (bs (headOf (t.take lo))), .string (bs (tailOf (t.take lo)))] rfl rfl (by kernel_rfl) rfl rfl (by kernel_rfl) hww rfl (by kernel_rfl) fun w18 hU18 hn18 => ?_
  have hz18 := hU18.size
  replace hB := hB.upd hU18 (by omega)
  clear hww
  have hww := hn18
  clear hn18
  try simp only [pp]
  refine tk 12 (.int .i64 0) ?_
  simp only [pp]
  refine rl_end hgo <| hKK15 _ _ <| wp_seq_k fun KK19 hKK19 => wp_seq_k fun KK20 hKK20 => rl_begin fun hgK hgo => tk 69 (.int .i64 lo) ?_
  simp only [pp]
  refine tx 70 (.bool false) (by exact ex_bool (c := (lo : Int) < 0) (by kernel_rfl) ⟨fun q => (by cases q), fun q => absurd q (by omega)⟩) <| tk 71 (.bool false) <| tk 72 (.int .i64 lo) <| tk 73 (.string (bs t)) ?_
  simp only [pp]
  refine tx 74 (.int .i64 t.length) (by exact ex_len_bs (by kernel_rfl)) ?_
  simp only [pp]
  refine tx 75 (.bool false) (by exact ex_bool (c := (lo : Int) > t.length) (by kernel_rfl) ⟨fun q => (by cases q), fun q => absurd q (by omega)⟩) <| tk 76 (.bool false) ?_
  simp only [pp]
  refine rl_end hgo <| hKK20 _ _ <| wp_cond_false (by kernel_rfl) <| wp_skip <| hKK19 _ _ <| wp_seq_k fun KK21 hKK21 => ?_
  refine rm_begin (fun W => Ltr w18 W) (by kernel_rfl) (by exact bl_drew (bl_refl _)) fun K22 hgo w22 hE hS22 => ?_
  have hv22 : Ltr w18 w22 := by rw [hE]; exact bl_drew (bl_refl _)
  have hz22 := hv22.size
  clear hE hS22
  refine mk 0 84 (.int .i64 0) ?_
  try simp only [pp]
  refine mx 1 85 (.bool true) rfl (fun W hW => by (exact ex_beq (x := 0) (y := 0) (by kernel_rfl) ⟨fun _ => by omega, fun _ => rfl⟩)) <| mk 2 86 (.bool true) ?_
  try simp only [pp]
  refine mx 3 87 (.agg #[.int .i64 (t.take lo).length, .int .i64 (runesN (t.take lo)), .int .i64 (unitsN (t.take lo)), .int .i64 (endsN (t.take lo)), .string (bs (headOf (t.take lo))), .string (bs (tailOf (t.take lo)))]) rfl (fun W hW => by (exact ldN 36 _ rfl ww 0 rfl (fun _ => by kernel_rfl) [] [.int .i64 (t.take lo).length, .int .i64 (runesN (t.take lo)), .int .i64 (unitsN (t.take lo)), .int .i64 (endsN (t.take lo)), .string (bs (headOf (t.take lo))), .string (bs (tailOf (t.take lo)))] [] (by kernel_rfl) (hww.later hW) rfl rfl)) <| mk 4 88 (.string (bs t)) <| mk 5 89 (.int .i64 lo) ?_
  try simp only [pp]
  refine mx 6 90 (.string (bs (t.take lo))) rfl (fun W hW => by (exact ex_str_take t lo rfl rfl rfl (by kernel_rfl) (by omega) (by omega) _)) ?_
  try simp only [pp]
  refine rm_pick1 (i := 7) (by kernel_rfl) ?_
  refine rm_new (some 91) _ (oi := { dst := some 91, op := Go.Op.convert 9 41 (Go.Operand.tmp 90), type := 41, pos := "law.go:152", after := #[{ on := 6, ground := Go.Ground.data }, { on := 2, ground := Go.Ground.guard }], guard := some (2, true) }) rfl rfl (by kernel_rfl) (fun W hlz hW => ex_conv_ownD _ rfl (t.take lo) rfl W) (fun _ _ h k => Ltr.trans h k) ?_
  rintro v23 w23 hL23 ⟨A7, c7, rfl, hS7, hl7⟩ hS23
  have hz23 := hL23.size
  try simp only [pp]
  refine rm_pick1 (i := 8) (by kernel_rfl) ?_
  refine rm_callx (some 92) 24 #[.slice A7 (t.take lo).length c7] (oi := { dst := some 92, op := Go.Op.call { callee := Go.Callee.value (Go.Operand.func 24), args := #[Go.Operand.tmp 91], argTypes := #[41] }, type := 36, pos := "law.go:152", after := #[{ on := 7, ground := Go.Ground.data }, { on := 2, ground := Go.Ground.chain }, { on := 2, ground := Go.Ground.guard }], guard := some (2, true) }) rfl rfl (by kernel_rfl) (fun W hW => by kernel_rfl) (fun W hlz hW => Of_ref A7 c7 (t.take lo) W (hS7.later hlz) hl7 (by rw [List.length_take]; omega)) (by rintro W e w' ⟨rfl, hL24⟩; exact hL24) (fun _ _ h k => Ltr.trans h k) ?_
  rintro q24 e w24 hq24 hQ24 ⟨rfl, hL24⟩ hS24
  refine ⟨_, rfl, ?_⟩
  replace hS7 := (hS7.later hq24).later hL24
  have hz24 := hL24.size
  have hy24 := hq24.size
  try simp only [pp]
  refine mx 9 93 (.bool true) rfl (fun W hW => by (exact ex_weq' (t.take lo) rfl rfl rfl _)) <| mk 10 94 (.bool true) <| mk 11 8 (.bool true) ?_
  try simp only [pp]
  refine rm_done (by kernel_rfl) (fun w25 hL25 hS25 => hgo.out _ _ ?_) _
  clear hgo K22
  replace hS7 := hS7.later hL25
  replace hB := hB.later (show Ltr w18 _ from hS25)
  replace hww := hww.later (show Ltr w18 _ from hS25)
  have hz25 := (show Ltr w18 _ from hS25).size
  have hy25 := hL25.size
  refine hKK21 _ _ ?_
  refine wp_ret ?_
  try simp only [Exit.then, Exit.inBlock]
  refine bp_ret (v := .bool true) (res1 rfl (res_tmp (by kernel_rfl))) ?_
  exact ⟨rfl, hB⟩
theorem holds_out (b : Nat) (t : List UInt8) (lo hi : Int) (w : World) (hT : Tabs w) (hr : RopeAt w b t) (ht : t.length ≤ 4000000) (h1 : lo < 0 ∨ (t.length : Int) < lo) :
    Calls Tryd.prog 19 #[.pointer (some ⟨b, 0, none⟩), .string (bs t), .int .i64 lo, .int .i64 hi] w fun e w' => e = .returned (.bool true) ∧ Ltr w w' := by
  have hB := Ltr.refl w
  go_enter Tryd.func19, Tryd.ntmps19
  have h4 := hT.four
  refine wp_seq_k fun KK1 hKK1 => rl_begin fun hgK hgo => tk 8 (.bool false) ?_
  simp only [pp]
  refine rl_end hgo <| hKK1 _ _ <| wp_seq_k fun KK2 hKK2 => wp_seq_k fun KK3 hKK3 => rl_begin fun hgK hgo => tk 13 (.pointer (some ⟨b, 0, none⟩)) ?_
  simp only [pp]
  refine rl_call (some 14) 45 #[.pointer (some ⟨b, 0, none⟩)] rfl (by kernel_rfl) (by kernel_rfl) (Len_any b t _ hr) ?_
  rintro e w4 ⟨rfl, hL4⟩
  refine ⟨_, rfl, ?_⟩
  replace hT := hT.later hL4
  replace hB := hB.later hL4
  replace hr := hr.later hL4
  have hz4 := hL4.size
  try simp only [pp]
  refine tk 15 (.string (bs t)) ?_
  simp only [pp]
  refine tx 16 (.int .i64 t.length) (by exact ex_len_bs (by kernel_rfl)) ?_
  simp only [pp]
  refine tx 17 (.bool false) (by exact ex_bne (x := t.length) (y := t.length) (by kernel_rfl) ⟨fun q => (by cases q), fun q => absurd q (by omega)⟩) <| tk 18 (.bool false) <| tk 19 (.pointer (some ⟨b, 0, none⟩)) ?_
  simp only [pp]
  refine rl_call (some 20) 33 #[.pointer (some ⟨b, 0, none⟩)] rfl (by kernel_rfl) (by kernel_rfl) (text_any b t _ hr (by omega)) ?_
  rintro e w5 ⟨rfl, hL5⟩
  refine ⟨_, rfl, ?_⟩
  replace hT := hT.later hL5
  replace hB := hB.later hL5
  replace hr := hr.later hL5
  have hz5 := hL5.size
  try simp only [pp]
  refine tk 21 (.string (bs t)) ?_
  simp only [pp]
  refine tx 22 (.bool false) (by exact ex_ne_lit (a := t) (b := t) (by kernel_rfl) rfl) <| tk 23 (.bool false) <| tk 24 (.bool false) <| tk 25 (.pointer (some ⟨b, 0, none⟩)) ?_
  simp only [pp]
  refine rl_call (some 26) 41 #[.pointer (some ⟨b, 0, none⟩)] rfl (by kernel_rfl) (by kernel_rfl) (RWeld_any b t _ hT hr) ?_
  rintro e w6 ⟨rfl, hL6⟩
  refine ⟨_, rfl, ?_⟩
  replace hT := hT.later hL6
  replace hB := hB.later hL6
  replace hr := hr.later hL6
  have hz6 := hL6.size
  try simp only [pp]
  refine tk 27 (.string (bs t)) ?_
  simp only [pp]
  refine rl_new (some 28) rfl (by kernel_rfl) (ex_conv_own _ rfl t rfl _) ?_
  rintro v7 w7 ⟨A5, c5, rfl, hL7, hS5⟩
  replace hT := hT.later hL7
  replace hB := hB.later hL7
  replace hr := hr.later hL7
  have hz7 := hL7.size
  try simp only [pp]
  refine rl_call (some 29) 24 #[.slice A5 t.length c5] rfl (by kernel_rfl) (by kernel_rfl) (Of_ref A5 c5 t _ hS5.bytes hS5.2.1 (by omega)) ?_
  rintro e w8 ⟨rfl, hL8⟩
  refine ⟨_, rfl, ?_⟩
  replace hT := hT.later hL8
  replace hB := hB.later hL8
  replace hr := hr.later hL8
  replace hS5 := hS5.later hL8
  have hz8 := hL8.size
  clear hS5
  try simp only [pp]
  refine tx 30 (.bool false) (by exact ex_wne' t rfl rfl rfl _) <| tk 31 (.bool false) ?_
  simp only [pp]
  refine rl_end hgo <| hKK3 _ _ <| wp_cond_false (by kernel_rfl) <| wp_skip <| hKK2 _ _ <| wp_seq_k fun KK9 hKK9 => rl_begin fun hgK hgo => tk 33 (.pointer (some ⟨b, 0, none⟩)) <| tk 34 (.int .i64 lo) <| tk 35 (.int .i64 hi) ?_
  simp only [pp]
  refine rl_call (some 36) 44 #[.pointer (some ⟨b, 0, none⟩), .int .i64 lo, .int .i64 hi] rfl (by kernel_rfl) (by kernel_rfl) (Bytes_out b t lo hi _ hr (by omega)) ?_
  rintro e w10 ⟨rfl, hL10⟩
  refine ⟨_, rfl, ?_⟩
  replace hT := hT.later hL10
  replace hB := hB.later hL10
  replace hr := hr.later hL10
  have hz10 := hL10.size
  try simp only [pp]
  refine tk 32 (.tuple #[.slice none 0 0, .int .i64 2]) <| tk 37 (.slice none 0 0) <| tk 38 (.int .i64 2) <| tk 9 (.slice none 0 0) <| tk 10 (.int .i64 2) ?_
  simp only [pp]
  refine rl_end hgo <| hKK9 _ _ <| wp_seq_k fun KK11 hKK11 => wp_seq_k fun KK12 hKK12 => rl_begin fun hgK hgo => tk 39 (.string (bs t)) ?_
  simp only [pp]
  refine tx 40 (.int .i64 t.length) (by exact ex_len_bs (by kernel_rfl)) <| tk 41 (.int .i64 lo) <| tk 42 (.int .i64 hi) ?_
  simp only [pp]
  refine rl_call (some 43) 59 #[.int .i64 t.length, .int .i64 lo, .int .i64 hi] rfl (by kernel_rfl) (by kernel_rfl) (Span_false t.length lo hi (by omega) _) ?_
  rintro e w13 ⟨rfl, hL13⟩
  refine ⟨_, rfl, ?_⟩
  replace hT := hT.later hL13
  replace hB := hB.later hL13
  replace hr := hr.later hL13
  have hz13 := hL13.size
  try simp only [pp]
  refine tk 44 (.bool true) ?_
  simp only [pp]
  refine rl_end hgo <| hKK12 _ _ <| wp_cond_true (by kernel_rfl) <| wp_seq_k fun KK14 hKK14 => rl_begin fun hgK hgo => tk 45 (.int .i64 2) ?_
  simp only [pp]
  refine tx 46 (.bool false) (by exact ex_bne (x := 2) (y := 2) (by kernel_rfl) ⟨fun q => (by cases q), fun q => absurd q (by omega)⟩) <| tk 47 (.bool false) <| tk 48 (.slice none 0 0) <| tk 49 (.int .i64 0) ?_
  simp only [pp]
  refine tx 50 (.bool false) (by exact ex_bne (x := 0) (y := 0) (by kernel_rfl) ⟨fun q => (by cases q), fun q => absurd q (by omega)⟩) <| tk 51 (.bool false) ?_
  simp only [pp]
  refine rl_end hgo <| hKK14 _ _ <| wp_cond_false (by kernel_rfl) <| wp_skip <| hKK11 _ _ <| wp_seq_k fun KK15 hKK15 => rl_begin fun hgK hgo => tk 64 (.pointer (some ⟨b, 0, none⟩)) <| tk 65 (.int .i64 lo) ?_
  simp only [pp]
  refine rl_call (some 66) 43 #[.pointer (some ⟨b, 0, none⟩), .int .i64 lo] rfl (by kernel_rfl) (by kernel_rfl) (Before_out b t lo _ hr h1) ?_
  rintro e w16 ⟨rfl, hL16⟩
  refine ⟨_, rfl, ?_⟩
  replace hT := hT.later hL16
  replace hB := hB.later hL16
  replace hr := hr.later hL16
  have hz16 := hL16.size
  clear hr
  clear hT
  try simp only [pp]
  refine tk 63 (.tuple #[.agg #[.int .i64 0, .int .i64 0, .int .i64 0, .int .i64 0, .string ⟨#[]⟩, .string ⟨#[]⟩], .int .i64 2]) <| tk 67 (.agg #[.int .i64 0, .int .i64 0, .int .i64 0, .int .i64 0, .string ⟨#[]⟩, .string ⟨#[]⟩]) <| tk 68 (.int .i64 2) ?_
  simp only [pp]
  refine rl_alloc (some 11) 36 #[.int .i64 0, .int .i64 0, .int .i64 0, .int .i64 0, .string ⟨#[]⟩, .string ⟨#[]⟩] rfl (by kernel_rfl) (fun W => by kernel_rfl) fun ww w17 hL17 hp17 hww => ?_
  replace hB := hB.later hL17
  have hz17 := hL17.size
  have hlt17 := hww.lt
  try simp only [pp]
  refine rl_store ww #[.int .i64 0, .int .i64 0, .int .i64 0, .int .i64 0, .string ⟨#[]⟩, .string ⟨#[]⟩] rfl rfl (by kernel_rfl) rfl rfl (by kernel_rfl) hww rfl (by kernel_rfl) fun w18 hU18 hn18 => ?_
  have hz18 := hU18.size
  replace hB := hB.upd hU18 (by omega)
  clear hww
  have hww := hn18
  clear hn18
  try simp only [pp]
  refine tk 12 (.int .i64 2) ?_
  simp only [pp]
  refine rl_end hgo <| hKK15 _ _ <| wp_seq_k fun KK19 hKK19 => wp_seq_k fun KK20 hKK20 => rl_begin fun hgK hgo => tk 69 (.int .i64 lo) ?_
  simp only [pp]
  by_cases h3 : lo < 0
  ·refine tx 70 (.bool true) (by exact ex_bool (c := (lo : Int) < 0) (by kernel_rfl) ⟨fun _ => by omega, fun _ => rfl⟩) <| tk 71 (.bool true) ?_
   simp only [pp]
   refine rl_pass (some 72) rfl (by kernel_rfl) ?_
   try simp only [pp]
   refine rl_pass (some 73) rfl (by kernel_rfl) ?_
   try simp only [pp]
   refine rl_pass (some 74) rfl (by kernel_rfl) ?_
   try simp only [pp]
   refine rl_pass (some 75) rfl (by kernel_rfl) ?_
   try simp only [pp]
   refine tk 76 (.bool true) ?_
   simp only [pp]
   refine rl_end hgo <| hKK20 _ _ <| wp_cond_true (by kernel_rfl) <| wp_seq_k fun KK21 hKK21 => rl_begin fun hgK hgo => tk 77 (.int .i64 2) ?_
   simp only [pp]
   refine tx 78 (.bool true) (by exact ex_beq (x := 2) (y := 2) (by kernel_rfl) ⟨fun _ => by omega, fun _ => rfl⟩) <| tk 79 (.bool true) ?_
   simp only [pp]
   refine tx 80 (.agg #[.int .i64 0, .int .i64 0, .int .i64 0, .int .i64 0, .string ⟨#[]⟩, .string ⟨#[]⟩]) (by exact ldN 36 _ rfl ww 0 rfl (fun _ => by kernel_rfl) [] [.int .i64 0, .int .i64 0, .int .i64 0, .int .i64 0, .string ⟨#[]⟩, .string ⟨#[]⟩] [] (by kernel_rfl) hww rfl rfl) <| tk 81 (.agg #[.int .i64 0, .int .i64 0, .int .i64 0, .int .i64 0, .string ⟨#[]⟩, .string ⟨#[]⟩]) <| tk 82 (.bool true) <| tk 83 (.bool true) <| tk 8 (.bool true) ?_
   simp only [pp]
   refine rl_end hgo <| hKK21 _ _ ?_
   refine wp_ret ?_
   try simp only [Exit.then, Exit.inBlock]
   refine bp_ret (v := .bool true) (res1 rfl (res_tmp (by kernel_rfl))) ?_
   exact ⟨rfl, hB⟩
  ·refine tx 70 (.bool false) (by exact ex_bool (c := (lo : Int) < 0) (by kernel_rfl) ⟨fun q => (by cases q), fun q => absurd q (by omega)⟩) <| tk 71 (.bool false) <| tk 72 (.int .i64 lo) <| tk 73 (.string (bs t)) ?_
   simp only [pp]
   refine tx 74 (.int .i64 t.length) (by exact ex_len_bs (by kernel_rfl)) ?_
   simp only [pp]
   refine tx 75 (.bool true) (by exact ex_bool (c := (lo : Int) > t.length) (by kernel_rfl) ⟨fun _ => by omega, fun _ => rfl⟩) <| tk 76 (.bool true) ?_
   simp only [pp]
   refine rl_end hgo <| hKK20 _ _ <| wp_cond_true (by kernel_rfl) <| wp_seq_k fun KK22 hKK22 => rl_begin fun hgK hgo => tk 77 (.int .i64 2) ?_
   simp only [pp]
   refine tx 78 (.bool true) (by exact ex_beq (x := 2) (y := 2) (by kernel_rfl) ⟨fun _ => by omega, fun _ => rfl⟩) <| tk 79 (.bool true) ?_
   simp only [pp]
   refine tx 80 (.agg #[.int .i64 0, .int .i64 0, .int .i64 0, .int .i64 0, .string ⟨#[]⟩, .string ⟨#[]⟩]) (by exact ldN 36 _ rfl ww 0 rfl (fun _ => by kernel_rfl) [] [.int .i64 0, .int .i64 0, .int .i64 0, .int .i64 0, .string ⟨#[]⟩, .string ⟨#[]⟩] [] (by kernel_rfl) hww rfl rfl) <| tk 81 (.agg #[.int .i64 0, .int .i64 0, .int .i64 0, .int .i64 0, .string ⟨#[]⟩, .string ⟨#[]⟩]) <| tk 82 (.bool true) <| tk 83 (.bool true) <| tk 8 (.bool true) ?_
   simp only [pp]
   refine rl_end hgo <| hKK22 _ _ ?_
   refine wp_ret ?_
   try simp only [Exit.then, Exit.inBlock]
   refine bp_ret (v := .bool true) (res1 rfl (res_tmp (by kernel_rfl))) ?_
   exact ⟨rfl, hB⟩
theorem holds_any (b : Nat) (t : List UInt8) (lo hi : Int) (w : World) (hT : Tabs w) (hr : RopeAt w b t) (ht : t.length ≤ 4000000) :
    Calls Tryd.prog 19 #[.pointer (some ⟨b, 0, none⟩), .string (bs t), .int .i64 lo, .int .i64 hi] w fun e w' => e = .returned (.bool true) ∧ Ltr w w' := by
  by_cases h1 : lo < 0 ∨ (t.length : Int) < lo
  · exact holds_out b t lo hi w hT hr ht h1
  · obtain ⟨k, rfl⟩ := Int.eq_ofNat_of_zero_le (by omega : 0 ≤ lo)
    by_cases h2 : 0 ≤ (k : Int) ∧ (k : Int) ≤ hi ∧ hi ≤ t.length
    · obtain ⟨m, rfl⟩ := Int.eq_ofNat_of_zero_le (by omega : 0 ≤ hi)
      exact holds_in b t k m w hT hr ht (by omega) (by omega)
    · exact holds_mid b t k hi w hT hr ht (by omega) h2
end Go.Proofs.YtliphfgiaioebaaDoor
namespace Go.Proofs.YtliphfgiaioebaaDoor
set_option linter.unusedVariables false
set_option linter.unusedSimpArgs false
open Go.RowKit
set_option maxRecDepth 100000
set_option maxHeartbeats 16000000
theorem RopeScripts_walk {n : Nat} (A : Option Addr) (c : Nat) (l : List ActD) (lo hi : Int) (w : World) (hT : Tabs w) (hA : ActsAt n w A l) (hc : l.length ≤ c) (hm : l.length ≤ 1100000) :
    Calls Tryd.prog 3 #[.slice A l.length c, .int .i64 lo, .int .i64 hi] w fun e w' => e = .returned (.bool true) ∧ Ltr w w' := by
  have hB := Ltr.refl w
  go_enter Tryd.func3, Tryd.ntmps3
  have h4 := hT.four
  refine wp_seq_k fun KK1 hKK1 => rl_begin fun hgK hgo => tk 6 (.bool false) ?_
  simp only [pp]
  refine rl_end hgo <| hKK1 _ _ <| wp_seq_k fun KK2 hKK2 => wp_seq_k fun KK3 hKK3 => rl_begin fun hgK hgo => ?_
  refine rl_call (some 10) 17 #[] rfl (by kernel_rfl) (by kernel_rfl) (wakes_any _ hT) ?_
  rintro e w4 ⟨rfl, hL4⟩
  refine ⟨_, rfl, ?_⟩
  replace hT := hT.later hL4
  replace hB := hB.later hL4
  replace hA := hA.later hL4
  have hz4 := hL4.size
  try simp only [pp]
  refine tk 11 (.bool false) ?_
  simp only [pp]
  refine rl_end hgo <| hKK3 _ _ <| wp_cond_false (by kernel_rfl) <| wp_skip <| hKK2 _ _ <| wp_seq_k fun KK5 hKK5 => rl_begin fun hgK hgo => tk 13 (.slice A l.length c) ?_
  simp only [pp]
  refine rl_call (some 14) 18 #[.slice A l.length c] rfl (by kernel_rfl) (by kernel_rfl) (play_r A c l _ hT hA hc hm) ?_
  rintro e w6 ⟨A1, A2, c1, c2, rs, N, rfl, hL6, hP, hN⟩
  refine ⟨_, rfl, ?_⟩
  replace hT := hT.later hL6
  replace hB := hB.later hL6
  replace hA := hA.later hL6
  have hz6 := hL6.size
  have hrl := hP.len
  clear hA
  try simp only [pp]
  refine tk 12 (.tuple #[.agg #[.slice A1 rs.length c1, .slice A2 rs.length c2], .bool true]) <| tk 15 (.agg #[.slice A1 rs.length c1, .slice A2 rs.length c2]) <| tk 16 (.bool true) ?_
  simp only [pp]
  refine rl_alloc (some 7) 27 #[.slice none 0 0, .slice none 0 0] rfl (by kernel_rfl) (fun W => by kernel_rfl) fun bk w7 hL7 hp7 hbk => ?_
  replace hT := hT.later hL7
  replace hB := hB.later hL7
  replace hP := hP.later hL7
  have hz7 := hL7.size
  have hlt7 := hbk.lt
  try simp only [pp]
  refine rl_store bk #[.slice A1 rs.length c1, .slice A2 rs.length c2] rfl rfl (by kernel_rfl) rfl rfl (by kernel_rfl) hbk rfl (by kernel_rfl) fun w8 hU8 hn8 => ?_
  have hz8 := hU8.size
  replace hT := hT.upd hU8 (by omega)
  replace hB := hB.upd hU8 (by omega)
  replace hP := hP.upd hU8 (by omega)
  clear hbk
  have hbk := hn8
  clear hn8
  try simp only [pp]
  refine tk 8 (.bool true) ?_
  simp only [pp]
  refine rl_end hgo <| hKK5 _ _ <| wp_seq_k fun KK9 hKK9 => wp_seq_k fun KK10 hKK10 => rl_begin fun hgK hgo => tk 17 (.bool true) <| tk 18 (.bool false) ?_
  simp only [pp]
  refine rl_end hgo <| hKK10 _ _ <| wp_cond_false (by kernel_rfl) <| wp_skip <| hKK9 _ _ <| wp_seq_k fun KK11 hKK11 => wp_seq_k fun KK12 hKK12 => rl_begin fun hgK hgo => tk 19 (.pointer (some ⟨bk, 0, none⟩)) ?_
  simp only [pp]
  refine tx 20 (.slice A1 rs.length c1) (by exact ld1 24 _ rfl bk 0 rfl (fun _ => by kernel_rfl) _ (hbk.cell 0)) <| tk 21 (.int .i64 rs.length) <| tk 22 (.int .i64 0) ?_
  simp only [pp]
  refine rl_end hgo <| hKK12 _ _ <| wp_block ?_
  refine wp_loop_ghost (fun gn ga wl => ∃ (u : Nat → Value) (i : Nat), gn = rs.length - i ∧ ga = ⟨#[.slice A l.length c, .int .i64 lo, .int .i64 hi, undef, undef, undef, u 6, .pointer (some ⟨bk, 0, none⟩), .bool true, u 9, .bool true, .bool false, .tuple #[.agg #[.slice A1 rs.length c1, .slice A2 rs.length c2], .bool true], .slice A l.length c, .tuple #[.agg #[.slice A1 rs.length c1, .slice A2 rs.length c2], .bool true], .agg #[.slice A1 rs.length c1, .slice A2 rs.length c2], .bool true, .bool true, .bool false, .pointer (some ⟨bk, 0, none⟩), .slice A1 rs.length c1, .int .i64 rs.length, .int .i64 i, u 23, u 24, u 25, u 26, u 27, u 28, u 29, u 30, u 31, u 32, u 33, u 34, u 35, u 36, u 37, u 38, u 39], []⟩ ∧ (i ≤ rs.length) ∧ (Tabs wl) ∧ (Ltr w wl) ∧ (Ropes N A1 A2 rs wl) ∧ (Blk wl bk 27 #[.slice A1 rs.length c1, .slice A2 rs.length c2])) ((fun (i : Nat) => (rs.length - i : Nat)) 0) ?_ ?_
  ·exact ⟨fun gj => (#[.slice A l.length c, .int .i64 lo, .int .i64 hi, undef, undef, undef, .bool false, .pointer (some ⟨bk, 0, none⟩), .bool true, undef, .bool true, .bool false, .tuple #[.agg #[.slice A1 rs.length c1, .slice A2 rs.length c2], .bool true], .slice A l.length c, .tuple #[.agg #[.slice A1 rs.length c1, .slice A2 rs.length c2], .bool true], .agg #[.slice A1 rs.length c1, .slice A2 rs.length c2], .bool true, .bool true, .bool false, .pointer (some ⟨bk, 0, none⟩), .slice A1 rs.length c1, .int .i64 rs.length, .int .i64 0, undef, undef, undef, undef, undef, undef, undef, undef, undef, undef, undef, undef, undef, undef, undef, undef, undef]).getD gj undef, 0, rfl, rfl, Nat.zero_le _, by assumption, by assumption, by assumption, by assumption⟩
  rintro n13 a13 w13 ⟨u, i, rfl, rfl, hil', hT', hB', hP', hbk'⟩
  clear hbk hP hB hT
  have hil := hil'
  clear hil'
  have hT := hT'
  clear hT'
  have hB := hB'
  clear hB'
  have hP := hP'
  clear hP'
  have hbk := hbk'
  clear hbk'
  have hlt_hbk_13 := hbk.lt
  refine wp_seq_k fun KK14 hKK14 => rl_begin fun hgK hgo => ?_
  by_cases h1 : (i : Int) < rs.length
  ·refine tx 23 (.bool true) (by exact ex_bool (c := (i : Int) < rs.length) (by kernel_rfl) ⟨fun _ => by omega, fun _ => rfl⟩) ?_
   simp only [pp]
   refine rl_end hgo <| hKK14 _ _ <| wp_seq_k fun KK15 hKK15 => wp_cond_true (by kernel_rfl) <| wp_skip <| hKK15 _ _ <| wp_seq_k fun KK16 hKK16 => wp_block <| wp_seq_k fun KK17 hKK17 => rl_begin fun hgK hgo => ?_
   (obtain ⟨b, t, hbt⟩ := rope_i i (by omega : i < rs.length)); (have htl := hP.lt hbt); (obtain ⟨gb, go', he1, hgn, -⟩ := hP.p i (by omega)); (obtain ⟨gs, gt, he2, hgn2, -⟩ := hP.s i (by omega))
   refine tk 24 (.int .i64 i) <| tk 9 (.int .i64 i) ?_
   simp only [pp]
   refine rl_end hgo <| hKK17 _ _ <| wp_seq_k fun KK18 hKK18 => ?_
   refine rm_begin (fun W => Ltr w13 W) (by kernel_rfl) (by exact bl_drew (bl_refl _)) fun K19 hgo w19 hE hS19 => ?_
   have hv19 : Ltr w13 w19 := by rw [hE]; exact bl_drew (bl_refl _)
   have hz19 := hv19.size
   clear hE hS19
   refine mk 0 25 (.pointer (some ⟨bk, 0, none⟩)) ?_
   try simp only [pp]
   refine mx 1 26 (.slice A1 rs.length c1) rfl (fun W hW => by (exact ld1 24 _ rfl bk 0 rfl (fun _ => by kernel_rfl) _ ((hbk.later hW).cell 0))) <| mk 2 27 (.int .i64 i) ?_
   try simp only [pp]
   refine mx 3 28 (.pointer (some ⟨gb, go' + i, none⟩)) rfl (fun W hW => by (exact ex_indexA i rfl rfl he1 rfl (by kernel_rfl) (fun _ => by kernel_rfl) (by omega) _)) ?_
   try simp only [pp]
   refine mx 4 29 (.pointer (some ⟨b, 0, none⟩)) rfl (fun W hW => by (exact ld1 31 _ rfl gb (go' + i) rfl (fun _ => by kernel_rfl) _ ((hP.later hW).pc he1 (ptrs_at hbt)))) <| mk 5 30 (.pointer (some ⟨bk, 1, none⟩)) ?_
   try simp only [pp]
   refine mx 6 31 (.slice A2 rs.length c2) rfl (fun W hW => by (exact ld1 25 _ rfl bk 1 rfl (fun _ => by kernel_rfl) _ ((hbk.later hW).cell 1))) <| mk 7 32 (.int .i64 i) ?_
   try simp only [pp]
   refine mx 8 33 (.pointer (some ⟨gs, gt + i, none⟩)) rfl (fun W hW => by (exact ex_indexA i rfl rfl he2 rfl (by kernel_rfl) (fun _ => by kernel_rfl) (by omega) _)) ?_
   try simp only [pp]
   refine mx 9 34 (.string (bs t)) rfl (fun W hW => by (exact ld1 9 _ rfl gs (gt + i) rfl (fun _ => by kernel_rfl) _ ((hP.later hW).sc he2 (strs_at hbt)))) <| mk 10 35 (.int .i64 lo) <| mk 11 36 (.int .i64 hi) ?_
   try simp only [pp]
   refine rm_call 12 (some 37) (.bool true) 19 #[.pointer (some ⟨b, 0, none⟩), .string (bs t), .int .i64 lo, .int .i64 hi] (oi := { dst := some 37, op := Go.Op.call { callee := Go.Callee.value (Go.Operand.func 19), args := #[Go.Operand.tmp 29, Go.Operand.tmp 34, Go.Operand.tmp 35, Go.Operand.tmp 36], argTypes := #[31, 9, 3, 3] }, type := 4, pos := "law.go:170", after := #[{ on := 4, ground := Go.Ground.data }, { on := 9, ground := Go.Ground.data }, { on := 10, ground := Go.Ground.data }, { on := 11, ground := Go.Ground.data }], guard := none }) rfl rfl (by kernel_rfl) (by kernel_rfl) (by kernel_rfl) (by kernel_rfl) (fun W hW => by kernel_rfl) (fun W hW => holds_any b t lo hi W (hT.later hW) ((hP.at hbt).later hW) htl) (fun _ _ h k => Ltr.trans h k) ?_
   try simp only [pp]
   refine mk 13 38 (.bool false) ?_
   try simp only [pp]
   refine rm_done (by kernel_rfl) (fun w20 hL20 hS20 => hgo.out _ _ ?_) _
   clear hgo K19
   replace hT := hT.later (show Ltr w13 _ from hS20)
   replace hB := hB.later (show Ltr w13 _ from hS20)
   replace hP := hP.later (show Ltr w13 _ from hS20)
   replace hbk := hbk.later (show Ltr w13 _ from hS20)
   have hz20 := (show Ltr w13 _ from hS20).size
   have hy20 := hL20.size
   refine hKK18 _ _ <| wp_cond_false (by kernel_rfl) <| wp_skip <| hKK16 _ _ <| rl_begin fun hgK hgo => ?_
   refine tx 39 (.int .i64 (((i + 1 : Nat) : Int))) (by exact ex_arith (e := (i : Int) + 1) (r := ((i + 1 : Nat) : Int)) (by kernel_rfl) (by omega) (by omega)) <| tk 22 (.int .i64 (((i + 1 : Nat) : Int))) ?_
   simp only [pp]
   refine rl_end hgo ?_
   exact ⟨_, (by omega), fun gj => (#[.slice A l.length c, .int .i64 lo, .int .i64 hi, undef, undef, undef, u 6, .pointer (some ⟨bk, 0, none⟩), .bool true, .int .i64 i, .bool true, .bool false, .tuple #[.agg #[.slice A1 rs.length c1, .slice A2 rs.length c2], .bool true], .slice A l.length c, .tuple #[.agg #[.slice A1 rs.length c1, .slice A2 rs.length c2], .bool true], .agg #[.slice A1 rs.length c1, .slice A2 rs.length c2], .bool true, .bool true, .bool false, .pointer (some ⟨bk, 0, none⟩), .slice A1 rs.length c1, .int .i64 rs.length, .int .i64 (((i + 1 : Nat) : Int)), .bool true, .int .i64 i, .pointer (some ⟨bk, 0, none⟩), .slice A1 rs.length c1, .int .i64 i, .pointer (some ⟨gb, go' + i, none⟩), .pointer (some ⟨b, 0, none⟩), .pointer (some ⟨bk, 1, none⟩), .slice A2 rs.length c2, .int .i64 i, .pointer (some ⟨gs, gt + i, none⟩), .string (bs t), .int .i64 lo, .int .i64 hi, .bool true, .bool false, .int .i64 (((i + 1 : Nat) : Int))]).getD gj undef, i + 1, rfl, rfl, by omega, by assumption, by assumption, by assumption, by assumption⟩
  ·refine tx 23 (.bool false) (by exact ex_bool (c := (i : Int) < rs.length) (by kernel_rfl) ⟨fun q => (by cases q), fun q => absurd q (by omega)⟩) ?_
   simp only [pp]
   refine rl_end hgo <| hKK14 _ _ <| wp_seq_k fun KK21 hKK21 => wp_cond_false (by kernel_rfl) <| wp_exit <| hKK11 _ _ <| wp_seq_k fun KK22 hKK22 => rl_begin fun hgK hgo => tk 6 (.bool true) ?_
   simp only [pp]
   refine rl_end hgo <| hKK22 _ _ ?_
   refine wp_ret ?_
   try simp only [Exit.then, Exit.inBlock]
   refine bp_ret (v := .bool true) (res1 rfl (res_tmp (by kernel_rfl))) ?_
   exact ⟨rfl, hB⟩
end Go.Proofs.YtliphfgiaioebaaDoor
namespace Go.Proofs.YtliphfgiaioebaaDoor
set_option linter.unusedVariables false
set_option linter.unusedSimpArgs false
open Go.ChangeShapes Go.WideShapes Go.ChangeAt Go.RowKit Go.Deep
theorem chunks (k : Nat) : ∀ (n : Nat) (cs : List Value) (T : Nat → List Value), cs.length = n * k → (∀ i, i < n → (cs.drop (i * k)).take k = T i) → cs = (List.range n).flatMap T
  | 0, cs, T, h, _ => by simp at h; simp [h]
  | n + 1, cs, T, h, hT => by
    rw [List.range_succ_eq_map, List.flatMap_cons, List.flatMap_map]
    have h0 := hT 0 (by omega)
    simp only [Nat.zero_mul, List.drop_zero] at h0
    have ih := chunks k n (cs.drop k) (fun i => T (i + 1)) (by rw [List.length_drop, h, Nat.add_mul]; omega) fun i hi => by
      have := hT (i + 1) (by omega)
      rw [List.drop_drop, show k + i * k = (i + 1) * k by rw [Nat.add_mul]; omega]
      exact this
    conv => lhs; rw [← List.take_append_drop k cs, h0, ih]
theorem three {cs : List Value} (h : cs.length = 3) : ∃ x y z, cs = [x, y, z] := by
  match cs, h with
  | [x, y, z], _ => exact ⟨x, y, z, rfl⟩
section
variable {H : Type} {enc : TypeId × Value → H} {W : World} {base : Nat} {sp : Nat → Bool} {held : Bool} {fuel : Nat} {cs : List Value} {p : List MemPlace}
theorem span_cells {a b c : Int} (h : DataW.trod enc Tryd.prog W base sp held fuel 201 cs = some (.agg [.lit (.int .i64 a), .lit (.int .i64 b), .lit (.int .i64 c)], p)) : cs = [.int .i64 a, .int .i64 b, .int .i64 c] := by
  obtain ⟨y0, y1, y2, n, hx, hl, h0, h1, h2⟩ := trod_struct3 (show Tryd.prog.underlying 201 = some (.struct #[_, _, _]) from Tryd.underlying201) h
  obtain ⟨z0, c0, e0, -⟩ := DataW.trod_int (k := .i64) (by kernel_rfl) h0
  obtain ⟨z1, c1, e1, -⟩ := DataW.trod_int (k := .i64) (by kernel_rfl) h1
  obtain ⟨z2, c2, e2, -⟩ := DataW.trod_int (k := .i64) (by kernel_rfl) h2
  subst e0 e1 e2
  simp only [Prod.mk.injEq, DataW.agg.injEq, List.cons.injEq, DataW.lit.injEq, Lit.int.injEq, true_and, and_true] at hx
  obtain ⟨⟨rfl, rfl, rfl⟩, -⟩ := hx
  rw [show Tryd.prog.cellsOf 201 = 3 by kernel_rfl] at hl
  clear h h0 h1 h2
  obtain ⟨x, y, z, rfl⟩ := three hl
  rw [show Tryd.prog.cellsOf 3 = 1 by kernel_rfl] at c0 c1
  rw [show Tryd.prog.cellsOf 196 = 1 by kernel_rfl] at c2
  simp at c0 c1 c2
  rw [c0, c1, c2]
theorem step_cells {a b : Int} {c : Bool} (h : DataW.trod enc Tryd.prog W base sp held fuel 158 cs = some (.agg [.lit (.int .i32 a), .lit (.int .i64 b), .lit (.bool c)], p)) : cs = [.int .i32 a, .int .i64 b, .bool c] := by
  obtain ⟨y0, y1, y2, n, hx, hl, h0, h1, h2⟩ := trod_struct3 (show Tryd.prog.underlying 158 = some (.struct #[_, _, _]) from Tryd.underlying158) h
  obtain ⟨z0, c0, e0, -⟩ := DataW.trod_int (k := .i32) (by kernel_rfl) h0
  obtain ⟨z1, c1, e1, -⟩ := DataW.trod_int (k := .i64) (by kernel_rfl) h1
  obtain ⟨z2, c2, e2⟩ := DataW.trod_bool (by kernel_rfl) h2
  subst e0 e1 e2
  simp only [Prod.mk.injEq, DataW.agg.injEq, List.cons.injEq, DataW.lit.injEq, Lit.int.injEq, Lit.bool.injEq, true_and, and_true] at hx
  obtain ⟨⟨rfl, rfl, rfl⟩, -⟩ := hx
  rw [show Tryd.prog.cellsOf 158 = 3 by kernel_rfl] at hl
  clear h h0 h1 h2
  obtain ⟨x, y, z, rfl⟩ := three hl
  rw [show Tryd.prog.cellsOf 21 = 1 by kernel_rfl] at c0
  rw [show Tryd.prog.cellsOf 3 = 1 by kernel_rfl] at c1
  rw [show Tryd.prog.cellsOf 4 = 1 by kernel_rfl] at c2
  simp at c0 c1 c2
  rw [c0, c1, c2]
theorem spans_cells {T : List (Int × Int × Int)} (hT : T.length = 7) (h : DataW.trod enc Tryd.prog W base sp held fuel 202 cs = some (.agg (T.map fun x => .agg [.lit (.int .i64 x.1), .lit (.int .i64 x.2.1), .lit (.int .i64 x.2.2)]), p)) :
    cs = (List.range 7).flatMap fun i => (match T[i]? with | some x => [.int .i64 x.1, .int .i64 x.2.1, .int .i64 x.2.2] | none => []) := by
  obtain ⟨xs, m, -, hx, hl, hlen, hi⟩ := DataW.trod_array Tryd.underlying202 h
  rw [show Tryd.prog.cellsOf 202 = 7 * 3 by kernel_rfl] at hl
  simp only [show Tryd.prog.cellsOf 201 = 3 by kernel_rfl] at hi
  simp only [Prod.mk.injEq, DataW.agg.injEq] at hx
  refine chunks 3 7 cs _ hl fun i hi7 => ?_
  have h1 := hi i hi7
  have h2 := congrArg (·[i]?) hx.1
  simp only [List.getElem?_map] at h2
  rw [List.getElem?_eq_getElem (by omega : i < T.length), List.getElem?_eq_getElem (by omega : i < xs.length)] at h2
  rw [List.getElem?_eq_getElem (by omega : i < xs.length)] at h1
  rw [List.getElem?_eq_getElem (by omega : i < T.length)]
  simp only [Option.map_some, Option.some.injEq] at h2
  refine span_cells (p := xs[i].2) (h1.trans ?_)
  rw [h2]
end
theorem tabs_laid {W : World} (h : laidMetH Tryd.prog Rows.ropeNilUptoRow.laid W) : Tabs W := by
  have h' : laidMet Tryd.prog [("galley/octet.spans", Rows.laid_galley_octet_spans), ("galley/octet.needs", Rows.laid_galley_octet_needs), ("galley/octet.masks", Rows.laid_galley_octet_masks), ("galley/step.bad", Rows.laid_galley_step_bad)] W := h
  obtain ⟨ps, ⟨g1, t1, cs1, f1, p1, q1, hg1, ht1, hv1, hd1, ⟨g2, t2, cs2, f2, p2, q2, hg2, ht2, hv2, hd2, ⟨g3, t3, cs3, f3, p3, q3, hg3, ht3, hv3, hd3, ⟨g4, t4, cs4, f4, p4, q4, hg4, ht4, hv4, hd4, -, -⟩, -⟩, -⟩, -⟩, -⟩ := h'
  obtain rfl := Option.some.inj ((show Tryd.prog.globalNamed "galley/octet.spans" = some 3 by kernel_rfl).symm.trans hg1)
  obtain rfl := Option.some.inj ((show Tryd.prog.globalNamed "galley/octet.needs" = some 2 by kernel_rfl).symm.trans hg2)
  obtain rfl := Option.some.inj ((show Tryd.prog.globalNamed "galley/octet.masks" = some 0 by kernel_rfl).symm.trans hg3)
  obtain rfl := Option.some.inj ((show Tryd.prog.globalNamed "galley/step.bad" = some 1 by kernel_rfl).symm.trans hg4)
  obtain rfl := Option.some.inj ((show (Tryd.prog.globals[3]?).map (·.type) = some 202 by kernel_rfl).symm.trans ht1)
  obtain rfl := Option.some.inj ((show (Tryd.prog.globals[2]?).map (·.type) = some 199 by kernel_rfl).symm.trans ht2)
  obtain rfl := Option.some.inj ((show (Tryd.prog.globals[0]?).map (·.type) = some 192 by kernel_rfl).symm.trans ht3)
  obtain rfl := Option.some.inj ((show (Tryd.prog.globals[1]?).map (·.type) = some 158 by kernel_rfl).symm.trans ht4)
  have e1 : cs1.toList = spanCells := spans_cells (T := [(0, 127, 1), (128, 191, 2), (192, 193, 6), (194, 223, 3), (224, 239, 4), (240, 244, 5), (245, 255, 6)]) rfl hd1
  have e2 : cs2.toList = needCells := Lib.cells_of_tab (k := .i64) (zs := [0, 1, 0, 2, 3, 4, 0]) Tryd.underlying199 Tryd.underlying3 (by kernel_rfl) (by kernel_rfl) hd2
  have e3 : cs3.toList = maskCells := Lib.cells_of_tab (k := .u8) (zs := [0, 127, 31, 15, 7]) Tryd.underlying192 Tryd.underlying5 (by kernel_rfl) (by kernel_rfl) hd3
  have e4 : cs4.toList = badCells := step_cells hd4
  have key : ∀ {n : String} {g : Nat} {cs : Array Value} {l : List Value}, Tryd.prog.globalNamed n = some g → W.var? Tryd.prog n = some cs → cs.toList = l → ∀ i v, l[i]? = some v → W.cell? ⟨g, i, none⟩ = some v := fun hg hv e i v hi => by
    rw [World.var?_cell hg hv i, ← Array.getElem?_toList, e]; exact hi
  exact ⟨key hg1 hv1 e1, key hg2 hv2 e2, key hg3 hv3 e3, key hg4 hv4 e4⟩
end Go.Proofs.YtliphfgiaioebaaDoor
namespace Go.Proofs.YtliphfgiaioebaaDoor
set_option linter.unusedVariables false
set_option linter.unusedSimpArgs false
open Go.ChangeShapes Go.WideShapes Go.ChangeAt Go.RowKit Go.Deep
set_option maxRecDepth 100000
namespace glue
theorem one_le {H : Type} (d : DataW H) : 1 ≤ Rows.uptoBulk d := by
  cases d with
  | lit l => cases l <;> simp [Rows.uptoBulk]
  | nil => simp [Rows.uptoBulk]
  | ptr d => simp [Rows.uptoBulk]
  | slice elems spare => simp [Rows.uptoBulk]
  | agg parts => simp [Rows.uptoBulk]
  | iface t d => simp [Rows.uptoBulk]
  | map entries => simp [Rows.uptoBulk]
  | held h => simp [Rows.uptoBulk]
theorem length_le {H : Type} (l : List (DataW H)) : l.length ≤ Rows.uptoBulkAll l := by
  induction l with
  | nil => simp [Rows.uptoBulkAll]
  | cons x r ih => have := one_le x; simp only [Rows.uptoBulkAll, List.length_cons]; omega
theorem mem_le {H : Type} {l : List (DataW H)} {d : DataW H} (h : d ∈ l) : Rows.uptoBulk d ≤ Rows.uptoBulkAll l := by
  induction l with
  | nil => cases h
  | cons x r ih =>
    simp only [Rows.uptoBulkAll]
    rcases List.mem_cons.1 h with rfl | h
    · omega
    · have := ih h; omega
theorem slice_le {H : Type} (elems spare : List (DataW H)) : elems.length + spare.length + 1 ≤ Rows.uptoBulk (.slice elems spare) := by
  have h1 := length_le elems
  have h2 := length_le spare
  simp only [Rows.uptoBulk]
  omega
def setG (h : Array Obj) (g : Nat) (cs : List Value) : Array Obj := h.modify g fun
  | .cells _ t frozen => .cells cs.toArray t frozen
  | o => o
/-- a world that holds the four laid variables -/
noncomputable def laidWorld (os : Os) : World :=
  { World.holding Tryd.prog os ⟨#[], #[], []⟩ with heap := setG (setG (setG (setG (World.holding Tryd.prog os ⟨#[], #[], []⟩).heap 3 spanCells) 2 needCells) 0 maskCells) 1 badCells }
theorem own : ownKnob Tryd.prog.godebug = none := by kernel_rfl
theorem laidOut : laidOutB Tryd.prog = true := by kernel_rfl
section
variable {H : Type} {enc : TypeId × Value → H}
theorem back {W W' : World} (hb : Below W.heap.size W W') : ∀ (ts : List TypeId) (vs : List Value) (ds : List (DataW H)) (p : List MemPlace), DataW.TrodAll enc Tryd.prog W 0 (fun _ => true) true ts vs ds p →
    (∀ t ∈ ts, Tryd.prog.readableRec t = true ∧ t < Tryd.prog.types.size) → (∀ x ∈ p, x.block < W.heap.size) → DataW.TrodAll enc Tryd.prog W' 0 (fun b => decide (b < W.heap.size)) true ts vs ds p
  | [], [], [], p, h, _, _ => h
  | t :: ts, v :: vs, d :: ds, p, ⟨p1, p2, h1, h2, e⟩, ht, hp =>
    ⟨p1, p2, Below.trod laidOut (ht t (by simp)).1 (ht t (by simp)).2 h1 hb (fun x hx => hp x (by rw [e]; simp [hx])), back hb ts vs ds p2 h2 (fun t h => ht t (by simp [h])) (fun x hx => hp x (by rw [e]; simp [hx])), e⟩
  | [], _ :: _, _, _, h, _, _ => by cases h
  | [], [], _ :: _, _, h, _, _ => by cases h
  | _ :: _, [], _, _, h, _, _ => by cases h
  | _ :: _, _ :: _, [], _, h, _, _ => by cases h
/-- a slice of bytes that came in -/
theorem open_bytes0 {W : World} {a1 : Value} {fuel : Nat} {x : DataW H × List MemPlace} (hf : DataW.trod enc Tryd.prog W 0 (fun _ => true) true fuel 41 [a1] = some x) :
    ∃ (A : Option Addr) (c : Nat) (l : List UInt8), a1 = .slice A l.length c ∧ BytesAt W A l ∧ l.length ≤ c ∧ (A = none → c = 0) ∧ l.length ≤ Rows.uptoBulk x.1 := by
  rcases open_ints Tryd.underlying41 Tryd.underlying5 (by kernel_rfl) hf with ⟨hcs, hx⟩ | ⟨a, len', cap', zs, hcs, _, hl, hm, hz, hx, hcell, hwz⟩
  · simp only [List.cons.injEq, and_true] at hcs
    subst hcs
    exact ⟨none, 0, [], rfl, BytesAt.nil _ _, Nat.le_refl _, fun _ => rfl, Nat.zero_le _⟩
  · simp only [List.cons.injEq, and_true] at hcs
    subst hcs hx
    simp only [if_true] at hz
    have hlen : ((zs.take len').map fun n => UInt8.ofNat n.toNat).length = len' := by simp; omega
    refine ⟨some a, cap', (zs.take len').map fun n => UInt8.ofNat n.toNat, by rw [hlen], fun h0 => ?_, by rw [hlen]; exact hl, (fun e => by cases e), ?_⟩
    · rw [hlen] at h0
      obtain ⟨ab, ao, spot⟩ := a
      have hspot : spot = none := by simpa [Addr.add] using World.cell?_spot (hcell 0 (by omega))
      subst hspot
      refine ⟨ab, ao, rfl, fun i hi => ?_⟩
      rw [hlen] at hi
      have hc := hcell i (by omega)
      rw [Addr.add_lit] at hc
      rw [hc]
      have hb := range_u8 hwz i
      have e : zs[i]? = some (zs[i]'(by omega)) := List.getElem?_eq_getElem (by omega)
      have hg : gb ((zs.take len').map fun n => UInt8.ofNat n.toNat) i = zs.getD i 0 := by
        unfold gb
        rw [List.getD_eq_getElem?_getD, List.getElem?_map, List.getElem?_take, if_pos hi, e, List.getD_eq_getElem?_getD, e]
        rw [e] at hb
        simp only [Option.map_some, Option.getD_some, UInt8.toNat_ofNat'] at hb ⊢
        omega
      rw [hg]
    · rw [hlen]
      have := slice_le (lits (H := H) .u8 (zs.take len')) (lits .u8 (zs.drop len'))
      have h1 : (lits (H := H) .u8 (zs.take len')).length = len' := by simp [lits]; omega
      simp only
      omega
theorem open_bytes {W : World} {base : Nat} {v : Value} {d : DataW H} {p : List MemPlace} (hval : Value.okWide Tryd.prog W .any base 41 v) (h : DataW.Trod enc Tryd.prog W 0 (fun _ => true) true 41 v d p) :
    ∃ (A : Option Addr) (c : Nat) (l : List UInt8), v = .slice A l.length c ∧ BytesAt W A l ∧ l.length ≤ c ∧ (A = none → c = 0) ∧ l.length ≤ Rows.uptoBulk d := by
  obtain ⟨a1, len, cap, rfl⟩ := okWide_slice Tryd.underlying41 hval
  obtain ⟨fuel, hf⟩ := h
  exact open_bytes0 (x := (d, p)) (hf : DataW.trod enc Tryd.prog W 0 (fun _ => true) true fuel 41 [.slice a1 len cap] = some (d, p))
theorem list_of {α : Type} {P : Nat → α → Prop} : ∀ n : Nat, (∀ i, i < n → ∃ x, P i x) → ∃ l : List α, l.length = n ∧ ∀ i x, l[i]? = some x → P i x
  | 0, _ => ⟨[], rfl, fun i x h => by simp at h⟩
  | n + 1, h => by
    obtain ⟨l, h1, h2⟩ := list_of n fun i hi => h i (by omega)
    obtain ⟨x, hx⟩ := h n (by omega)
    refine ⟨l ++ [x], by simp [h1], fun i y hy => ?_⟩
    rcases Nat.lt_or_ge i l.length with hi | hi
    · rw [List.getElem?_append_left hi] at hy; exact h2 i y hy
    · rw [List.getElem?_append_right hi] at hy
      have : i - l.length = 0 := by
        have := (List.getElem?_eq_some_iff.1 hy).1; simp at this; omega
      rw [this] at hy; simp at hy; subst hy
      rwa [show i = n by omega]
theorem open_slice_fields {P : Program} {w : World} {base : Nat} {spare : Nat → Bool} {held : Bool} {t e : TypeId} {fs : Array Field} {fuel : Nat} {cs : List Value} {x : DataW H × List MemPlace} (ht : P.underlying t = some (.slice e)) (he : P.underlying e = some (.struct fs))
    (hone : oneCellFields P fs = true) (hC : P.cellsOf e = fs.size) (h : DataW.trod enc P w base spare held fuel t cs = some x) :
    (cs = [.slice none 0 0] ∧ x = (.nil, [])) ∨
    ∃ (a : Addr) (len cap m : Nat) (D : Nat → DataW H) (Pl : Nat → List MemPlace), cs = [.slice (some a) len cap] ∧ base ≤ a.block ∧ len ≤ cap ∧ cap ≤ maxLen ∧ m = (if spare a.block then cap else len) ∧
      x = (.slice ((List.range len).map D) ((List.range (m - len)).map fun j => D (len + j)), MemPlace.row a (m * fs.size) ++ (List.range m).flatMap Pl) ∧
      ∀ i, i < m → ∃ (ys : List (DataW H × List MemPlace)) (n : Nat), D i = .agg (ys.map (·.1)) ∧ Pl i = ys.flatMap (·.2) ∧ ys.length = fs.size ∧
        ∀ (j : Nat) (f : Field), fs[j]? = some f → ∃ (v : Value) (y : DataW H × List MemPlace), w.cell? (a.add (i * fs.size + j)) = some v ∧ ys[j]? = some y ∧ DataW.trod enc P w base spare held n f.type [v] = some y := by
  rcases open_slice ht h with h0 | ⟨a, len, cap, m, n, D, Pl, hcs, hb, hl, hm, hmm, hx, hi⟩
  · exact .inl h0
  · refine .inr ⟨a, len, cap, m, D, Pl, hcs, hb, hl, hm, hmm, by rw [hC] at hx; exact hx, fun i him => ?_⟩
    obtain ⟨cs', hc, ht'⟩ := hi i him
    rw [hC] at hc
    obtain ⟨ys, n', hn', hy, hlen, hyl, hf⟩ := DataW.trod_struct he ht'
    obtain ⟨_, hcl, hat⟩ := World.cells?_some hc
    simp only [Prod.mk.injEq] at hy
    refine ⟨ys, n', hy.1, hy.2, hyl, fun j f hj => ?_⟩
    obtain ⟨ho, hk⟩ := hone_of hone j f hj
    have hjl : j < fs.size := (Array.getElem?_eq_some_iff.1 hj).1
    have hcell := hat j hjl
    have hv : cs'[j]? = some (cs'[j]'(by omega)) := List.getElem?_eq_getElem (by omega)
    have h1 := hf j f hj
    rw [ho, hk] at h1
    have hone' : (cs'.drop j).take 1 = [cs'[j]'(by omega)] := by
      rw [List.drop_eq_getElem_cons (by omega)]
      rfl
    rw [hone'] at h1
    have hys : ys[j]? = some (ys[j]'(by omega)) := List.getElem?_eq_getElem (by omega)
    refine ⟨_, _, ?_, hys, h1.trans hys⟩
    rw [← Go.Deep.add_add, hcell, hv]
/-- acts that came in -/
theorem open_acts {W : World} {base : Nat} {v : Value} {d : DataW H} {p : List MemPlace} (hval : Value.okWide Tryd.prog W .any base 22 v) (h : DataW.Trod enc Tryd.prog W 0 (fun _ => true) true 22 v d p) (hk : Rows.uptoBulk d ≤ 1048576) :
    ∃ (A : Option Addr) (c : Nat) (l : List ActD), v = .slice A l.length c ∧ ActsAt W.heap.size W A l ∧ l.length ≤ c ∧ l.length ≤ 1100000 := by
  obtain ⟨a1, len, cap, rfl⟩ := okWide_slice Tryd.underlying22 hval
  obtain ⟨fuel, hf⟩ := h
  rcases open_slice_fields Tryd.underlying22 Tryd.underlying105 (by kernel_rfl) (by kernel_rfl) hf with ⟨hcs, hx⟩ | ⟨a, len', cap', m, D, Pl, hcs, _, hl, _, hm, hx, hi⟩
  · simp [Value.cells] at hcs
    obtain ⟨rfl, rfl, rfl⟩ := hcs
    exact ⟨none, 0, [], rfl, ⟨Nat.le_refl _, by simp, fun h => absurd h (by simp)⟩, Nat.le_refl _, Nat.zero_le _⟩
  · simp [Value.cells] at hcs
    obtain ⟨rfl, rfl, rfl⟩ := hcs
    simp only [Prod.mk.injEq] at hx
    obtain ⟨rfl, rfl⟩ := hx
    simp only [if_true] at hm
    have hbulk := slice_le ((List.range len).map D) ((List.range (m - len)).map fun j => D (len + j))
    simp only [List.length_map, List.length_range] at hbulk
    have hall : Rows.uptoBulkAll ((List.range len).map D) ≤ 1048576 := by simp only [Rows.uptoBulk] at hk; omega
    have key : ∀ i, i < len → ∃ x : ActD, x.ok W.heap.size W ∧ ∀ j v, x.v[j]? = some v → W.cell? (a.add (i * 6 + j)) = some v := fun i hil => by
      obtain ⟨ys, n, hD, -, hyl, hj⟩ := hi i (by omega)
      obtain ⟨v0, y0, k0, g0, t0⟩ := hj 0 _ rfl
      obtain ⟨v1, y1, k1, g1, t1⟩ := hj 1 _ rfl
      obtain ⟨v2, y2, k2, g2, t2⟩ := hj 2 _ rfl
      obtain ⟨v3, y3, k3, g3, t3⟩ := hj 3 _ rfl
      obtain ⟨v4, y4, k4, g4, t4⟩ := hj 4 _ rfl
      obtain ⟨v5, y5, k5, g5, t5⟩ := hj 5 _ rfl
      obtain ⟨z0, e0, -⟩ := DataW.trod_int (k := .i64) Tryd.underlying3 t0
      obtain ⟨z1, e1, -⟩ := DataW.trod_int (k := .i64) Tryd.underlying3 t1
      obtain ⟨z2, e2, -⟩ := DataW.trod_int (k := .i64) Tryd.underlying3 t2
      obtain ⟨z3, e3, -⟩ := DataW.trod_int (k := .i64) Tryd.underlying3 t3
      obtain ⟨z4, e4, -⟩ := DataW.trod_int (k := .i64) Tryd.underlying3 t4
      simp only [List.cons.injEq, and_true] at e0 e1 e2 e3 e4
      obtain ⟨A, c, l, rfl, hb, hc, hn, hu⟩ := open_bytes0 t5
      have hle : Rows.uptoBulk y5.1 ≤ 1048576 := by
        have h1 : y5.1 ∈ ys.map (·.1) := List.mem_map.2 ⟨y5, List.mem_of_getElem? g5, rfl⟩
        have h2 := mem_le h1
        have h3 : D i ∈ (List.range len).map D := List.mem_map.2 ⟨i, List.mem_range.2 hil, rfl⟩
        have h4 := mem_le h3
        rw [hD] at h4
        simp only [Rows.uptoBulk] at h4
        omega
      refine ⟨⟨z0, z1, z2, z3, z4, A, c, l⟩, ⟨hb.n, hc, hn, by show l.length ≤ 2000000; omega⟩, fun j v hv => ?_⟩
      subst e0 e1 e2 e3 e4
      simp only [ActD.v] at hv
      match j, hv with
      | 0, hv => cases hv; exact k0
      | 1, hv => cases hv; exact k1
      | 2, hv => cases hv; exact k2
      | 3, hv => cases hv; exact k3
      | 4, hv => cases hv; exact k4
      | 5, hv => cases hv; exact k5
      | _ + 6, hv => simp at hv
    obtain ⟨l, rfl, hll⟩ := list_of len key
    refine ⟨some a, cap, l, rfl, ⟨Nat.le_refl _, fun x hx => ?_, fun h0 => ?_⟩, hl, by omega⟩
    · obtain ⟨i, hi'⟩ := List.getElem?_of_mem hx
      exact (hll i x hi').1
    · obtain ⟨x, hx⟩ : ∃ x, l[0]? = some x := ⟨_, List.getElem?_eq_getElem h0⟩
      have hc0 := (hll 0 x hx).2 0 _ rfl
      obtain ⟨ab, ao, spot⟩ := a
      have hspot : spot = none := by simpa [Addr.add] using World.cell?_spot hc0
      subst hspot
      have hlt := World.block_lt_of_cell? W _ hc0
      rw [add_none] at hlt
      refine ⟨ab, ao, rfl, hlt, fun i x j v hx hv => ?_⟩
      have := (hll i x hx).2 j v hv
      rwa [add_none, ← Nat.add_assoc] at this
end
end glue
end Go.Proofs.YtliphfgiaioebaaDoor
namespace Go.Proofs.YtliphfgiaioebaaDoor.ropeScripts
set_option linter.unusedVariables false
set_option linter.unusedSimpArgs false
open Go.ChangeShapes Go.WideShapes Go.ChangeAt Go.RowKit Go.Deep Go.Proofs.YtliphfgiaioebaaDoor
set_option maxRecDepth 100000
section
variable {H : Type} {enc : TypeId × Value → H}
theorem contract (W : World) (base : Nat) (args : Array Value) (ds gs : List (DataW H)) (before : List MemPlace)
    (hval : ∀ (j : Nat) t v, Tryd.f3.params[j]? = some t → args[j]? = some v → Value.okWide Tryd.prog W .any base t v)
    (hW : DataW.Whole enc Tryd.prog Tryd.f3.params.toList Rows.ropeScriptsSpec.vars false W args.toList ds gs before) (hL : laidMetH Tryd.prog Rows.ropeScriptsUptoRow.laid W) (hk : Rows.uptoSmall H (ds ++ gs) = true) :
    Calls Tryd.prog 3 args W fun e W' => ∃ v, e = .returned v ∧ Rows.ropeScriptsSpec.post enc Tryd.prog Tryd.f3 false true false false W args v W' := by
  have hW' := hW
  obtain ⟨p, q, hA0, hV, rfl, hfz, hnd⟩ := hW
  have hlt : ∀ x ∈ p, x.block < W.heap.size := fun x hx => hW'.lt x (List.mem_append_left _ hx)
  have hA : DataW.TrodAll enc Tryd.prog W 0 (fun _ => true) true Tryd.f3.params.toList args.toList ds p := hA0
  rw [Tryd.params3] at hA hval
  obtain ⟨v0, v1, v2, d0, d1, d2, p0, p1, p2, hargs, rfl, rfl, h0, h1, h2⟩ := trodAll_three hA
  obtain rfl : args = #[v0, v1, v2] := by cases args; simp_all
  obtain ⟨rfl, rfl⟩ := trodVars_none hV
  have hsm : Rows.uptoBulkAll [d0, d1, d2] ≤ 1048576 := by simpa [Rows.uptoSmall] using hk
  simp only [Rows.uptoBulkAll] at hsm
  obtain ⟨A0, c0, l0, rfl, hb0, hc0, hm0⟩ := glue.open_acts (hval 0 22 v0 rfl rfl) h0 (by omega)
  obtain ⟨a1, rfl, rfl, -, w1⟩ := open_int Tryd.underlying3 (hval 1 3 v1 rfl rfl) h1
  obtain ⟨a2, rfl, rfl, -, w2⟩ := open_int Tryd.underlying3 (hval 2 3 v2 rfl rfl) h2
  refine (RopeScripts_walk A0 c0 l0 a1 a2 W (tabs_laid hL) hb0 hc0 hm0).mono fun e W' ⟨he, hl⟩ => ?_
  subst he
  have ht : ∀ t ∈ Tryd.f3.params.toList, Tryd.prog.readableRec t = true ∧ t < Tryd.prog.types.size := by
    rw [Tryd.params3]
    intro t ht
    simp only [List.mem_cons, List.not_mem_nil, or_false] at ht
    rcases ht with rfl | rfl | rfl
    all_goals exact ⟨by kernel_rfl, of_decide_eq_true (by kernel_rfl)⟩
  exact ⟨_, rfl, _, _, _, _, _, _, hW', trodAll_cons_mk (shut_bool Tryd.underlying4 _) trodAll_mk0, glue.back hl _ _ _ _ hA0 ht hlt, rfl, Below.frame hl _, fun h => by cases h⟩
end
end Go.Proofs.YtliphfgiaioebaaDoor.ropeScripts
