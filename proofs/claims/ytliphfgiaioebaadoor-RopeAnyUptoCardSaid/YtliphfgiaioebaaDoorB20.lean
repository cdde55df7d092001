/-
  Law 9: holds.
-/
import Derived.Test.YtliphfgiaioebaaDoorB19
namespace Go.Proofs.YtliphfgiaioebaaDoor
set_option linter.unusedVariables false
set_option linter.unusedSimpArgs false
open Go.RowKit
set_option maxRecDepth 100000
set_option maxHeartbeats 16000000
theorem Bytes_out (b : Nat) (l : List UInt8) (lo hi : Int) (w : World) (hr : RopeAt w b l) (h : ¬ (0 ≤ lo ∧ lo ≤ hi ∧ hi ≤ l.length)) :
    Calls Tryd.prog 44 #[.pointer (some ⟨b, 0, none⟩), .int .i64 lo, .int .i64 hi] w fun e w' => e = .returned (.tuple #[.slice none 0 0, .int .i64 2]) ∧ Ltr w w' := by
  have hB := Ltr.refl w
  by_cases h2 : hi < 0 ∨ (l.length : Int) < hi
  · skip
    refine (callsIn_wide (n := 0)).1 ?_
    refine callsIn_of_wp_marks Tryd.func44 rfl trivial ?_ rfl
    simp only [Tryd.ntmps44, List.size_toArray, List.length_cons, List.length_nil, Nat.reduceAdd, Nat.reduceSub, Array.replicate_succ, Array.replicate_zero, List.push_toArray, List.append_toArray, List.nil_append, List.cons_append]
    refine (wpIn_wide (n := 0)).2 ?_
    refine wp_seq_k fun KK1 hKK1 => rl_begin fun hgK hgo => ?_
    refine rl_alloc (some 4) 3 #[.int .i64 lo] rfl (by kernel_rfl) (fun W => by kernel_rfl) fun pl w2 hL2 hp2 hpl => ?_
    have hz2 := hL2.size
    have hlt2 := hpl.lt
    try simp only [pp]
    refine rl_alloc (some 5) 3 #[.int .i64 hi] rfl (by kernel_rfl) (fun W => by kernel_rfl) fun ph w3 hL3 hp3 hph => ?_
    have hz3 := hL3.size
    have hlt3 := hph.lt
    try simp only [pp]
    refine tk 6 (.slice none 0 0) <| tk 7 (.int .i64 0) ?_
    simp only [pp]
    refine rl_end hgo <| hKK1 _ _ <| wp_seq_k fun KK4 hKK4 => wp_seq_k fun KK5 hKK5 => rl_begin fun hgK hgo => tk 11 (.pointer (some ⟨b, 0, none⟩)) ?_
    simp only [pp]
    refine tx 12 (.int .i64 hi) (by exact ld 3 ph 0 (hph.cell 0)) ?_
    simp only [pp]
    replace hr := (hr.later hL2).later hL3
    refine rl_call (some 13) 77 #[.pointer (some ⟨b, 0, none⟩), .int .i64 hi] rfl (by kernel_rfl) (by kernel_rfl) (place_out b l hi h2 _ hr) ?_
    rintro e w6 ⟨rfl, hL6⟩
    refine ⟨_, rfl, ?_⟩
    have hz6 := hL6.size
    try simp only [pp]
    refine tk 8 (.int .i64 2) ?_
    simp only [pp]
    refine rl_end hgo <| hKK5 _ _ <| wp_seq_k fun KK7 hKK7 => rl_begin fun hgK hgo => tk 14 (.int .i64 2) ?_
    simp only [pp]
    refine tx 15 (.bool true) (by exact net (x := 2) (y := 0) (by omega)) ?_
    simp only [pp]
    refine rl_end hgo <| hKK7 _ _ <| wp_cond_true (by kernel_rfl) <| wp_seq_k fun KK8 hKK8 => rl_begin fun hgK hgo => tk 16 (.int .i64 2) <| tk 6 (.slice none 0 0) <| tk 7 (.int .i64 2) ?_
    simp only [pp]
    refine rl_end hgo <| hKK8 _ _ ?_
    refine wp_ret ?_
    try simp only [Exit.then, Exit.inBlock]
    refine bm_ret (v := .tuple #[.slice none 0 0, .int .i64 2]) (res2 rfl (res_tmp (by kernel_rfl)) (res_tmp (by kernel_rfl))) ?_
    replace hB := ((hB.later hL2).later hL3).later hL6
    exact ⟨rfl, hB⟩
  · obtain ⟨k, rfl⟩ := Int.eq_ofNat_of_zero_le (by omega : 0 ≤ hi)
    refine (callsIn_wide (n := 0)).1 ?_
    refine callsIn_of_wp_marks Tryd.func44 rfl trivial ?_ rfl
    simp only [Tryd.ntmps44, List.size_toArray, List.length_cons, List.length_nil, Nat.reduceAdd, Nat.reduceSub, Array.replicate_succ, Array.replicate_zero, List.push_toArray, List.append_toArray, List.nil_append, List.cons_append]
    refine (wpIn_wide (n := 0)).2 ?_
    refine wp_seq_k fun KK1 hKK1 => rl_begin fun hgK hgo => ?_
    refine rl_alloc (some 4) 3 #[.int .i64 lo] rfl (by kernel_rfl) (fun W => by kernel_rfl) fun pl w2 hL2 hp2 hpl => ?_
    have hz2 := hL2.size
    have hlt2 := hpl.lt
    try simp only [pp]
    refine rl_alloc (some 5) 3 #[.int .i64 (k : Int)] rfl (by kernel_rfl) (fun W => by kernel_rfl) fun ph w3 hL3 hp3 hph => ?_
    have hz3 := hL3.size
    have hlt3 := hph.lt
    try simp only [pp]
    refine tk 6 (.slice none 0 0) <| tk 7 (.int .i64 0) ?_
    simp only [pp]
    refine rl_end hgo <| hKK1 _ _ <| wp_seq_k fun KK4 hKK4 => wp_seq_k fun KK5 hKK5 => rl_begin fun hgK hgo => tk 11 (.pointer (some ⟨b, 0, none⟩)) ?_
    simp only [pp]
    refine tx 12 (.int .i64 (k : Int)) (by exact ld 3 ph 0 (hph.cell 0)) ?_
    simp only [pp]
    replace hr := (hr.later hL2).later hL3
    refine rl_call (some 13) 77 #[.pointer (some ⟨b, 0, none⟩), .int .i64 (k : Int)] rfl (by kernel_rfl) (by kernel_rfl) (place_in b l k (by omega) _ hr) ?_
    rintro e w6 ⟨rfl, hL6⟩
    refine ⟨_, rfl, ?_⟩
    have hz6 := hL6.size
    try simp only [pp]
    refine tk 8 (.int .i64 0) ?_
    simp only [pp]
    refine rl_end hgo <| hKK5 _ _ <| wp_seq_k fun KK7 hKK7 => rl_begin fun hgK hgo => tk 14 (.int .i64 0) ?_
    simp only [pp]
    refine tx 15 (.bool false) (by exact nef (x := 0) (y := 0) (by omega)) ?_
    simp only [pp]
    refine rl_end hgo <| hKK7 _ _ <| wp_cond_false (by kernel_rfl) <| wp_skip <| hKK4 _ _ <| wp_seq_k fun KK8 hKK8 => wp_seq_k fun KK9 hKK9 => rl_begin fun hgK hgo => ?_
    replace hpl := (hpl.later hL3).later hL6
    refine tx 17 (.int .i64 lo) (by exact ld 3 pl 0 (hpl.cell 0)) ?_
    simp only [pp]
    replace hB := ((hB.later hL2).later hL3).later hL6
    replace hr := hr.later hL6
    replace hph := hph.later hL6
    by_cases h3 : lo < 0
    ·refine tx 18 (.bool true) (by exact ebt (c := (lo : Int) < 0) (by omega)) <| tk 19 (.bool true) ?_
     simp only [pp]
     refine rl_pass (some 20) rfl (by kernel_rfl) ?_
     try simp only [pp]
     refine rl_pass (some 21) rfl (by kernel_rfl) ?_
     try simp only [pp]
     refine rl_pass (some 22) rfl (by kernel_rfl) ?_
     try simp only [pp]
     refine tk 23 (.bool true) ?_
     simp only [pp]
     refine rl_end hgo <| hKK9 _ _ <| wp_cond_true (by kernel_rfl) <| wp_seq_k fun KK10 hKK10 => rl_begin fun hgK hgo => tk 6 (.slice none 0 0) <| tk 7 (.int .i64 2) ?_
     simp only [pp]
     refine rl_end hgo <| hKK10 _ _ ?_
     refine wp_ret ?_
     try simp only [Exit.then, Exit.inBlock]
     refine bm_ret (v := .tuple #[.slice none 0 0, .int .i64 2]) (res2 rfl (res_tmp (by kernel_rfl)) (res_tmp (by kernel_rfl))) ?_
     exact ⟨rfl, hB⟩
    ·refine tx 18 (.bool false) (by exact ebf (c := (lo : Int) < 0) (by omega)) <| tk 19 (.bool false) ?_
     simp only [pp]
     refine tx 20 (.int .i64 lo) (by exact ld 3 pl 0 (hpl.cell 0)) ?_
     simp only [pp]
     refine tx 21 (.int .i64 (k : Int)) (by exact ld 3 ph 0 (hph.cell 0)) ?_
     simp only [pp]
     refine tx 22 (.bool true) (by exact ebt (c := (lo : Int) > (k : Int)) (by omega)) <| tk 23 (.bool true) ?_
     simp only [pp]
     refine rl_end hgo <| hKK9 _ _ <| wp_cond_true (by kernel_rfl) <| wp_seq_k fun KK11 hKK11 => rl_begin fun hgK hgo => tk 6 (.slice none 0 0) <| tk 7 (.int .i64 2) ?_
     simp only [pp]
     refine rl_end hgo <| hKK11 _ _ ?_
     refine wp_ret ?_
     try simp only [Exit.then, Exit.inBlock]
     refine bm_ret (v := .tuple #[.slice none 0 0, .int .i64 2]) (res2 rfl (res_tmp (by kernel_rfl)) (res_tmp (by kernel_rfl))) ?_
     exact ⟨rfl, hB⟩
theorem Before_out (b : Nat) (l : List UInt8) (n : Int) (w : World) (hr : RopeAt w b l) (h : n < 0 ∨ (l.length : Int) < n) :
    Calls Tryd.prog 43 #[.pointer (some ⟨b, 0, none⟩), .int .i64 n] w fun e w' => e = .returned (.tuple #[.agg #[.int .i64 0, .int .i64 0, .int .i64 0, .int .i64 0, .string ⟨#[]⟩, .string ⟨#[]⟩], .int .i64 2]) ∧ Ltr w w' := by
  have hB := Ltr.refl w
  go_enter Tryd.func43, Tryd.ntmps43
  refine wp_seq_k fun KK1 hKK1 => rl_begin fun hgK hgo => ?_
  refine rl_alloc (some 4) 36 #[.int .i64 0, .int .i64 0, .int .i64 0, .int .i64 0, .string ⟨#[]⟩, .string ⟨#[]⟩] rfl (by kernel_rfl) (fun W => by kernel_rfl) fun rr w2 hL2 hp2 hrr => ?_
  have hz2 := hL2.size
  have hlt2 := hrr.lt
  try simp only [pp]
  refine tk 5 (.int .i64 0) ?_
  simp only [pp]
  refine rl_end hgo <| hKK1 _ _ <| wp_seq_k fun KK3 hKK3 => wp_seq_k fun KK4 hKK4 => rl_begin fun hgK hgo => tk 13 (.pointer (some ⟨b, 0, none⟩)) <| tk 14 (.int .i64 n) ?_
  simp only [pp]
  replace hr := hr.later hL2
  refine rl_call (some 15) 77 #[.pointer (some ⟨b, 0, none⟩), .int .i64 n] rfl (by kernel_rfl) (by kernel_rfl) (place_out b l n h _ hr) ?_
  rintro e w5 ⟨rfl, hL5⟩
  refine ⟨_, rfl, ?_⟩
  have hz5 := hL5.size
  clear hr
  try simp only [pp]
  refine tk 6 (.int .i64 2) ?_
  simp only [pp]
  refine rl_end hgo <| hKK4 _ _ <| wp_seq_k fun KK6 hKK6 => rl_begin fun hgK hgo => tk 16 (.int .i64 2) ?_
  simp only [pp]
  refine tx 17 (.bool true) (by exact net (x := 2) (y := 0) (by omega)) ?_
  simp only [pp]
  refine rl_end hgo <| hKK6 _ _ <| wp_cond_true (by kernel_rfl) <| wp_seq_k fun KK7 hKK7 => rl_begin fun hgK hgo => tk 18 (.agg #[.int .i64 0, .int .i64 0, .int .i64 0, .int .i64 0, .string ⟨#[]⟩, .string ⟨#[]⟩]) <| tk 19 (.int .i64 2) ?_
  simp only [pp]
  replace hrr := hrr.later hL5
  refine rl_store rr #[.int .i64 0, .int .i64 0, .int .i64 0, .int .i64 0, .string ⟨#[]⟩, .string ⟨#[]⟩] rfl rfl (by kernel_rfl) rfl rfl (by kernel_rfl) hrr rfl (by kernel_rfl) fun w8 hU8 hn8 => ?_
  have hz8 := hU8.size
  replace hB := (hB.later hL2).later hL5
  replace hB := hB.upd hU8 (by omega)
  clear hrr
  have hrr := hn8
  clear hn8
  try simp only [pp]
  refine tk 5 (.int .i64 2) ?_
  simp only [pp]
  refine rl_end hgo <| hKK7 _ _ ?_
  refine wp_ret ?_
  try simp only [Exit.then, Exit.inBlock]
  refine bp_ret (v := .tuple #[.agg #[.int .i64 0, .int .i64 0, .int .i64 0, .int .i64 0, .string ⟨#[]⟩, .string ⟨#[]⟩], .int .i64 2]) (res2 rfl (res_cell (b := rr) (cs := [.int .i64 0, .int .i64 0, .int .i64 0, .int .i64 0, .string ⟨#[]⟩, .string ⟨#[]⟩]) (by kernel_rfl) (fun _ => by kernel_rfl) (by kernel_rfl) hrr) (res_tmp (by kernel_rfl))) ?_
  exact ⟨rfl, hB⟩
theorem Before_in (b : Nat) (l : List UInt8) (n : Nat) (w : World) (hT : Tabs w) (hr : RopeAt w b l) (hn : n ≤ l.length) (hm : l.length ≤ 200000000) :
    Calls Tryd.prog 43 #[.pointer (some ⟨b, 0, none⟩), .int .i64 n] w fun e w' => e = .returned (.tuple #[wv (l.take n), .int .i64 0]) ∧ Ltr w w' := by
  rcases Nat.eq_zero_or_pos n with h | h
  · subst h; exact Before_0 b l w hT hr
  · exact Before_1 b l n w hT hr h hn hm
theorem ex_wne' {o : Oper} {ρ : Operand → Value} {x y : Operand} (t : List UInt8) (ho : o.op = .binOp .neq 36 x y 36) (hx : ρ x = wv t) (hy : ρ y = wv t) (w : World) : (execOp ρ o).run Tryd.prog w = .ok (.value (.bool false)) w := by
  unfold wv at hx hy
  unfold execOp
  simp only [ho, hx, hy]
  go_simp
theorem ex_weq' {o : Oper} {ρ : Operand → Value} {x y : Operand} (t : List UInt8) (ho : o.op = .binOp .eql 36 x y 36) (hx : ρ x = wv t) (hy : ρ y = wv t) (w : World) : (execOp ρ o).run Tryd.prog w = .ok (.value (.bool true)) w := by
  unfold wv at hx hy
  unfold execOp
  simp only [ho, hx, hy]
  go_simp
theorem ex_conv_ownD {o : Oper} {ρ : Operand → Value} (x : Operand) (ho : o.op = .convert 9 41 x) (l : List UInt8) (hx : ρ x = .string (bs l)) (w : World) :
    ∃ v w', (execOp ρ o).run Tryd.prog w = .ok (.value v) w' ∧ Ltr w w' ∧ ∃ A c, v = .slice A l.length c ∧ BytesAt w' A l ∧ l.length ≤ c := by
  obtain ⟨v, w', h1, A, c, h2, h3, h4⟩ := ex_conv_own x ho l hx w
  exact ⟨v, w', h1, h3, A, c, h2, h4.bytes, h4.2.1⟩
theorem holds_in (b : Nat) (t : List UInt8) (lo hi : Nat) (w : World) (hT : Tabs w) (hr : RopeAt w b t) (ht : t.length ≤ 4000000) (h1 : lo ≤ hi) (h2 : hi ≤ t.length) :
    Calls Tryd.prog 19 #[.pointer (some ⟨b, 0, none⟩), .string (bs t), .int .i64 lo, .int .i64 hi] w fun e w' => e = .returned (.bool true) ∧ Ltr w w' := by
  have hB := Ltr.refl w
  go_enter Tryd.func19, Tryd.ntmps19
  have h4 := hT.four
  refine wp_seq_k fun KK1 hKK1 => rl_begin fun hgK hgo => tk 8 (.bool false) ?_
  simp only [pp]
  refine rl_end hgo <| hKK1 _ _ <| wp_seq_k fun KK2 hKK2 => wp_seq_k fun KK3 hKK3 => rl_begin fun hgK hgo => tk 13 (.pointer (some ⟨b, 0, none⟩)) ?_
  simp only [pp]
  refine rl_call (some 14) 45 #[.pointer (some ⟨b, 0, none⟩)] rfl (by kernel_rfl) (by kernel_rfl) (Len_any b t _ hr) ?_
  rintro e w4 ⟨rfl, hL4⟩
  refine ⟨_, rfl, ?_⟩
  have hz4 := hL4.size
  try simp only [pp]
  refine tk 15 (.string (bs t)) ?_
  simp only [pp]
  refine tx 16 (.int .i64 t.length) (by exact ex_len_bs (by kernel_rfl)) ?_
  simp only [pp]
  refine tx 17 (.bool false) (by exact nef (x := t.length) (y := t.length) (by omega)) <| tk 18 (.bool false) <| tk 19 (.pointer (some ⟨b, 0, none⟩)) ?_
  simp only [pp]
  replace hr := hr.later hL4
  refine rl_call (some 20) 33 #[.pointer (some ⟨b, 0, none⟩)] rfl (by kernel_rfl) (by kernel_rfl) (text_any b t _ hr (by omega)) ?_
  rintro e w5 ⟨rfl, hL5⟩
  refine ⟨_, rfl, ?_⟩
  have hz5 := hL5.size
  try simp only [pp]
  refine tk 21 (.string (bs t)) ?_
  simp only [pp]
  refine tx 22 (.bool false) (by exact ex_ne_lit (a := t) (b := t) (by kernel_rfl) rfl) <| tk 23 (.bool false) <| tk 24 (.bool false) <| tk 25 (.pointer (some ⟨b, 0, none⟩)) ?_
  simp only [pp]
  replace hT := (hT.later hL4).later hL5
  replace hr := hr.later hL5
  refine rl_call (some 26) 41 #[.pointer (some ⟨b, 0, none⟩)] rfl (by kernel_rfl) (by kernel_rfl) (RWeld_any b t _ hT hr) ?_
  rintro e w6 ⟨rfl, hL6⟩
  refine ⟨_, rfl, ?_⟩
  have hz6 := hL6.size
  try simp only [pp]
  refine tk 27 (.string (bs t)) ?_
  simp only [pp]
  refine rl_new (some 28) rfl (by kernel_rfl) (ex_conv_own _ rfl t rfl _) ?_
  rintro v7 w7 ⟨A5, c5, rfl, hL7, hbS5⟩
  have hz7 := hL7.size
  try simp only [pp]
  refine rl_call (some 29) 24 #[.slice A5 t.length c5] rfl (by kernel_rfl) (by kernel_rfl) (Of_ref A5 c5 t _ hbS5.bytes hbS5.2.1 (by omega)) ?_
  rintro e w8 ⟨rfl, hL8⟩
  refine ⟨_, rfl, ?_⟩
  have hz8 := hL8.size
  clear hbS5
  try simp only [pp]
  refine tx 30 (.bool false) (by exact ex_wne' t rfl rfl rfl _) <| tk 31 (.bool false) ?_
  simp only [pp]
  refine rl_end hgo <| hKK3 _ _ <| wp_cond_false (by kernel_rfl) <| wp_skip <| hKK2 _ _ <| wp_seq_k fun KK9 hKK9 => rl_begin fun hgK hgo => tk 33 (.pointer (some ⟨b, 0, none⟩)) <| tk 34 (.int .i64 lo) <| tk 35 (.int .i64 hi) ?_
  simp only [pp]
  replace hr := ((hr.later hL6).later hL7).later hL8
  refine rl_call (some 36) 44 #[.pointer (some ⟨b, 0, none⟩), .int .i64 lo, .int .i64 hi] rfl (by kernel_rfl) (by kernel_rfl) (Bytes_in b t lo hi _ hr h1 h2 (by omega)) ?_
  rintro e w10 ⟨A1, c1, rfl, hL10, hx⟩
  refine ⟨_, rfl, ?_⟩
  have hz10 := hL10.size
  (replace hx := hx.bytes)
  try simp only [pp]
  refine tk 32 (.tuple #[.slice A1 ((t.take hi).drop lo).length c1, .int .i64 0]) <| tk 37 (.slice A1 ((t.take hi).drop lo).length c1) <| tk 38 (.int .i64 0) <| tk 9 (.slice A1 ((t.take hi).drop lo).length c1) <| tk 10 (.int .i64 0) ?_
  simp only [pp]
  refine rl_end hgo <| hKK9 _ _ <| wp_seq_k fun KK11 hKK11 => wp_seq_k fun KK12 hKK12 => rl_begin fun hgK hgo => tk 39 (.string (bs t)) ?_
  simp only [pp]
  refine tx 40 (.int .i64 t.length) (by exact ex_len_bs (by kernel_rfl)) <| tk 41 (.int .i64 lo) <| tk 42 (.int .i64 hi) ?_
  simp only [pp]
  refine rl_call (some 43) 59 #[.int .i64 t.length, .int .i64 lo, .int .i64 hi] rfl (by kernel_rfl) (by kernel_rfl) (Span_true t.length lo hi (by omega) _) ?_
  rintro e w13 ⟨rfl, hL13⟩
  refine ⟨_, rfl, ?_⟩
  have hz13 := hL13.size
  try simp only [pp]
  refine tk 44 (.bool false) ?_
  simp only [pp]
  refine rl_end hgo <| hKK12 _ _ <| wp_cond_false (by kernel_rfl) <| wp_seq_k fun KK14 hKK14 => ?_
  refine rm_begin (fun W => Ltr w13 W) (by kernel_rfl) (by exact bl_drew (bl_refl _)) fun K15 hgo w15 hE hS15 => ?_
  have hv15 : Ltr w13 w15 := by rw [hE]; exact bl_drew (bl_refl _)
  have hz15 := hv15.size
  clear hE hS15
  refine mk 0 52 (.int .i64 0) ?_
  try simp only [pp]
  refine mx 1 53 (.bool false) rfl (fun W hW => by (exact nef (x := 0) (y := 0) (by omega))) <| mk 2 54 (.bool false) <| mk 3 55 (.slice A1 ((t.take hi).drop lo).length c1) ?_
  try simp only [pp]
  replace hx := hx.later hL13
  refine mx 4 56 (.string (bs ((t.take hi).drop lo))) rfl (fun W hW => by (exact ex_conv_str _ rfl A1 c1 ((t.take hi).drop lo) rfl (hx.later hW))) <| mk 5 57 (.string (bs t)) <| mk 6 58 (.int .i64 lo) <| mk 7 59 (.int .i64 hi) ?_
  try simp only [pp]
  refine mx 8 60 (.string (bs ((t.take hi).drop lo))) rfl (fun W hW => by (exact ex_str_cut t lo hi rfl rfl (.inl rfl) (.inl rfl) (by kernel_rfl) h1 h2 (by omega) _)) ?_
  try simp only [pp]
  refine mx 9 61 (.bool false) rfl (fun W hW => by (exact ex_ne_lit (a := (t.take hi).drop lo) (b := (t.take hi).drop lo) (by kernel_rfl) rfl)) <| mk 10 62 (.bool false) ?_
  try simp only [pp]
  refine rm_done (by kernel_rfl) (fun w16 hL16 hS16 => hgo.out _ _ ?_) _
  clear hgo K15
  have hz16 := (show Ltr w13 _ from hS16).size
  have hy16 := hL16.size
  refine hKK14 _ _ <| wp_cond_false (by kernel_rfl) <| wp_skip <| hKK11 _ _ <| wp_seq_k fun KK17 hKK17 => rl_begin fun hgK hgo => tk 64 (.pointer (some ⟨b, 0, none⟩)) <| tk 65 (.int .i64 lo) ?_
  simp only [pp]
  replace hT := (((((hT.later hL6).later hL7).later hL8).later hL10).later hL13).later (show Ltr w13 _ from hS16)
  replace hr := ((hr.later hL10).later hL13).later (show Ltr w13 _ from hS16)
  refine rl_call (some 66) 43 #[.pointer (some ⟨b, 0, none⟩), .int .i64 lo] rfl (by kernel_rfl) (by kernel_rfl) (Before_in b t lo _ hT hr (by omega) (by omega)) ?_
  rintro e w18 ⟨rfl, hL18⟩
  refine ⟨_, rfl, ?_⟩
  have hz18 := hL18.size
  clear hr
  clear hT
  try simp only [pp]
  refine tk 63 (.tuple #[.agg #[.int .i64 (t.take lo).length, .int .i64 (runesN (t.take lo)), .int .i64 (unitsN (t.take lo)), .int .i64 (endsN (t.take lo)), .string (bs (headOf (t.take lo))), .string (bs (tailOf (t.take lo)))], .int .i64 0]) <| tk 67 (.agg #[.int .i64 (t.take lo).length, .int .i64 (runesN (t.take lo)), .int .i64 (unitsN (t.take lo)), .int .i64 (endsN (t.take lo)), .string (bs (headOf (t.take lo))), .string (bs (tailOf (t.take lo)))]) <| tk 68 (.int .i64 0) ?_
  simp only [pp]
  refine rl_alloc (some 11) 36 #[.int .i64 0, .int .i64 0, .int .i64 0, .int .i64 0, .string ⟨#[]⟩, .string ⟨#[]⟩] rfl (by kernel_rfl) (fun W => by kernel_rfl) fun ww w19 hL19 hp19 hww => ?_
  have hz19 := hL19.size
  have hlt19 := hww.lt
  try simp only [pp]
  refine rl_store ww #[.int .i64 (t.take lo).length, .int .i64 (runesN (t.take lo)), .int .i64 (unitsN (t.take lo)), .int .i64 (endsN (t.take lo)), .string (bs (headOf (t.take lo))), .string (bs (tailOf (t.take lo)))] rfl rfl (by kernel_rfl) rfl rfl (by kernel_rfl) hww rfl (by kernel_rfl) fun w20 hU20 hn20 => ?_
  have hz20 := hU20.size
  clear hx
  replace hB := (((((((((hB.later hL4).later hL5).later hL6).later hL7).later hL8).later hL10).later hL13).later (show Ltr w13 _ from hS16)).later hL18).later hL19
  replace hB := hB.upd hU20 (by omega)
  clear hww
  have hww := hn20
  clear hn20
  try simp only [pp]
  refine tk 12 (.int .i64 0) ?_
  simp only [pp]
  refine rl_end hgo <| hKK17 _ _ <| wp_seq_k fun KK21 hKK21 => wp_seq_k fun KK22 hKK22 => rl_begin fun hgK hgo => tk 69 (.int .i64 lo) ?_
  simp only [pp]
  refine tx 70 (.bool false) (by exact ebf (c := (lo : Int) < 0) (by omega)) <| tk 71 (.bool false) <| tk 72 (.int .i64 lo) <| tk 73 (.string (bs t)) ?_
  simp only [pp]
  refine tx 74 (.int .i64 t.length) (by exact ex_len_bs (by kernel_rfl)) ?_
  simp only [pp]
  refine tx 75 (.bool false) (by exact ebf (c := (lo : Int) > t.length) (by omega)) <| tk 76 (.bool false) ?_
  simp only [pp]
  refine rl_end hgo <| hKK22 _ _ <| wp_cond_false (by kernel_rfl) <| wp_skip <| hKK21 _ _ <| wp_seq_k fun KK23 hKK23 => ?_
  refine rm_begin (fun W => Ltr w20 W) (by kernel_rfl) (by exact bl_drew (bl_refl _)) fun K24 hgo w24 hE hS24 => ?_
  have hv24 : Ltr w20 w24 := by rw [hE]; exact bl_drew (bl_refl _)
  have hz24 := hv24.size
  clear hE hS24
  refine mk 0 84 (.int .i64 0) ?_
  try simp only [pp]
  refine mx 1 85 (.bool true) rfl (fun W hW => by (exact eqt (x := 0) (y := 0) (by omega))) <| mk 2 86 (.bool true) ?_
  try simp only [pp]
  refine mx 3 87 (.agg #[.int .i64 (t.take lo).length, .int .i64 (runesN (t.take lo)), .int .i64 (unitsN (t.take lo)), .int .i64 (endsN (t.take lo)), .string (bs (headOf (t.take lo))), .string (bs (tailOf (t.take lo)))]) rfl (fun W hW => by (exact ldN 36 _ rfl ww 0 rfl (fun _ => by kernel_rfl) [] [.int .i64 (t.take lo).length, .int .i64 (runesN (t.take lo)), .int .i64 (unitsN (t.take lo)), .int .i64 (endsN (t.take lo)), .string (bs (headOf (t.take lo))), .string (bs (tailOf (t.take lo)))] [] (by kernel_rfl) (hww.later hW) rfl rfl)) <| mk 4 88 (.string (bs t)) <| mk 5 89 (.int .i64 lo) ?_
  try simp only [pp]
  refine mx 6 90 (.string (bs (t.take lo))) rfl (fun W hW => by (exact ex_str_take t lo rfl rfl rfl (by kernel_rfl) (by omega) (by omega) _)) ?_
  try simp only [pp]
  refine rm_pick1 (i := 7) (by kernel_rfl) ?_
  refine rm_new (some 91) _ rfl rfl (by kernel_rfl) (fun W hlz hW => ex_conv_ownD _ rfl (t.take lo) rfl W) (fun _ _ h k => Ltr.trans h k) ?_
  rintro v25 w25 hL25 ⟨A7, c7, rfl, hbS7, hl7⟩ hS25
  have hz25 := hL25.size
  try simp only [pp]
  refine rm_pick1 (i := 8) (by kernel_rfl) ?_
  refine rm_callx (some 92) 24 #[.slice A7 (t.take lo).length c7] rfl rfl (by kernel_rfl) (fun W hW => by kernel_rfl) (fun W hlz hW => Of_ref A7 c7 (t.take lo) W (hbS7.later hlz) hl7 (by rw [List.length_take]; omega)) (by rintro W e w' ⟨rfl, hL26⟩; exact hL26) (fun _ _ h k => Ltr.trans h k) ?_
  rintro q26 e w26 hq26 hQ26 ⟨rfl, hL26⟩ hS26
  refine ⟨_, rfl, ?_⟩
  replace hbS7 := (hbS7.later hq26).later hL26
  have hz26 := hL26.size
  have hy26 := hq26.size
  try simp only [pp]
  refine mx 9 93 (.bool true) rfl (fun W hW => by (exact ex_weq' (t.take lo) rfl rfl rfl _)) <| mk 10 94 (.bool true) <| mk 11 8 (.bool true) ?_
  try simp only [pp]
  refine rm_done (by kernel_rfl) (fun w27 hL27 hS27 => hgo.out _ _ ?_) _
  clear hgo K24
  have hz27 := (show Ltr w20 _ from hS27).size
  have hy27 := hL27.size
  refine hKK23 _ _ ?_
  refine wp_ret ?_
  try simp only [Exit.then, Exit.inBlock]
  refine bp_ret (v := .bool true) (res1 rfl (res_tmp (by kernel_rfl))) ?_
  replace hB := hB.later (show Ltr w20 _ from hS27)
  exact ⟨rfl, hB⟩
theorem holds_mid (b : Nat) (t : List UInt8) (lo : Nat) (hi : Int) (w : World) (hT : Tabs w) (hr : RopeAt w b t) (ht : t.length ≤ 4000000) (h1 : lo ≤ t.length) (h2 : ¬ (0 ≤ (lo : Int) ∧ (lo : Int) ≤ hi ∧ hi ≤ t.length)) :
    Calls Tryd.prog 19 #[.pointer (some ⟨b, 0, none⟩), .string (bs t), .int .i64 lo, .int .i64 hi] w fun e w' => e = .returned (.bool true) ∧ Ltr w w' := by
  have hB := Ltr.refl w
  go_enter Tryd.func19, Tryd.ntmps19
  have h4 := hT.four
  refine wp_seq_k fun KK1 hKK1 => rl_begin fun hgK hgo => tk 8 (.bool false) ?_
  simp only [pp]
  refine rl_end hgo <| hKK1 _ _ <| wp_seq_k fun KK2 hKK2 => wp_seq_k fun KK3 hKK3 => rl_begin fun hgK hgo => tk 13 (.pointer (some ⟨b, 0, none⟩)) ?_
  simp only [pp]
  refine rl_call (some 14) 45 #[.pointer (some ⟨b, 0, none⟩)] rfl (by kernel_rfl) (by kernel_rfl) (Len_any b t _ hr) ?_
  rintro e w4 ⟨rfl, hL4⟩
  refine ⟨_, rfl, ?_⟩
  have hz4 := hL4.size
  try simp only [pp]
  refine tk 15 (.string (bs t)) ?_
  simp only [pp]
  refine tx 16 (.int .i64 t.length) (by exact ex_len_bs (by kernel_rfl)) ?_
  simp only [pp]
  refine tx 17 (.bool false) (by exact nef (x := t.length) (y := t.length) (by omega)) <| tk 18 (.bool false) <| tk 19 (.pointer (some ⟨b, 0, none⟩)) ?_
  simp only [pp]
  replace hr := hr.later hL4
  refine rl_call (some 20) 33 #[.pointer (some ⟨b, 0, none⟩)] rfl (by kernel_rfl) (by kernel_rfl) (text_any b t _ hr (by omega)) ?_
  rintro e w5 ⟨rfl, hL5⟩
  refine ⟨_, rfl, ?_⟩
  have hz5 := hL5.size
  try simp only [pp]
  refine tk 21 (.string (bs t)) ?_
  simp only [pp]
  refine tx 22 (.bool false) (by exact ex_ne_lit (a := t) (b := t) (by kernel_rfl) rfl) <| tk 23 (.bool false) <| tk 24 (.bool false) <| tk 25 (.pointer (some ⟨b, 0, none⟩)) ?_
  simp only [pp]
  replace hT := (hT.later hL4).later hL5
  replace hr := hr.later hL5
  refine rl_call (some 26) 41 #[.pointer (some ⟨b, 0, none⟩)] rfl (by kernel_rfl) (by kernel_rfl) (RWeld_any b t _ hT hr) ?_
  rintro e w6 ⟨rfl, hL6⟩
  refine ⟨_, rfl, ?_⟩
  have hz6 := hL6.size
  try simp only [pp]
  refine tk 27 (.string (bs t)) ?_
  simp only [pp]
  refine rl_new (some 28) rfl (by kernel_rfl) (ex_conv_own _ rfl t rfl _) ?_
  rintro v7 w7 ⟨A5, c5, rfl, hL7, hbS5⟩
  have hz7 := hL7.size
  try simp only [pp]
  refine rl_call (some 29) 24 #[.slice A5 t.length c5] rfl (by kernel_rfl) (by kernel_rfl) (Of_ref A5 c5 t _ hbS5.bytes hbS5.2.1 (by omega)) ?_
  rintro e w8 ⟨rfl, hL8⟩
  refine ⟨_, rfl, ?_⟩
  have hz8 := hL8.size
  clear hbS5
  try simp only [pp]
  refine tx 30 (.bool false) (by exact ex_wne' t rfl rfl rfl _) <| tk 31 (.bool false) ?_
  simp only [pp]
  refine rl_end hgo <| hKK3 _ _ <| wp_cond_false (by kernel_rfl) <| wp_skip <| hKK2 _ _ <| wp_seq_k fun KK9 hKK9 => rl_begin fun hgK hgo => tk 33 (.pointer (some ⟨b, 0, none⟩)) <| tk 34 (.int .i64 lo) <| tk 35 (.int .i64 hi) ?_
  simp only [pp]
  replace hr := ((hr.later hL6).later hL7).later hL8
  refine rl_call (some 36) 44 #[.pointer (some ⟨b, 0, none⟩), .int .i64 lo, .int .i64 hi] rfl (by kernel_rfl) (by kernel_rfl) (Bytes_out b t lo hi _ hr h2) ?_
  rintro e w10 ⟨rfl, hL10⟩
  refine ⟨_, rfl, ?_⟩
  have hz10 := hL10.size
  try simp only [pp]
  refine tk 32 (.tuple #[.slice none 0 0, .int .i64 2]) <| tk 37 (.slice none 0 0) <| tk 38 (.int .i64 2) <| tk 9 (.slice none 0 0) <| tk 10 (.int .i64 2) ?_
  simp only [pp]
  refine rl_end hgo <| hKK9 _ _ <| wp_seq_k fun KK11 hKK11 => wp_seq_k fun KK12 hKK12 => rl_begin fun hgK hgo => tk 39 (.string (bs t)) ?_
  simp only [pp]
  refine tx 40 (.int .i64 t.length) (by exact ex_len_bs (by kernel_rfl)) <| tk 41 (.int .i64 lo) <| tk 42 (.int .i64 hi) ?_
  simp only [pp]
  refine rl_call (some 43) 59 #[.int .i64 t.length, .int .i64 lo, .int .i64 hi] rfl (by kernel_rfl) (by kernel_rfl) (Span_false t.length lo hi h2 _) ?_
  rintro e w13 ⟨rfl, hL13⟩
  refine ⟨_, rfl, ?_⟩
  have hz13 := hL13.size
  try simp only [pp]
  refine tk 44 (.bool true) ?_
  simp only [pp]
  refine rl_end hgo <| hKK12 _ _ <| wp_cond_true (by kernel_rfl) <| wp_seq_k fun KK14 hKK14 => rl_begin fun hgK hgo => tk 45 (.int .i64 2) ?_
  simp only [pp]
  refine tx 46 (.bool false) (by exact nef (x := 2) (y := 2) (by omega)) <| tk 47 (.bool false) <| tk 48 (.slice none 0 0) <| tk 49 (.int .i64 0) ?_
  simp only [pp]
  refine tx 50 (.bool false) (by exact nef (x := 0) (y := 0) (by omega)) <| tk 51 (.bool false) ?_
  simp only [pp]
  refine rl_end hgo <| hKK14 _ _ <| wp_cond_false (by kernel_rfl) <| wp_skip <| hKK11 _ _ <| wp_seq_k fun KK15 hKK15 => rl_begin fun hgK hgo => tk 64 (.pointer (some ⟨b, 0, none⟩)) <| tk 65 (.int .i64 lo) ?_
  simp only [pp]
  replace hT := ((((hT.later hL6).later hL7).later hL8).later hL10).later hL13
  replace hr := (hr.later hL10).later hL13
  refine rl_call (some 66) 43 #[.pointer (some ⟨b, 0, none⟩), .int .i64 lo] rfl (by kernel_rfl) (by kernel_rfl) (Before_in b t lo _ hT hr (by omega) (by omega)) ?_
  rintro e w16 ⟨rfl, hL16⟩
  refine ⟨_, rfl, ?_⟩
  have hz16 := hL16.size
  clear hr
  clear hT
  try simp only [pp]
  refine tk 63 (.tuple #[.agg #[.int .i64 (t.take lo).length, .int .i64 (runesN (t.take lo)), .int .i64 (unitsN (t.take lo)), .int .i64 (endsN (t.take lo)), .string (bs (headOf (t.take lo))), .string (bs (tailOf (t.take lo)))], .int .i64 0]) <| tk 67 (.agg #[.int .i64 (t.take lo).length, .int .i64 (runesN (t.take lo)), .int .i64 (unitsN (t.take lo)), .int .i64 (endsN (t.take lo)), .string (bs (headOf (t.take lo))), .string (bs (tailOf (t.take lo)))]) <| tk 68 (.int .i64 0) ?_
  simp only [pp]
  refine rl_alloc (some 11) 36 #[.int .i64 0, .int .i64 0, .int .i64 0, .int .i64 0, .string ⟨#[]⟩, .string ⟨#[]⟩] rfl (by kernel_rfl) (fun W => by kernel_rfl) fun ww w17 hL17 hp17 hww => ?_
  have hz17 := hL17.size
  have hlt17 := hww.lt
  try simp only [pp]
  refine rl_store ww #[.int .i64 (t.take lo).length, .int .i64 (runesN (t.take lo)), .int .i64 (unitsN (t.take lo)), .int .i64 (endsN (t.take lo)), .string (bs (headOf (t.take lo))), .string (bs (tailOf (t.take lo)))] rfl rfl (by kernel_rfl) rfl rfl (by kernel_rfl) hww rfl (by kernel_rfl) fun w18 hU18 hn18 => ?_
  have hz18 := hU18.size
  replace hB := ((((((((hB.later hL4).later hL5).later hL6).later hL7).later hL8).later hL10).later hL13).later hL16).later hL17
  replace hB := hB.upd hU18 (by omega)
  clear hww
  have hww := hn18
  clear hn18
  try simp only [pp]
  refine tk 12 (.int .i64 0) ?_
  simp only [pp]
  refine rl_end hgo <| hKK15 _ _ <| wp_seq_k fun KK19 hKK19 => wp_seq_k fun KK20 hKK20 => rl_begin fun hgK hgo => tk 69 (.int .i64 lo) ?_
  simp only [pp]
  refine tx 70 (.bool false) (by exact ebf (c := (lo : Int) < 0) (by omega)) <| tk 71 (.bool false) <| tk 72 (.int .i64 lo) <| tk 73 (.string (bs t)) ?_
  simp only [pp]
  refine tx 74 (.int .i64 t.length) (by exact ex_len_bs (by kernel_rfl)) ?_
  simp only [pp]
  refine tx 75 (.bool false) (by exact ebf (c := (lo : Int) > t.length) (by omega)) <| tk 76 (.bool false) ?_
  simp only [pp]
  refine rl_end hgo <| hKK20 _ _ <| wp_cond_false (by kernel_rfl) <| wp_skip <| hKK19 _ _ <| wp_seq_k fun KK21 hKK21 => ?_
  refine rm_begin (fun W => Ltr w18 W) (by kernel_rfl) (by exact bl_drew (bl_refl _)) fun K22 hgo w22 hE hS22 => ?_
  have hv22 : Ltr w18 w22 := by rw [hE]; exact bl_drew (bl_refl _)
  have hz22 := hv22.size
  clear hE hS22
  refine mk 0 84 (.int .i64 0) ?_
  try simp only [pp]
  refine mx 1 85 (.bool true) rfl (fun W hW => by (exact eqt (x := 0) (y := 0) (by omega))) <| mk 2 86 (.bool true) ?_
  try simp only [pp]
  refine mx 3 87 (.agg #[.int .i64 (t.take lo).length, .int .i64 (runesN (t.take lo)), .int .i64 (unitsN (t.take lo)), .int .i64 (endsN (t.take lo)), .string (bs (headOf (t.take lo))), .string (bs (tailOf (t.take lo)))]) rfl (fun W hW => by (exact ldN 36 _ rfl ww 0 rfl (fun _ => by kernel_rfl) [] [.int .i64 (t.take lo).length, .int .i64 (runesN (t.take lo)), .int .i64 (unitsN (t.take lo)), .int .i64 (endsN (t.take lo)), .string (bs (headOf (t.take lo))), .string (bs (tailOf (t.take lo)))] [] (by kernel_rfl) (hww.later hW) rfl rfl)) <| mk 4 88 (.string (bs t)) <| mk 5 89 (.int .i64 lo) ?_
  try simp only [pp]
  refine mx 6 90 (.string (bs (t.take lo))) rfl (fun W hW => by (exact ex_str_take t lo rfl rfl rfl (by kernel_rfl) (by omega) (by omega) _)) ?_
  try simp only [pp]
  refine rm_pick1 (i := 7) (by kernel_rfl) ?_
  refine rm_new (some 91) _ rfl rfl (by kernel_rfl) (fun W hlz hW => ex_conv_ownD _ rfl (t.take lo) rfl W) (fun _ _ h k => Ltr.trans h k) ?_
  rintro v23 w23 hL23 ⟨A7, c7, rfl, hbS7, hl7⟩ hS23
  have hz23 := hL23.size
  try simp only [pp]
  refine rm_pick1 (i := 8) (by kernel_rfl) ?_
  refine rm_callx (some 92) 24 #[.slice A7 (t.take lo).length c7] rfl rfl (by kernel_rfl) (fun W hW => by kernel_rfl) (fun W hlz hW => Of_ref A7 c7 (t.take lo) W (hbS7.later hlz) hl7 (by rw [List.length_take]; omega)) (by rintro W e w' ⟨rfl, hL24⟩; exact hL24) (fun _ _ h k => Ltr.trans h k) ?_
  rintro q24 e w24 hq24 hQ24 ⟨rfl, hL24⟩ hS24
  refine ⟨_, rfl, ?_⟩
  replace hbS7 := (hbS7.later hq24).later hL24
  have hz24 := hL24.size
  have hy24 := hq24.size
  try simp only [pp]
  refine mx 9 93 (.bool true) rfl (fun W hW => by (exact ex_weq' (t.take lo) rfl rfl rfl _)) <| mk 10 94 (.bool true) <| mk 11 8 (.bool true) ?_
  try simp only [pp]
  refine rm_done (by kernel_rfl) (fun w25 hL25 hS25 => hgo.out _ _ ?_) _
  clear hgo K22
  have hz25 := (show Ltr w18 _ from hS25).size
  have hy25 := hL25.size
  refine hKK21 _ _ ?_
  refine wp_ret ?_
  try simp only [Exit.then, Exit.inBlock]
  refine bp_ret (v := .bool true) (res1 rfl (res_tmp (by kernel_rfl))) ?_
  replace hB := hB.later (show Ltr w18 _ from hS25)
  exact ⟨rfl, hB⟩
theorem holds_out (b : Nat) (t : List UInt8) (lo hi : Int) (w : World) (hT : Tabs w) (hr : RopeAt w b t) (ht : t.length ≤ 4000000) (h1 : lo < 0 ∨ (t.length : Int) < lo) :
    Calls Tryd.prog 19 #[.pointer (some ⟨b, 0, none⟩), .string (bs t), .int .i64 lo, .int .i64 hi] w fun e w' => e = .returned (.bool true) ∧ Ltr w w' := by
  have hB := Ltr.refl w
  go_enter Tryd.func19, Tryd.ntmps19
  have h4 := hT.four
  refine wp_seq_k fun KK1 hKK1 => rl_begin fun hgK hgo => tk 8 (.bool false) ?_
  simp only [pp]
  refine rl_end hgo <| hKK1 _ _ <| wp_seq_k fun KK2 hKK2 => wp_seq_k fun KK3 hKK3 => rl_begin fun hgK hgo => tk 13 (.pointer (some ⟨b, 0, none⟩)) ?_
  simp only [pp]
  refine rl_call (some 14) 45 #[.pointer (some ⟨b, 0, none⟩)] rfl (by kernel_rfl) (by kernel_rfl) (Len_any b t _ hr) ?_
  rintro e w4 ⟨rfl, hL4⟩
  refine ⟨_, rfl, ?_⟩
  have hz4 := hL4.size
  try simp only [pp]
  refine tk 15 (.string (bs t)) ?_
  simp only [pp]
  refine tx 16 (.int .i64 t.length) (by exact ex_len_bs (by kernel_rfl)) ?_
  simp only [pp]
  refine tx 17 (.bool false) (by exact nef (x := t.length) (y := t.length) (by omega)) <| tk 18 (.bool false) <| tk 19 (.pointer (some ⟨b, 0, none⟩)) ?_
  simp only [pp]
  replace hr := hr.later hL4
  refine rl_call (some 20) 33 #[.pointer (some ⟨b, 0, none⟩)] rfl (by kernel_rfl) (by kernel_rfl) (text_any b t _ hr (by omega)) ?_
  rintro e w5 ⟨rfl, hL5⟩
  refine ⟨_, rfl, ?_⟩
  have hz5 := hL5.size
  try simp only [pp]
  refine tk 21 (.string (bs t)) ?_
  simp only [pp]
  refine tx 22 (.bool false) (by exact ex_ne_lit (a := t) (b := t) (by kernel_rfl) rfl) <| tk 23 (.bool false) <| tk 24 (.bool false) <| tk 25 (.pointer (some ⟨b, 0, none⟩)) ?_
  simp only [pp]
  replace hT := (hT.later hL4).later hL5
  replace hr := hr.later hL5
  refine rl_call (some 26) 41 #[.pointer (some ⟨b, 0, none⟩)] rfl (by kernel_rfl) (by kernel_rfl) (RWeld_any b t _ hT hr) ?_
  rintro e w6 ⟨rfl, hL6⟩
  refine ⟨_, rfl, ?_⟩
  have hz6 := hL6.size
  try simp only [pp]
  refine tk 27 (.string (bs t)) ?_
  simp only [pp]
  refine rl_new (some 28) rfl (by kernel_rfl) (ex_conv_own _ rfl t rfl _) ?_
  rintro v7 w7 ⟨A5, c5, rfl, hL7, hbS5⟩
  have hz7 := hL7.size
  try simp only [pp]
  refine rl_call (some 29) 24 #[.slice A5 t.length c5] rfl (by kernel_rfl) (by kernel_rfl) (Of_ref A5 c5 t _ hbS5.bytes hbS5.2.1 (by omega)) ?_
  rintro e w8 ⟨rfl, hL8⟩
  refine ⟨_, rfl, ?_⟩
  have hz8 := hL8.size
  clear hbS5
  try simp only [pp]
  refine tx 30 (.bool false) (by exact ex_wne' t rfl rfl rfl _) <| tk 31 (.bool false) ?_
  simp only [pp]
  refine rl_end hgo <| hKK3 _ _ <| wp_cond_false (by kernel_rfl) <| wp_skip <| hKK2 _ _ <| wp_seq_k fun KK9 hKK9 => rl_begin fun hgK hgo => tk 33 (.pointer (some ⟨b, 0, none⟩)) <| tk 34 (.int .i64 lo) <| tk 35 (.int .i64 hi) ?_
  simp only [pp]
  replace hr := ((hr.later hL6).later hL7).later hL8
  refine rl_call (some 36) 44 #[.pointer (some ⟨b, 0, none⟩), .int .i64 lo, .int .i64 hi] rfl (by kernel_rfl) (by kernel_rfl) (Bytes_out b t lo hi _ hr (by omega)) ?_
  rintro e w10 ⟨rfl, hL10⟩
  refine ⟨_, rfl, ?_⟩
  have hz10 := hL10.size
  try simp only [pp]
  refine tk 32 (.tuple #[.slice none 0 0, .int .i64 2]) <| tk 37 (.slice none 0 0) <| tk 38 (.int .i64 2) <| tk 9 (.slice none 0 0) <| tk 10 (.int .i64 2) ?_
  simp only [pp]
  refine rl_end hgo <| hKK9 _ _ <| wp_seq_k fun KK11 hKK11 => wp_seq_k fun KK12 hKK12 => rl_begin fun hgK hgo => tk 39 (.string (bs t)) ?_
  simp only [pp]
  refine tx 40 (.int .i64 t.length) (by exact ex_len_bs (by kernel_rfl)) <| tk 41 (.int .i64 lo) <| tk 42 (.int .i64 hi) ?_
  simp only [pp]
  refine rl_call (some 43) 59 #[.int .i64 t.length, .int .i64 lo, .int .i64 hi] rfl (by kernel_rfl) (by kernel_rfl) (Span_false t.length lo hi (by omega) _) ?_
  rintro e w13 ⟨rfl, hL13⟩
  refine ⟨_, rfl, ?_⟩
  have hz13 := hL13.size
  try simp only [pp]
  refine tk 44 (.bool true) ?_
  simp only [pp]
  refine rl_end hgo <| hKK12 _ _ <| wp_cond_true (by kernel_rfl) <| wp_seq_k fun KK14 hKK14 => rl_begin fun hgK hgo => tk 45 (.int .i64 2) ?_
  simp only [pp]
  refine tx 46 (.bool false) (by exact nef (x := 2) (y := 2) (by omega)) <| tk 47 (.bool false) <| tk 48 (.slice none 0 0) <| tk 49 (.int .i64 0) ?_
  simp only [pp]
  refine tx 50 (.bool false) (by exact nef (x := 0) (y := 0) (by omega)) <| tk 51 (.bool false) ?_
  simp only [pp]
  refine rl_end hgo <| hKK14 _ _ <| wp_cond_false (by kernel_rfl) <| wp_skip <| hKK11 _ _ <| wp_seq_k fun KK15 hKK15 => rl_begin fun hgK hgo => tk 64 (.pointer (some ⟨b, 0, none⟩)) <| tk 65 (.int .i64 lo) ?_
  simp only [pp]
  replace hr := (hr.later hL10).later hL13
  refine rl_call (some 66) 43 #[.pointer (some ⟨b, 0, none⟩), .int .i64 lo] rfl (by kernel_rfl) (by kernel_rfl) (Before_out b t lo _ hr h1) ?_
  rintro e w16 ⟨rfl, hL16⟩
  refine ⟨_, rfl, ?_⟩
  have hz16 := hL16.size
  clear hr
  clear hT
  try simp only [pp]
  refine tk 63 (.tuple #[.agg #[.int .i64 0, .int .i64 0, .int .i64 0, .int .i64 0, .string ⟨#[]⟩, .string ⟨#[]⟩], .int .i64 2]) <| tk 67 (.agg #[.int .i64 0, .int .i64 0, .int .i64 0, .int .i64 0, .string ⟨#[]⟩, .string ⟨#[]⟩]) <| tk 68 (.int .i64 2) ?_
  simp only [pp]
  refine rl_alloc (some 11) 36 #[.int .i64 0, .int .i64 0, .int .i64 0, .int .i64 0, .string ⟨#[]⟩, .string ⟨#[]⟩] rfl (by kernel_rfl) (fun W => by kernel_rfl) fun ww w17 hL17 hp17 hww => ?_
  have hz17 := hL17.size
  have hlt17 := hww.lt
  try simp only [pp]
  refine rl_store ww #[.int .i64 0, .int .i64 0, .int .i64 0, .int .i64 0, .string ⟨#[]⟩, .string ⟨#[]⟩] rfl rfl (by kernel_rfl) rfl rfl (by kernel_rfl) hww rfl (by kernel_rfl) fun w18 hU18 hn18 => ?_
  have hz18 := hU18.size
  replace hB := ((((((((hB.later hL4).later hL5).later hL6).later hL7).later hL8).later hL10).later hL13).later hL16).later hL17
  replace hB := hB.upd hU18 (by omega)
  clear hww
  have hww := hn18
  clear hn18
  try simp only [pp]
  refine tk 12 (.int .i64 2) ?_
  simp only [pp]
  refine rl_end hgo <| hKK15 _ _ <| wp_seq_k fun KK19 hKK19 => wp_seq_k fun KK20 hKK20 => rl_begin fun hgK hgo => tk 69 (.int .i64 lo) ?_
  simp only [pp]
  by_cases h3 : lo < 0
  ·refine tx 70 (.bool true) (by exact ebt (c := (lo : Int) < 0) (by omega)) <| tk 71 (.bool true) ?_
   simp only [pp]
   refine rl_pass (some 72) rfl (by kernel_rfl) ?_
   try simp only [pp]
   refine rl_pass (some 73) rfl (by kernel_rfl) ?_
   try simp only [pp]
   refine rl_pass (some 74) rfl (by kernel_rfl) ?_
   try simp only [pp]
   refine rl_pass (some 75) rfl (by kernel_rfl) ?_
   try simp only [pp]
   refine tk 76 (.bool true) ?_
   simp only [pp]
   refine rl_end hgo <| hKK20 _ _ <| wp_cond_true (by kernel_rfl) <| wp_seq_k fun KK21 hKK21 => rl_begin fun hgK hgo => tk 77 (.int .i64 2) ?_
   simp only [pp]
   refine tx 78 (.bool true) (by exact eqt (x := 2) (y := 2) (by omega)) <| tk 79 (.bool true) ?_
   simp only [pp]
   refine tx 80 (.agg #[.int .i64 0, .int .i64 0, .int .i64 0, .int .i64 0, .string ⟨#[]⟩, .string ⟨#[]⟩]) (by exact ldN 36 _ rfl ww 0 rfl (fun _ => by kernel_rfl) [] [.int .i64 0, .int .i64 0, .int .i64 0, .int .i64 0, .string ⟨#[]⟩, .string ⟨#[]⟩] [] (by kernel_rfl) hww rfl rfl) <| tk 81 (.agg #[.int .i64 0, .int .i64 0, .int .i64 0, .int .i64 0, .string ⟨#[]⟩, .string ⟨#[]⟩]) <| tk 82 (.bool true) <| tk 83 (.bool true) <| tk 8 (.bool true) ?_
   simp only [pp]
   refine rl_end hgo <| hKK21 _ _ ?_
   refine wp_ret ?_
   try simp only [Exit.then, Exit.inBlock]
   refine bp_ret (v := .bool true) (res1 rfl (res_tmp (by kernel_rfl))) ?_
   exact ⟨rfl, hB⟩
  ·refine tx 70 (.bool false) (by exact ebf (c := (lo : Int) < 0) (by omega)) <| tk 71 (.bool false) <| tk 72 (.int .i64 lo) <| tk 73 (.string (bs t)) ?_
   simp only [pp]
   refine tx 74 (.int .i64 t.length) (by exact ex_len_bs (by kernel_rfl)) ?_
   simp only [pp]
   refine tx 75 (.bool true) (by exact ebt (c := (lo : Int) > t.length) (by omega)) <| tk 76 (.bool true) ?_
   simp only [pp]
   refine rl_end hgo <| hKK20 _ _ <| wp_cond_true (by kernel_rfl) <| wp_seq_k fun KK22 hKK22 => rl_begin fun hgK hgo => tk 77 (.int .i64 2) ?_
   simp only [pp]
   refine tx 78 (.bool true) (by exact eqt (x := 2) (y := 2) (by omega)) <| tk 79 (.bool true) ?_
   simp only [pp]
   refine tx 80 (.agg #[.int .i64 0, .int .i64 0, .int .i64 0, .int .i64 0, .string ⟨#[]⟩, .string ⟨#[]⟩]) (by exact ldN 36 _ rfl ww 0 rfl (fun _ => by kernel_rfl) [] [.int .i64 0, .int .i64 0, .int .i64 0, .int .i64 0, .string ⟨#[]⟩, .string ⟨#[]⟩] [] (by kernel_rfl) hww rfl rfl) <| tk 81 (.agg #[.int .i64 0, .int .i64 0, .int .i64 0, .int .i64 0, .string ⟨#[]⟩, .string ⟨#[]⟩]) <| tk 82 (.bool true) <| tk 83 (.bool true) <| tk 8 (.bool true) ?_
   simp only [pp]
   refine rl_end hgo <| hKK22 _ _ ?_
   refine wp_ret ?_
   try simp only [Exit.then, Exit.inBlock]
   refine bp_ret (v := .bool true) (res1 rfl (res_tmp (by kernel_rfl))) ?_
   exact ⟨rfl, hB⟩
theorem holds_any (b : Nat) (t : List UInt8) (lo hi : Int) (w : World) (hT : Tabs w) (hr : RopeAt w b t) (ht : t.length ≤ 4000000) :
    Calls Tryd.prog 19 #[.pointer (some ⟨b, 0, none⟩), .string (bs t), .int .i64 lo, .int .i64 hi] w fun e w' => e = .returned (.bool true) ∧ Ltr w w' := by
  by_cases h1 : lo < 0 ∨ (t.length : Int) < lo
  · exact holds_out b t lo hi w hT hr ht h1
  · obtain ⟨k, rfl⟩ := Int.eq_ofNat_of_zero_le (by omega : 0 ≤ lo)
    by_cases h2 : 0 ≤ (k : Int) ∧ (k : Int) ≤ hi ∧ hi ≤ t.length
    · obtain ⟨m, rfl⟩ := Int.eq_ofNat_of_zero_le (by omega : 0 ≤ hi)
      exact holds_in b t k m w hT hr ht (by omega) (by omega)
    · exact holds_mid b t k hi w hT hr ht (by omega) h2
end Go.Proofs.YtliphfgiaioebaaDoor
