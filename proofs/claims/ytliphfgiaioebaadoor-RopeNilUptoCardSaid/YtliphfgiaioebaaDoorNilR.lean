/-
  Package rope: what a nil rope answers.
-/
import Derived.Test.YtliphfgiaioebaaDoorWakes
namespace Go.Proofs.YtliphfgiaioebaaDoor
set_option linter.unusedVariables false
set_option linter.unusedSimpArgs false
open Go.RowKit
set_option maxRecDepth 100000
set_option maxHeartbeats 8000000
theorem Len_nil (w : World) : Calls Tryd.prog 45 #[.pointer none] w fun e w' => e = .returned (.int .i64 0) ∧ Ltr w w' := by
  have hB := Ltr.refl w
  go_enter Tryd.func45, Tryd.ntmps45
  refine wp_seq_k fun KK1 hKK1 => ?_
  refine rl_begin fun hgK hgo => ?_
  refine rl_take (some 2) (.int .i64 0) rfl (by kernel_rfl) (by kernel_rfl) ?_
  try simp only [pa, pn, pb, pc, pd]
  refine rl_nil ?_
  refine hgo.out _ _ ?_
  clear hgo hgK
  refine hKK1 _ _ ?_
  refine wp_seq_k fun KK2 hKK2 => ?_
  refine wp_seq_k fun KK3 hKK3 => ?_
  refine rl_begin fun hgK hgo => ?_
  refine rl_take (some 3) (.pointer none) rfl (by kernel_rfl) (by kernel_rfl) ?_
  try simp only [pa, pn, pb, pc, pd]
  refine rl_take (some 4) (.bool true) rfl (by kernel_rfl) (by kernel_rfl) ?_
  try simp only [pa, pn, pb, pc, pd]
  refine rl_take (some 5) (.bool true) rfl (by kernel_rfl) (by kernel_rfl) ?_
  try simp only [pa, pn, pb, pc, pd]
  refine rl_pass (some 6) rfl (by kernel_rfl) ?_
  try simp only [pa, pn, pb, pc, pd]
  refine rl_pass (some 7) rfl (by kernel_rfl) ?_
  try simp only [pa, pn, pb, pc, pd]
  refine rl_pass (some 8) rfl (by kernel_rfl) ?_
  try simp only [pa, pn, pb, pc, pd]
  refine rl_pass (some 9) rfl (by kernel_rfl) ?_
  try simp only [pa, pn, pb, pc, pd]
  refine rl_pass (some 10) rfl (by kernel_rfl) ?_
  try simp only [pa, pn, pb, pc, pd]
  refine rl_take (some 11) (.bool true) rfl (by kernel_rfl) (by kernel_rfl) ?_
  try simp only [pa, pn, pb, pc, pd]
  refine rl_nil ?_
  refine hgo.out _ _ ?_
  clear hgo hgK
  refine hKK3 _ _ ?_
  refine wp_cond_true (by kernel_rfl) ?_
  refine wp_seq_k fun KK4 hKK4 => ?_
  refine rl_begin fun hgK hgo => ?_
  refine rl_take (some 2) (.int .i64 0) rfl (by kernel_rfl) (by kernel_rfl) ?_
  try simp only [pa, pn, pb, pc, pd]
  refine rl_nil ?_
  refine hgo.out _ _ ?_
  clear hgo hgK
  refine hKK4 _ _ ?_
  refine wp_ret ?_
  try simp only [Exit.then, Exit.inBlock]
  refine bp_ret (v := .int .i64 0) (res1 rfl (res_tmp (by kernel_rfl))) ?_
  exact ⟨rfl, hB⟩
theorem Depth_nil (w : World) : Calls Tryd.prog 34 #[.pointer none] w fun e w' => e = .returned (.int .i64 0) ∧ Ltr w w' := by
  have hB := Ltr.refl w
  go_enter Tryd.func34, Tryd.ntmps34
  refine wp_seq_k fun KK1 hKK1 => ?_
  refine rl_begin fun hgK hgo => ?_
  refine rl_take (some 2) (.int .i64 0) rfl (by kernel_rfl) (by kernel_rfl) ?_
  try simp only [pa, pn, pb, pc, pd]
  refine rl_nil ?_
  refine hgo.out _ _ ?_
  clear hgo hgK
  refine hKK1 _ _ ?_
  refine wp_seq_k fun KK2 hKK2 => ?_
  refine wp_seq_k fun KK3 hKK3 => ?_
  refine rl_begin fun hgK hgo => ?_
  refine rl_take (some 3) (.pointer none) rfl (by kernel_rfl) (by kernel_rfl) ?_
  try simp only [pa, pn, pb, pc, pd]
  refine rl_call (some 4) 45 #[.pointer none] rfl (by kernel_rfl) (by kernel_rfl) (Len_nil _) ?_
  rintro e w4 ⟨rfl, hL4⟩
  refine ⟨_, rfl, ?_⟩
  replace hB := hB.later hL4
  have hz4 := hL4.size
  try simp only [pa, pn, pb, pc, pd]
  refine rl_take (some 5) (.bool true) rfl (by kernel_rfl) (by exact ex_beq (x := 0) (y := 0) (by kernel_rfl) ⟨fun _ => by omega, fun _ => rfl⟩) ?_
  try simp only [pa, pn, pb, pc, pd]
  refine rl_nil ?_
  refine hgo.out _ _ ?_
  clear hgo hgK
  refine hKK3 _ _ ?_
  refine wp_cond_true (by kernel_rfl) ?_
  refine wp_seq_k fun KK5 hKK5 => ?_
  refine rl_begin fun hgK hgo => ?_
  refine rl_take (some 2) (.int .i64 0) rfl (by kernel_rfl) (by kernel_rfl) ?_
  try simp only [pa, pn, pb, pc, pd]
  refine rl_nil ?_
  refine hgo.out _ _ ?_
  clear hgo hgK
  refine hKK5 _ _ ?_
  refine wp_ret ?_
  try simp only [Exit.then, Exit.inBlock]
  refine bp_ret (v := .int .i64 0) (res1 rfl (res_tmp (by kernel_rfl))) ?_
  exact ⟨rfl, hB⟩
theorem Weld_nil (w : World) (hT : Tabs w) : Calls Tryd.prog 41 #[.pointer none] w fun e w' => e = .returned (.agg #[.int .i64 (@List.nil UInt8).length, .int .i64 (runesN (@List.nil UInt8)), .int .i64 (unitsN (@List.nil UInt8)), .int .i64 (endsN (@List.nil UInt8)), .string (bs (headOf (@List.nil UInt8))), .string (bs (tailOf (@List.nil UInt8)))]) ∧ Ltr w w' := by
  have hB := Ltr.refl w
  go_enter Tryd.func41, Tryd.ntmps41
  have h4 := hT.four
  refine wp_seq_k fun KK1 hKK1 => ?_
  refine rl_begin fun hgK hgo => ?_
  refine rl_alloc (some 2) 36 #[.int .i64 0, .int .i64 0, .int .i64 0, .int .i64 0, .string ⟨#[]⟩, .string ⟨#[]⟩] rfl (by kernel_rfl) (fun W => by kernel_rfl) fun p2 w2 hL2 hp2 hb2 => ?_
  replace hT := hT.later hL2
  replace hB := hB.later hL2
  have hz2 := hL2.size
  have hlt2 := hb2.lt
  try simp only [pa, pn, pb, pc, pd]
  refine rl_nil ?_
  refine hgo.out _ _ ?_
  clear hgo hgK
  refine hKK1 _ _ ?_
  refine wp_seq_k fun KK3 hKK3 => ?_
  refine wp_seq_k fun KK4 hKK4 => ?_
  refine rl_begin fun hgK hgo => ?_
  refine rl_take (some 3) (.pointer none) rfl (by kernel_rfl) (by kernel_rfl) ?_
  try simp only [pa, pn, pb, pc, pd]
  refine rl_take (some 4) (.bool true) rfl (by kernel_rfl) (by kernel_rfl) ?_
  try simp only [pa, pn, pb, pc, pd]
  refine rl_take (some 5) (.bool true) rfl (by kernel_rfl) (by kernel_rfl) ?_
  try simp only [pa, pn, pb, pc, pd]
  refine rl_pass (some 6) rfl (by kernel_rfl) ?_
  try simp only [pa, pn, pb, pc, pd]
  refine rl_pass (some 7) rfl (by kernel_rfl) ?_
  try simp only [pa, pn, pb, pc, pd]
  refine rl_pass (some 8) rfl (by kernel_rfl) ?_
  try simp only [pa, pn, pb, pc, pd]
  refine rl_pass (some 9) rfl (by kernel_rfl) ?_
  try simp only [pa, pn, pb, pc, pd]
  refine rl_pass (some 10) rfl (by kernel_rfl) ?_
  try simp only [pa, pn, pb, pc, pd]
  refine rl_take (some 11) (.bool true) rfl (by kernel_rfl) (by kernel_rfl) ?_
  try simp only [pa, pn, pb, pc, pd]
  refine rl_nil ?_
  refine hgo.out _ _ ?_
  clear hgo hgK
  refine hKK4 _ _ ?_
  refine wp_cond_true (by kernel_rfl) ?_
  refine wp_seq_k fun KK5 hKK5 => ?_
  refine rl_begin fun hgK hgo => ?_
  refine rl_call (some 12) 60 #[.slice none 0 0] rfl (by kernel_rfl) (by kernel_rfl) (Of_wv none 0 [] _ hT (BytesAt.nil _ _) (Nat.zero_le _) (by simp)) ?_
  rintro e w6 ⟨rfl, hL6⟩
  refine ⟨_, rfl, ?_⟩
  replace hT := hT.later hL6
  replace hB := hB.later hL6
  replace hb2 := hb2.later hL6
  have hz6 := hL6.size
  try simp only [pa, pn, pb, pc, pd]
  refine rl_store p2 #[.int .i64 (@List.nil UInt8).length, .int .i64 (runesN (@List.nil UInt8)), .int .i64 (unitsN (@List.nil UInt8)), .int .i64 (endsN (@List.nil UInt8)), .string (bs (headOf (@List.nil UInt8))), .string (bs (tailOf (@List.nil UInt8)))] rfl rfl (by kernel_rfl) rfl rfl (by kernel_rfl) hb2 rfl (by kernel_rfl) fun w7 hU7 hn7 => ?_
  have hz7 := hU7.size
  replace hT := hT.upd hU7 (by omega)
  replace hB := hB.upd hU7 (by omega)
  clear hb2
  have hb2 := hn7
  clear hn7
  try simp only [pa, pn, pb, pc, pd]
  refine rl_nil ?_
  refine hgo.out _ _ ?_
  clear hgo hgK
  refine hKK5 _ _ ?_
  refine wp_ret ?_
  try simp only [Exit.then, Exit.inBlock]
  refine bp_ret (v := .agg #[.int .i64 (@List.nil UInt8).length, .int .i64 (runesN (@List.nil UInt8)), .int .i64 (unitsN (@List.nil UInt8)), .int .i64 (endsN (@List.nil UInt8)), .string (bs (headOf (@List.nil UInt8))), .string (bs (tailOf (@List.nil UInt8)))]) (res1 rfl (res_cell (b := p2) (cs := [.int .i64 (@List.nil UInt8).length, .int .i64 (runesN (@List.nil UInt8)), .int .i64 (unitsN (@List.nil UInt8)), .int .i64 (endsN (@List.nil UInt8)), .string (bs (headOf (@List.nil UInt8))), .string (bs (tailOf (@List.nil UInt8)))]) (by kernel_rfl) (fun _ => by kernel_rfl) (by kernel_rfl) hb2)) ?_
  exact ⟨rfl, hB⟩
theorem place_nil (n : Int) (w : World) : Calls Tryd.prog 77 #[.pointer none, .int .i64 n] w fun e w' => e = .returned (.int .i64 1) ∧ Ltr w w' := by
  have hB := Ltr.refl w
  go_enter Tryd.func77, Tryd.ntmps77
  refine wp_seq_k fun KK1 hKK1 => ?_
  refine rl_begin fun hgK hgo => ?_
  refine rl_take (some 4) (.int .i64 0) rfl (by kernel_rfl) (by kernel_rfl) ?_
  try simp only [pa, pn, pb, pc, pd]
  refine rl_nil ?_
  refine hgo.out _ _ ?_
  clear hgo hgK
  refine hKK1 _ _ ?_
  refine wp_seq_k fun KK2 hKK2 => ?_
  refine wp_block ?_
  refine wp_seq_k fun KK3 hKK3 => ?_
  refine rl_begin fun hgK hgo => ?_
  refine rl_take (some 6) (.pointer none) rfl (by kernel_rfl) (by kernel_rfl) ?_
  try simp only [pa, pn, pb, pc, pd]
  refine rl_take (some 7) (.bool true) rfl (by kernel_rfl) (by kernel_rfl) ?_
  try simp only [pa, pn, pb, pc, pd]
  refine rl_take (some 5) (.bool true) rfl (by kernel_rfl) (by kernel_rfl) ?_
  try simp only [pa, pn, pb, pc, pd]
  refine rl_nil ?_
  refine hgo.out _ _ ?_
  clear hgo hgK
  refine hKK3 _ _ ?_
  refine wp_cond_true (by kernel_rfl) ?_
  refine wp_seq_k fun KK4 hKK4 => ?_
  refine rl_begin fun hgK hgo => ?_
  refine rl_take (some 4) (.int .i64 1) rfl (by kernel_rfl) (by kernel_rfl) ?_
  try simp only [pa, pn, pb, pc, pd]
  refine rl_nil ?_
  refine hgo.out _ _ ?_
  clear hgo hgK
  refine hKK4 _ _ ?_
  refine wp_ret ?_
  try simp only [Exit.then, Exit.inBlock]
  refine bp_ret (v := .int .i64 1) (res1 rfl (res_tmp (by kernel_rfl))) ?_
  exact ⟨rfl, hB⟩
theorem Before_nil (n : Int) (w : World) : Calls Tryd.prog 43 #[.pointer none, .int .i64 n] w fun e w' => e = .returned (.tuple #[.agg #[.int .i64 0, .int .i64 0, .int .i64 0, .int .i64 0, .string ⟨#[]⟩, .string ⟨#[]⟩], .int .i64 1]) ∧ Ltr w w' := by
  have hB := Ltr.refl w
  go_enter Tryd.func43, Tryd.ntmps43
  refine wp_seq_k fun KK1 hKK1 => ?_
  refine rl_begin fun hgK hgo => ?_
  refine rl_alloc (some 4) 36 #[.int .i64 0, .int .i64 0, .int .i64 0, .int .i64 0, .string ⟨#[]⟩, .string ⟨#[]⟩] rfl (by kernel_rfl) (fun W => by kernel_rfl) fun r w2 hL2 hp2 hr => ?_
  replace hB := hB.later hL2
  have hz2 := hL2.size
  have hlt2 := hr.lt
  try simp only [pa, pn, pb, pc, pd]
  refine rl_take (some 5) (.int .i64 0) rfl (by kernel_rfl) (by kernel_rfl) ?_
  try simp only [pa, pn, pb, pc, pd]
  refine rl_nil ?_
  refine hgo.out _ _ ?_
  clear hgo hgK
  refine hKK1 _ _ ?_
  refine wp_seq_k fun KK3 hKK3 => ?_
  refine wp_seq_k fun KK4 hKK4 => ?_
  refine rl_begin fun hgK hgo => ?_
  refine rl_take (some 13) (.pointer none) rfl (by kernel_rfl) (by kernel_rfl) ?_
  try simp only [pa, pn, pb, pc, pd]
  refine rl_take (some 14) (.int .i64 n) rfl (by kernel_rfl) (by kernel_rfl) ?_
  try simp only [pa, pn, pb, pc, pd]
  refine rl_call (some 15) 77 #[.pointer none, .int .i64 n] rfl (by kernel_rfl) (by kernel_rfl) (place_nil n _) ?_
  rintro e w5 ⟨rfl, hL5⟩
  refine ⟨_, rfl, ?_⟩
  replace hB := hB.later hL5
  replace hr := hr.later hL5
  have hz5 := hL5.size
  try simp only [pa, pn, pb, pc, pd]
  refine rl_take (some 6) (.int .i64 1) rfl (by kernel_rfl) (by kernel_rfl) ?_
  try simp only [pa, pn, pb, pc, pd]
  refine rl_nil ?_
  refine hgo.out _ _ ?_
  clear hgo hgK
  refine hKK4 _ _ ?_
  refine wp_seq_k fun KK6 hKK6 => ?_
  refine rl_begin fun hgK hgo => ?_
  refine rl_take (some 16) (.int .i64 1) rfl (by kernel_rfl) (by kernel_rfl) ?_
  try simp only [pa, pn, pb, pc, pd]
  refine rl_take (some 17) (.bool true) rfl (by kernel_rfl) (by exact ex_bne (x := 1) (y := 0) (by kernel_rfl) ⟨fun _ => by omega, fun _ => rfl⟩) ?_
  try simp only [pa, pn, pb, pc, pd]
  refine rl_nil ?_
  refine hgo.out _ _ ?_
  clear hgo hgK
  refine hKK6 _ _ ?_
  refine wp_cond_true (by kernel_rfl) ?_
  refine wp_seq_k fun KK7 hKK7 => ?_
  refine rl_begin fun hgK hgo => ?_
  refine rl_take (some 18) (.agg #[.int .i64 0, .int .i64 0, .int .i64 0, .int .i64 0, .string ⟨#[]⟩, .string ⟨#[]⟩]) rfl (by kernel_rfl) (by kernel_rfl) ?_
  try simp only [pa, pn, pb, pc, pd]
  refine rl_take (some 19) (.int .i64 1) rfl (by kernel_rfl) (by kernel_rfl) ?_
  try simp only [pa, pn, pb, pc, pd]
  refine rl_store r #[.int .i64 0, .int .i64 0, .int .i64 0, .int .i64 0, .string ⟨#[]⟩, .string ⟨#[]⟩] rfl rfl (by kernel_rfl) rfl rfl (by kernel_rfl) hr rfl (by kernel_rfl) fun w8 hU8 hn8 => ?_
  have hz8 := hU8.size
  replace hB := hB.upd hU8 (by omega)
  clear hr
  have hr := hn8
  clear hn8
  try simp only [pa, pn, pb, pc, pd]
  refine rl_take (some 5) (.int .i64 1) rfl (by kernel_rfl) (by kernel_rfl) ?_
  try simp only [pa, pn, pb, pc, pd]
  refine rl_nil ?_
  refine hgo.out _ _ ?_
  clear hgo hgK
  refine hKK7 _ _ ?_
  refine wp_ret ?_
  try simp only [Exit.then, Exit.inBlock]
  refine bp_ret (v := .tuple #[.agg #[.int .i64 0, .int .i64 0, .int .i64 0, .int .i64 0, .string ⟨#[]⟩, .string ⟨#[]⟩], .int .i64 1]) (res2 rfl (res_cell (b := r) (cs := [.int .i64 0, .int .i64 0, .int .i64 0, .int .i64 0, .string ⟨#[]⟩, .string ⟨#[]⟩]) (by kernel_rfl) (fun _ => by kernel_rfl) (by kernel_rfl) hr) (res_tmp (by kernel_rfl))) ?_
  exact ⟨rfl, hB⟩
theorem Bytes_nil (lo hi : Int) (w : World) : Calls Tryd.prog 44 #[.pointer none, .int .i64 lo, .int .i64 hi] w fun e w' => e = .returned (.tuple #[.slice none 0 0, .int .i64 1]) ∧ Ltr w w' := by
  have hB := Ltr.refl w
  refine (callsIn_wide (n := 0)).1 ?_
  refine callsIn_of_wp_marks Tryd.func44 rfl trivial ?_ rfl
  simp only [Tryd.ntmps44, List.size_toArray, List.length_cons, List.length_nil, Nat.reduceAdd, Nat.reduceSub, Array.replicate_succ, Array.replicate_zero, List.push_toArray, List.append_toArray, List.nil_append, List.cons_append]
  refine (wpIn_wide (n := 0)).2 ?_
  refine wp_seq_k fun KK1 hKK1 => ?_
  refine rl_begin fun hgK hgo => ?_
  refine rl_alloc (some 4) 3 #[.int .i64 lo] rfl (by kernel_rfl) (fun W => by kernel_rfl) fun pl w2 hL2 hp2 hpl => ?_
  replace hB := hB.later hL2
  have hz2 := hL2.size
  have hlt2 := hpl.lt
  try simp only [pa, pn, pb, pc, pd]
  refine rl_alloc (some 5) 3 #[.int .i64 hi] rfl (by kernel_rfl) (fun W => by kernel_rfl) fun ph w3 hL3 hp3 hph => ?_
  replace hB := hB.later hL3
  replace hpl := hpl.later hL3
  have hz3 := hL3.size
  have hlt3 := hph.lt
  try simp only [pa, pn, pb, pc, pd]
  refine rl_take (some 6) (.slice none 0 0) rfl (by kernel_rfl) (by kernel_rfl) ?_
  try simp only [pa, pn, pb, pc, pd]
  refine rl_take (some 7) (.int .i64 0) rfl (by kernel_rfl) (by kernel_rfl) ?_
  try simp only [pa, pn, pb, pc, pd]
  refine rl_nil ?_
  refine hgo.out _ _ ?_
  clear hgo hgK
  refine hKK1 _ _ ?_
  refine wp_seq_k fun KK4 hKK4 => ?_
  refine wp_seq_k fun KK5 hKK5 => ?_
  refine rl_begin fun hgK hgo => ?_
  refine rl_take (some 11) (.pointer none) rfl (by kernel_rfl) (by kernel_rfl) ?_
  try simp only [pa, pn, pb, pc, pd]
  refine rl_take (some 12) (.int .i64 hi) rfl (by kernel_rfl) (by exact ld1 3 _ rfl ph 0 rfl (fun _ => by kernel_rfl) _ (hph.cell 0)) ?_
  try simp only [pa, pn, pb, pc, pd]
  refine rl_call (some 13) 77 #[.pointer none, .int .i64 hi] rfl (by kernel_rfl) (by kernel_rfl) (place_nil hi _) ?_
  rintro e w6 ⟨rfl, hL6⟩
  refine ⟨_, rfl, ?_⟩
  replace hB := hB.later hL6
  replace hpl := hpl.later hL6
  replace hph := hph.later hL6
  have hz6 := hL6.size
  try simp only [pa, pn, pb, pc, pd]
  refine rl_take (some 8) (.int .i64 1) rfl (by kernel_rfl) (by kernel_rfl) ?_
  try simp only [pa, pn, pb, pc, pd]
  refine rl_nil ?_
  refine hgo.out _ _ ?_
  clear hgo hgK
  refine hKK5 _ _ ?_
  refine wp_seq_k fun KK7 hKK7 => ?_
  refine rl_begin fun hgK hgo => ?_
  refine rl_take (some 14) (.int .i64 1) rfl (by kernel_rfl) (by kernel_rfl) ?_
  try simp only [pa, pn, pb, pc, pd]
  refine rl_take (some 15) (.bool true) rfl (by kernel_rfl) (by exact ex_bne (x := 1) (y := 0) (by kernel_rfl) ⟨fun _ => by omega, fun _ => rfl⟩) ?_
  try simp only [pa, pn, pb, pc, pd]
  refine rl_nil ?_
  refine hgo.out _ _ ?_
  clear hgo hgK
  refine hKK7 _ _ ?_
  refine wp_cond_true (by kernel_rfl) ?_
  refine wp_seq_k fun KK8 hKK8 => ?_
  refine rl_begin fun hgK hgo => ?_
  refine rl_take (some 16) (.int .i64 1) rfl (by kernel_rfl) (by kernel_rfl) ?_
  try simp only [pa, pn, pb, pc, pd]
  refine rl_take (some 6) (.slice none 0 0) rfl (by kernel_rfl) (by kernel_rfl) ?_
  try simp only [pa, pn, pb, pc, pd]
  refine rl_take (some 7) (.int .i64 1) rfl (by kernel_rfl) (by kernel_rfl) ?_
  try simp only [pa, pn, pb, pc, pd]
  refine rl_nil ?_
  refine hgo.out _ _ ?_
  clear hgo hgK
  refine hKK8 _ _ ?_
  refine wp_ret ?_
  try simp only [Exit.then, Exit.inBlock]
  refine bm_ret (v := .tuple #[.slice none 0 0, .int .i64 1]) (res2 rfl (res_tmp (by kernel_rfl)) (res_tmp (by kernel_rfl))) ?_
  exact ⟨rfl, hB⟩
theorem Split_nil (n : Int) (w : World) : Calls Tryd.prog 39 #[.pointer none, .int .i64 n] w fun e w' => e = .returned (.tuple #[.pointer none, .pointer none, .int .i64 1]) ∧ Ltr w w' := by
  have hB := Ltr.refl w
  go_enter Tryd.func39, Tryd.ntmps39
  refine wp_seq_k fun KK1 hKK1 => ?_
  refine rl_begin fun hgK hgo => ?_
  refine rl_take (some 4) (.pointer none) rfl (by kernel_rfl) (by kernel_rfl) ?_
  try simp only [pa, pn, pb, pc, pd]
  refine rl_take (some 5) (.pointer none) rfl (by kernel_rfl) (by kernel_rfl) ?_
  try simp only [pa, pn, pb, pc, pd]
  refine rl_take (some 6) (.int .i64 0) rfl (by kernel_rfl) (by kernel_rfl) ?_
  try simp only [pa, pn, pb, pc, pd]
  refine rl_nil ?_
  refine hgo.out _ _ ?_
  clear hgo hgK
  refine hKK1 _ _ ?_
  refine wp_seq_k fun KK2 hKK2 => ?_
  refine wp_seq_k fun KK3 hKK3 => ?_
  refine rl_begin fun hgK hgo => ?_
  refine rl_take (some 10) (.pointer none) rfl (by kernel_rfl) (by kernel_rfl) ?_
  try simp only [pa, pn, pb, pc, pd]
  refine rl_take (some 11) (.int .i64 n) rfl (by kernel_rfl) (by kernel_rfl) ?_
  try simp only [pa, pn, pb, pc, pd]
  refine rl_call (some 12) 77 #[.pointer none, .int .i64 n] rfl (by kernel_rfl) (by kernel_rfl) (place_nil n _) ?_
  rintro e w4 ⟨rfl, hL4⟩
  refine ⟨_, rfl, ?_⟩
  replace hB := hB.later hL4
  have hz4 := hL4.size
  try simp only [pa, pn, pb, pc, pd]
  refine rl_take (some 7) (.int .i64 1) rfl (by kernel_rfl) (by kernel_rfl) ?_
  try simp only [pa, pn, pb, pc, pd]
  refine rl_nil ?_
  refine hgo.out _ _ ?_
  clear hgo hgK
  refine hKK3 _ _ ?_
  refine wp_seq_k fun KK5 hKK5 => ?_
  refine rl_begin fun hgK hgo => ?_
  refine rl_take (some 13) (.int .i64 1) rfl (by kernel_rfl) (by kernel_rfl) ?_
  try simp only [pa, pn, pb, pc, pd]
  refine rl_take (some 14) (.bool true) rfl (by kernel_rfl) (by exact ex_bne (x := 1) (y := 0) (by kernel_rfl) ⟨fun _ => by omega, fun _ => rfl⟩) ?_
  try simp only [pa, pn, pb, pc, pd]
  refine rl_nil ?_
  refine hgo.out _ _ ?_
  clear hgo hgK
  refine hKK5 _ _ ?_
  refine wp_cond_true (by kernel_rfl) ?_
  refine wp_seq_k fun KK6 hKK6 => ?_
  refine rl_begin fun hgK hgo => ?_
  refine rl_take (some 15) (.int .i64 1) rfl (by kernel_rfl) (by kernel_rfl) ?_
  try simp only [pa, pn, pb, pc, pd]
  refine rl_take (some 4) (.pointer none) rfl (by kernel_rfl) (by kernel_rfl) ?_
  try simp only [pa, pn, pb, pc, pd]
  refine rl_take (some 5) (.pointer none) rfl (by kernel_rfl) (by kernel_rfl) ?_
  try simp only [pa, pn, pb, pc, pd]
  refine rl_take (some 6) (.int .i64 1) rfl (by kernel_rfl) (by kernel_rfl) ?_
  try simp only [pa, pn, pb, pc, pd]
  refine rl_nil ?_
  refine hgo.out _ _ ?_
  clear hgo hgK
  refine hKK6 _ _ ?_
  refine wp_ret ?_
  try simp only [Exit.then, Exit.inBlock]
  refine bp_ret (v := .tuple #[.pointer none, .pointer none, .int .i64 1]) (res3 rfl (res_tmp (by kernel_rfl)) (res_tmp (by kernel_rfl)) (res_tmp (by kernel_rfl))) ?_
  exact ⟨rfl, hB⟩
theorem Replace_nil (lo hi : Int) (x : Value) (w : World) : Calls Tryd.prog 37 #[.pointer none, .int .i64 lo, .int .i64 hi, x] w fun e w' => e = .returned (.tuple #[.pointer none, .int .i64 1]) ∧ Ltr w w' := by
  have hB := Ltr.refl w
  go_enter Tryd.func37, Tryd.ntmps37
  refine wp_seq_k fun KK1 hKK1 => ?_
  refine rl_begin fun hgK hgo => ?_
  refine rl_take (some 8) (.pointer none) rfl (by kernel_rfl) (by kernel_rfl) ?_
  try simp only [pa, pn, pb, pc, pd]
  refine rl_take (some 9) (.int .i64 0) rfl (by kernel_rfl) (by kernel_rfl) ?_
  try simp only [pa, pn, pb, pc, pd]
  refine rl_nil ?_
  refine hgo.out _ _ ?_
  clear hgo hgK
  refine hKK1 _ _ ?_
  refine wp_seq_k fun KK2 hKK2 => ?_
  refine wp_seq_k fun KK3 hKK3 => ?_
  refine rl_begin fun hgK hgo => ?_
  refine rl_take (some 17) (.pointer none) rfl (by kernel_rfl) (by kernel_rfl) ?_
  try simp only [pa, pn, pb, pc, pd]
  refine rl_take (some 18) (.int .i64 hi) rfl (by kernel_rfl) (by kernel_rfl) ?_
  try simp only [pa, pn, pb, pc, pd]
  refine rl_call (some 19) 77 #[.pointer none, .int .i64 hi] rfl (by kernel_rfl) (by kernel_rfl) (place_nil hi _) ?_
  rintro e w4 ⟨rfl, hL4⟩
  refine ⟨_, rfl, ?_⟩
  replace hB := hB.later hL4
  have hz4 := hL4.size
  try simp only [pa, pn, pb, pc, pd]
  refine rl_take (some 10) (.int .i64 1) rfl (by kernel_rfl) (by kernel_rfl) ?_
  try simp only [pa, pn, pb, pc, pd]
  refine rl_nil ?_
  refine hgo.out _ _ ?_
  clear hgo hgK
  refine hKK3 _ _ ?_
  refine wp_seq_k fun KK5 hKK5 => ?_
  refine rl_begin fun hgK hgo => ?_
  refine rl_take (some 20) (.int .i64 1) rfl (by kernel_rfl) (by kernel_rfl) ?_
  try simp only [pa, pn, pb, pc, pd]
  refine rl_take (some 21) (.bool true) rfl (by kernel_rfl) (by exact ex_bne (x := 1) (y := 0) (by kernel_rfl) ⟨fun _ => by omega, fun _ => rfl⟩) ?_
  try simp only [pa, pn, pb, pc, pd]
  refine rl_nil ?_
  refine hgo.out _ _ ?_
  clear hgo hgK
  refine hKK5 _ _ ?_
  refine wp_cond_true (by kernel_rfl) ?_
  refine wp_seq_k fun KK6 hKK6 => ?_
  refine rl_begin fun hgK hgo => ?_
  refine rl_take (some 22) (.int .i64 1) rfl (by kernel_rfl) (by kernel_rfl) ?_
  try simp only [pa, pn, pb, pc, pd]
  refine rl_take (some 8) (.pointer none) rfl (by kernel_rfl) (by kernel_rfl) ?_
  try simp only [pa, pn, pb, pc, pd]
  refine rl_take (some 9) (.int .i64 1) rfl (by kernel_rfl) (by kernel_rfl) ?_
  try simp only [pa, pn, pb, pc, pd]
  refine rl_nil ?_
  refine hgo.out _ _ ?_
  clear hgo hgK
  refine hKK6 _ _ ?_
  refine wp_ret ?_
  try simp only [Exit.then, Exit.inBlock]
  refine bp_ret (v := .tuple #[.pointer none, .int .i64 1]) (res2 rfl (res_tmp (by kernel_rfl)) (res_tmp (by kernel_rfl))) ?_
  exact ⟨rfl, hB⟩
theorem Join_nil1 (b : Nat) (w : World) : Calls Tryd.prog 42 #[.pointer none, .pointer (some ⟨b, 0, none⟩)] w fun e w' => e = .returned (.tuple #[.pointer none, .int .i64 1]) ∧ Ltr w w' := by
  have hB := Ltr.refl w
  go_enter Tryd.func42, Tryd.ntmps42
  refine wp_seq_k fun KK1 hKK1 => ?_
  refine rl_begin fun hgK hgo => ?_
  refine rl_take (some 4) (.pointer none) rfl (by kernel_rfl) (by kernel_rfl) ?_
  try simp only [pa, pn, pb, pc, pd]
  refine rl_take (some 5) (.int .i64 0) rfl (by kernel_rfl) (by kernel_rfl) ?_
  try simp only [pa, pn, pb, pc, pd]
  refine rl_nil ?_
  refine hgo.out _ _ ?_
  clear hgo hgK
  refine hKK1 _ _ ?_
  refine wp_seq_k fun KK2 hKK2 => ?_
  refine wp_block ?_
  refine wp_seq_k fun KK3 hKK3 => ?_
  refine rl_begin fun hgK hgo => ?_
  refine rl_take (some 7) (.pointer none) rfl (by kernel_rfl) (by kernel_rfl) ?_
  try simp only [pa, pn, pb, pc, pd]
  refine rl_take (some 8) (.bool true) rfl (by kernel_rfl) (by kernel_rfl) ?_
  try simp only [pa, pn, pb, pc, pd]
  refine rl_take (some 9) (.bool true) rfl (by kernel_rfl) (by kernel_rfl) ?_
  try simp only [pa, pn, pb, pc, pd]
  refine rl_pass (some 10) rfl (by kernel_rfl) ?_
  try simp only [pa, pn, pb, pc, pd]
  refine rl_pass (some 11) rfl (by kernel_rfl) ?_
  try simp only [pa, pn, pb, pc, pd]
  refine rl_take (some 12) (.bool true) rfl (by kernel_rfl) (by kernel_rfl) ?_
  try simp only [pa, pn, pb, pc, pd]
  refine rl_take (some 6) (.bool true) rfl (by kernel_rfl) (by kernel_rfl) ?_
  try simp only [pa, pn, pb, pc, pd]
  refine rl_nil ?_
  refine hgo.out _ _ ?_
  clear hgo hgK
  refine hKK3 _ _ ?_
  refine wp_cond_true (by kernel_rfl) ?_
  refine wp_seq_k fun KK4 hKK4 => ?_
  refine rl_begin fun hgK hgo => ?_
  refine rl_take (some 4) (.pointer none) rfl (by kernel_rfl) (by kernel_rfl) ?_
  try simp only [pa, pn, pb, pc, pd]
  refine rl_take (some 5) (.int .i64 1) rfl (by kernel_rfl) (by kernel_rfl) ?_
  try simp only [pa, pn, pb, pc, pd]
  refine rl_nil ?_
  refine hgo.out _ _ ?_
  clear hgo hgK
  refine hKK4 _ _ ?_
  refine wp_ret ?_
  try simp only [Exit.then, Exit.inBlock]
  refine bp_ret (v := .tuple #[.pointer none, .int .i64 1]) (res2 rfl (res_tmp (by kernel_rfl)) (res_tmp (by kernel_rfl))) ?_
  exact ⟨rfl, hB⟩
theorem Join_nil2 (b : Nat) (w : World) : Calls Tryd.prog 42 #[.pointer (some ⟨b, 0, none⟩), .pointer none] w fun e w' => e = .returned (.tuple #[.pointer none, .int .i64 1]) ∧ Ltr w w' := by
  have hB := Ltr.refl w
  go_enter Tryd.func42, Tryd.ntmps42
  refine wp_seq_k fun KK1 hKK1 => ?_
  refine rl_begin fun hgK hgo => ?_
  refine rl_take (some 4) (.pointer none) rfl (by kernel_rfl) (by kernel_rfl) ?_
  try simp only [pa, pn, pb, pc, pd]
  refine rl_take (some 5) (.int .i64 0) rfl (by kernel_rfl) (by kernel_rfl) ?_
  try simp only [pa, pn, pb, pc, pd]
  refine rl_nil ?_
  refine hgo.out _ _ ?_
  clear hgo hgK
  refine hKK1 _ _ ?_
  refine wp_seq_k fun KK2 hKK2 => ?_
  refine wp_block ?_
  refine wp_seq_k fun KK3 hKK3 => ?_
  refine rl_begin fun hgK hgo => ?_
  refine rl_take (some 7) (.pointer (some ⟨b, 0, none⟩)) rfl (by kernel_rfl) (by kernel_rfl) ?_
  try simp only [pa, pn, pb, pc, pd]
  refine rl_take (some 8) (.bool false) rfl (by kernel_rfl) (by kernel_rfl) ?_
  try simp only [pa, pn, pb, pc, pd]
  refine rl_take (some 9) (.bool false) rfl (by kernel_rfl) (by kernel_rfl) ?_
  try simp only [pa, pn, pb, pc, pd]
  refine rl_take (some 10) (.pointer none) rfl (by kernel_rfl) (by kernel_rfl) ?_
  try simp only [pa, pn, pb, pc, pd]
  refine rl_take (some 11) (.bool true) rfl (by kernel_rfl) (by kernel_rfl) ?_
  try simp only [pa, pn, pb, pc, pd]
  refine rl_take (some 12) (.bool true) rfl (by kernel_rfl) (by kernel_rfl) ?_
  try simp only [pa, pn, pb, pc, pd]
  refine rl_take (some 6) (.bool true) rfl (by kernel_rfl) (by kernel_rfl) ?_
  try simp only [pa, pn, pb, pc, pd]
  refine rl_nil ?_
  refine hgo.out _ _ ?_
  clear hgo hgK
  refine hKK3 _ _ ?_
  refine wp_cond_true (by kernel_rfl) ?_
  refine wp_seq_k fun KK4 hKK4 => ?_
  refine rl_begin fun hgK hgo => ?_
  refine rl_take (some 4) (.pointer none) rfl (by kernel_rfl) (by kernel_rfl) ?_
  try simp only [pa, pn, pb, pc, pd]
  refine rl_take (some 5) (.int .i64 1) rfl (by kernel_rfl) (by kernel_rfl) ?_
  try simp only [pa, pn, pb, pc, pd]
  refine rl_nil ?_
  refine hgo.out _ _ ?_
  clear hgo hgK
  refine hKK4 _ _ ?_
  refine wp_ret ?_
  try simp only [Exit.then, Exit.inBlock]
  refine bp_ret (v := .tuple #[.pointer none, .int .i64 1]) (res2 rfl (res_tmp (by kernel_rfl)) (res_tmp (by kernel_rfl))) ?_
  exact ⟨rfl, hB⟩
theorem iter_nil (n₀ : Nat) (w : World) (p0 p1 p2 : Nat) (f : Int) (h0 : Blk w p0 31 #[.pointer none]) (h1 : Blk w p1 3 #[.int .i64 f]) :
    SeqP Tryd.prog 76 #[.pointer (some ⟨p0, 0, none⟩), .pointer (some ⟨p1, 0, none⟩), .pointer (some ⟨p2, 0, none⟩)] pcEnc n₀ (pcP n₀) (PcOk []) (fun xs => xs.map pcB = []) w := by
  intro lp J Jx W hW c1 c2 hY hn hJ
  have hJJ : JAt J [] W.heap.size W := ⟨c1, W, rfl, hJ, Ltr.refl _⟩
  clear hJ
  replace h0 := h0.later hW
  replace h1 := h1.later hW
  simp only [List.push_toArray, List.append_toArray, List.cons_append, List.nil_append]
  go_enter Tryd.func76, Tryd.ntmps76
  have hlt_h0 := h0.lt
  have hlt_h1 := h1.lt
  refine wp_seq_k fun KK1 hKK1 => ?_
  refine wp_seq_k fun KK2 hKK2 => ?_
  refine rl_begin fun hgK hgo => ?_
  refine rl_take (some 5) (.pointer none) rfl (by kernel_rfl) (by exact ld1 31 _ rfl p0 0 rfl (fun _ => by kernel_rfl) _ (h0.cell 0)) ?_
  try simp only [pa, pn, pb, pc, pd]
  refine rl_take (some 6) (.int .i64 f) rfl (by kernel_rfl) (by exact ld1 3 _ rfl p1 0 rfl (fun _ => by kernel_rfl) _ (h1.cell 0)) ?_
  try simp only [pa, pn, pb, pc, pd]
  refine rl_call (some 7) 77 #[.pointer none, .int .i64 f] rfl (by kernel_rfl) (by kernel_rfl) (place_nil f _) ?_
  rintro e w3 ⟨rfl, hL3⟩
  refine ⟨_, rfl, ?_⟩
  replace hJJ := hJJ.later hL3
  replace h0 := h0.later hL3
  replace h1 := h1.later hL3
  have hz3 := hL3.size
  try simp only [pa, pn, pb, pc, pd]
  refine rl_take (some 8) (.bool true) rfl (by kernel_rfl) (by exact ex_bne (x := 1) (y := 0) (by kernel_rfl) ⟨fun _ => by omega, fun _ => rfl⟩) ?_
  try simp only [pa, pn, pb, pc, pd]
  refine rl_nil ?_
  refine hgo.out _ _ ?_
  clear hgo hgK
  refine hKK2 _ _ ?_
  refine wp_cond_true (by kernel_rfl) ?_
  refine wp_ret ?_
  try simp only [Exit.then, Exit.inBlock]
  refine bp_ret (v := .tuple #[]) (res0 rfl) ?_
  exact ⟨⟨_, rfl⟩, .inl ⟨[], rfl, hJJ.get⟩⟩
theorem Pieces_nil (n₀ : Nat) (f : Int) (back : Bool) (w : World) : Calls Tryd.prog 32 #[.pointer none, .int .i64 f, .bool back] w (PiecesP n₀ [] w) := by
  have hB := Ltr.refl w
  go_enter Tryd.func32, Tryd.ntmps32
  refine wp_seq_k fun KK1 hKK1 => ?_
  refine rl_begin fun hgK hgo => ?_
  refine rl_alloc (some 3) 31 #[.pointer none] rfl (by kernel_rfl) (fun W => by kernel_rfl) fun p w2 hL2 hp2 hp => ?_
  replace hB := hB.later hL2
  have hz2 := hL2.size
  have hlt2 := hp.lt
  try simp only [pa, pn, pb, pc, pd]
  refine rl_alloc (some 4) 3 #[.int .i64 f] rfl (by kernel_rfl) (fun W => by kernel_rfl) fun q w3 hL3 hp3 hq => ?_
  replace hB := hB.later hL3
  replace hp := hp.later hL3
  have hz3 := hL3.size
  have hlt3 := hq.lt
  try simp only [pa, pn, pb, pc, pd]
  refine rl_alloc (some 5) 4 #[.bool back] rfl (by kernel_rfl) (fun W => by kernel_rfl) fun r_ w4 hL4 hp4 hr_ => ?_
  replace hB := hB.later hL4
  replace hp := hp.later hL4
  replace hq := hq.later hL4
  have hz4 := hL4.size
  have hlt4 := hr_.lt
  try simp only [pa, pn, pb, pc, pd]
  refine rl_take (some 6) (.nilFunc) rfl (by kernel_rfl) (by kernel_rfl) ?_
  try simp only [pa, pn, pb, pc, pd]
  refine rl_nil ?_
  refine hgo.out _ _ ?_
  clear hgo hgK
  refine hKK1 _ _ ?_
  refine wp_seq_k fun KK5 hKK5 => ?_
  refine rl_begin fun hgK hgo => ?_
  refine rl_take (some 7) (.func (.func 76) #[] #[.pointer (some ⟨p, 0, none⟩), .pointer (some ⟨q, 0, none⟩), .pointer (some ⟨r_, 0, none⟩)]) rfl (by kernel_rfl) (by kernel_rfl) ?_
  try simp only [pa, pn, pb, pc, pd]
  refine rl_take (some 6) (.func (.func 76) #[] #[.pointer (some ⟨p, 0, none⟩), .pointer (some ⟨q, 0, none⟩), .pointer (some ⟨r_, 0, none⟩)]) rfl (by kernel_rfl) (by kernel_rfl) ?_
  try simp only [pa, pn, pb, pc, pd]
  refine rl_nil ?_
  refine hgo.out _ _ ?_
  clear hgo hgK
  refine hKK5 _ _ ?_
  refine wp_ret ?_
  try simp only [Exit.then, Exit.inBlock]
  refine bp_ret (v := .func (.func 76) #[] #[.pointer (some ⟨p, 0, none⟩), .pointer (some ⟨q, 0, none⟩), .pointer (some ⟨r_, 0, none⟩)]) (res1 rfl (res_tmp (by kernel_rfl))) ?_
  exact ⟨p, q, r_, rfl, hB, iter_nil n₀ _ p q r_ f hp hq⟩
theorem RopeNil1_any (w : World) :
    Calls Tryd.prog 46 #[.agg #[.int .i64 (@List.nil UInt8).length, .int .i64 (runesN (@List.nil UInt8)), .int .i64 (unitsN (@List.nil UInt8)), .int .i64 (endsN (@List.nil UInt8)), .string (bs (headOf (@List.nil UInt8))), .string (bs (tailOf (@List.nil UInt8)))]] w fun e w' => e = .returned (.bool true) ∧ Ltr w w' := by
  have hB := Ltr.refl w
  go_enter Tryd.func46, Tryd.ntmps46
  refine wp_seq_k fun KK1 hKK1 => ?_
  refine rl_begin fun hgK hgo => ?_
  refine rl_alloc (some 1) 36 #[.int .i64 (@List.nil UInt8).length, .int .i64 (runesN (@List.nil UInt8)), .int .i64 (unitsN (@List.nil UInt8)), .int .i64 (endsN (@List.nil UInt8)), .string (bs (headOf (@List.nil UInt8))), .string (bs (tailOf (@List.nil UInt8)))] rfl (by kernel_rfl) (fun W => by kernel_rfl) fun p w2 hL2 hp2 hp => ?_
  replace hB := hB.later hL2
  have hz2 := hL2.size
  have hlt2 := hp.lt
  try simp only [pa, pn, pb, pc, pd]
  refine rl_take (some 2) (.bool false) rfl (by kernel_rfl) (by kernel_rfl) ?_
  try simp only [pa, pn, pb, pc, pd]
  refine rl_nil ?_
  refine hgo.out _ _ ?_
  clear hgo hgK
  refine hKK1 _ _ ?_
  refine wp_seq_k fun KK3 hKK3 => ?_
  refine rl_begin fun hgK hgo => ?_
  refine rl_take (some 3) (.agg #[.int .i64 (@List.nil UInt8).length, .int .i64 (runesN (@List.nil UInt8)), .int .i64 (unitsN (@List.nil UInt8)), .int .i64 (endsN (@List.nil UInt8)), .string (bs (headOf (@List.nil UInt8))), .string (bs (tailOf (@List.nil UInt8)))]) rfl (by kernel_rfl) (by exact ldN 36 _ rfl p 0 rfl (fun _ => by kernel_rfl) [] [.int .i64 (@List.nil UInt8).length, .int .i64 (runesN (@List.nil UInt8)), .int .i64 (unitsN (@List.nil UInt8)), .int .i64 (endsN (@List.nil UInt8)), .string (bs (headOf (@List.nil UInt8))), .string (bs (tailOf (@List.nil UInt8)))] [] (by kernel_rfl) hp rfl rfl) ?_
  try simp only [pa, pn, pb, pc, pd]
  refine rl_take (some 4) (.agg #[.int .i64 0, .int .i64 0, .int .i64 0, .int .i64 0, .string ⟨#[]⟩, .string ⟨#[]⟩]) rfl (by kernel_rfl) (by kernel_rfl) ?_
  try simp only [pa, pn, pb, pc, pd]
  refine rl_take (some 5) (.bool true) rfl (by kernel_rfl) (by kernel_rfl) ?_
  try simp only [pa, pn, pb, pc, pd]
  refine rl_take (some 2) (.bool true) rfl (by kernel_rfl) (by kernel_rfl) ?_
  try simp only [pa, pn, pb, pc, pd]
  refine rl_nil ?_
  refine hgo.out _ _ ?_
  clear hgo hgK
  refine hKK3 _ _ ?_
  refine wp_ret ?_
  try simp only [Exit.then, Exit.inBlock]
  refine bp_ret (v := .bool true) (res1 rfl (res_tmp (by kernel_rfl))) ?_
  exact ⟨rfl, hB⟩
theorem RopeNil2_any (w : World) :
    Calls Tryd.prog 47 #[.agg #[.int .i64 (@List.nil UInt8).length, .int .i64 (runesN (@List.nil UInt8)), .int .i64 (unitsN (@List.nil UInt8)), .int .i64 (endsN (@List.nil UInt8)), .string (bs (headOf (@List.nil UInt8))), .string (bs (tailOf (@List.nil UInt8)))]] w fun e w' => e = .returned (.bool false) ∧ Ltr w w' := by
  have hB := Ltr.refl w
  go_enter Tryd.func47, Tryd.ntmps47
  refine wp_seq_k fun KK1 hKK1 => ?_
  refine rl_begin fun hgK hgo => ?_
  refine rl_alloc (some 1) 36 #[.int .i64 (@List.nil UInt8).length, .int .i64 (runesN (@List.nil UInt8)), .int .i64 (unitsN (@List.nil UInt8)), .int .i64 (endsN (@List.nil UInt8)), .string (bs (headOf (@List.nil UInt8))), .string (bs (tailOf (@List.nil UInt8)))] rfl (by kernel_rfl) (fun W => by kernel_rfl) fun p w2 hL2 hp2 hp => ?_
  replace hB := hB.later hL2
  have hz2 := hL2.size
  have hlt2 := hp.lt
  try simp only [pa, pn, pb, pc, pd]
  refine rl_take (some 2) (.bool false) rfl (by kernel_rfl) (by kernel_rfl) ?_
  try simp only [pa, pn, pb, pc, pd]
  refine rl_nil ?_
  refine hgo.out _ _ ?_
  clear hgo hgK
  refine hKK1 _ _ ?_
  refine wp_seq_k fun KK3 hKK3 => ?_
  refine rl_begin fun hgK hgo => ?_
  refine rl_take (some 3) (.pointer (some ⟨p, 0, none⟩)) rfl (by kernel_rfl) (by kernel_rfl) ?_
  try simp only [pa, pn, pb, pc, pd]
  refine rl_take (some 4) (.pointer (some ⟨p, 0, none⟩)) rfl (by kernel_rfl) (by kernel_rfl) ?_
  try simp only [pa, pn, pb, pc, pd]
  refine rl_take (some 5) (.int .i64 (@List.nil UInt8).length) rfl (by kernel_rfl) (by exact ld1 3 _ rfl p 0 rfl (fun _ => by kernel_rfl) _ (hp.cell 0)) ?_
  try simp only [pa, pn, pb, pc, pd]
  refine rl_take (some 6) (.bool false) rfl (by kernel_rfl) (by kernel_rfl) ?_
  try simp only [pa, pn, pb, pc, pd]
  refine rl_take (some 2) (.bool false) rfl (by kernel_rfl) (by kernel_rfl) ?_
  try simp only [pa, pn, pb, pc, pd]
  refine rl_nil ?_
  refine hgo.out _ _ ?_
  clear hgo hgK
  refine hKK3 _ _ ?_
  refine wp_ret ?_
  try simp only [Exit.then, Exit.inBlock]
  refine bp_ret (v := .bool false) (res1 rfl (res_tmp (by kernel_rfl))) ?_
  exact ⟨rfl, hB⟩
theorem First_nil1 (w : World) (hT : Tabs w) : Calls Tryd.prog 21 #[.pointer none, .func (.func 46) #[] #[]] w fun e w' => e = .returned (.int .i64 0) ∧ Ltr w w' := by
  have hB := Ltr.refl w
  go_enter Tryd.func21, Tryd.ntmps21
  have h4 := hT.four
  refine wp_seq_k fun KK1 hKK1 => ?_
  refine rl_begin fun hgK hgo => ?_
  refine rl_take (some 4) (.int .i64 0) rfl (by kernel_rfl) (by kernel_rfl) ?_
  try simp only [pa, pn, pb, pc, pd]
  refine rl_nil ?_
  refine hgo.out _ _ ?_
  clear hgo hgK
  refine hKK1 _ _ ?_
  refine wp_seq_k fun KK2 hKK2 => ?_
  refine wp_seq_k fun KK3 hKK3 => ?_
  refine rl_begin fun hgK hgo => ?_
  refine rl_take (some 18) (.func (.func 46) #[] #[]) rfl (by kernel_rfl) (by kernel_rfl) ?_
  try simp only [pa, pn, pb, pc, pd]
  refine rl_take (some 19) (.bool false) rfl (by kernel_rfl) (by kernel_rfl) ?_
  try simp only [pa, pn, pb, pc, pd]
  refine rl_nil ?_
  refine hgo.out _ _ ?_
  clear hgo hgK
  refine hKK3 _ _ ?_
  refine wp_cond_false (by kernel_rfl) ?_
  refine wp_skip ?_
  refine hKK2 _ _ ?_
  refine wp_seq_k fun KK4 hKK4 => ?_
  refine rl_begin fun hgK hgo => ?_
  refine rl_call (some 20) 60 #[.slice none 0 0] rfl (by kernel_rfl) (by kernel_rfl) (Of_wv none 0 [] _ hT (BytesAt.nil _ _) (Nat.zero_le _) (by simp)) ?_
  rintro e w5 ⟨rfl, hL5⟩
  refine ⟨_, rfl, ?_⟩
  replace hT := hT.later hL5
  replace hB := hB.later hL5
  have hz5 := hL5.size
  try simp only [pa, pn, pb, pc, pd]
  refine rl_alloc (some 5) 36 #[.int .i64 0, .int .i64 0, .int .i64 0, .int .i64 0, .string ⟨#[]⟩, .string ⟨#[]⟩] rfl (by kernel_rfl) (fun W => by kernel_rfl) fun q w6 hL6 hp6 hq => ?_
  replace hT := hT.later hL6
  replace hB := hB.later hL6
  have hz6 := hL6.size
  have hlt6 := hq.lt
  try simp only [pa, pn, pb, pc, pd]
  refine rl_store q #[.int .i64 (@List.nil UInt8).length, .int .i64 (runesN (@List.nil UInt8)), .int .i64 (unitsN (@List.nil UInt8)), .int .i64 (endsN (@List.nil UInt8)), .string (bs (headOf (@List.nil UInt8))), .string (bs (tailOf (@List.nil UInt8)))] rfl rfl (by kernel_rfl) rfl rfl (by kernel_rfl) hq rfl (by kernel_rfl) fun w7 hU7 hn7 => ?_
  have hz7 := hU7.size
  replace hT := hT.upd hU7 (by omega)
  replace hB := hB.upd hU7 (by omega)
  clear hq
  have hq := hn7
  clear hn7
  try simp only [pa, pn, pb, pc, pd]
  refine rl_nil ?_
  refine hgo.out _ _ ?_
  clear hgo hgK
  refine hKK4 _ _ ?_
  refine wp_seq_k fun KK8 hKK8 => ?_
  refine wp_seq_k fun KK9 hKK9 => ?_
  refine rl_begin fun hgK hgo => ?_
  refine rl_take (some 21) (.func (.func 46) #[] #[]) rfl (by kernel_rfl) (by kernel_rfl) ?_
  try simp only [pa, pn, pb, pc, pd]
  refine rl_take (some 22) (.agg #[.int .i64 (@List.nil UInt8).length, .int .i64 (runesN (@List.nil UInt8)), .int .i64 (unitsN (@List.nil UInt8)), .int .i64 (endsN (@List.nil UInt8)), .string (bs (headOf (@List.nil UInt8))), .string (bs (tailOf (@List.nil UInt8)))]) rfl (by kernel_rfl) (by exact ldN 36 _ rfl q 0 rfl (fun _ => by kernel_rfl) [] [.int .i64 (@List.nil UInt8).length, .int .i64 (runesN (@List.nil UInt8)), .int .i64 (unitsN (@List.nil UInt8)), .int .i64 (endsN (@List.nil UInt8)), .string (bs (headOf (@List.nil UInt8))), .string (bs (tailOf (@List.nil UInt8)))] [] (by kernel_rfl) hq rfl rfl) ?_
  try simp only [pa, pn, pb, pc, pd]
  refine rl_call (some 23) 46 #[.agg #[.int .i64 (@List.nil UInt8).length, .int .i64 (runesN (@List.nil UInt8)), .int .i64 (unitsN (@List.nil UInt8)), .int .i64 (endsN (@List.nil UInt8)), .string (bs (headOf (@List.nil UInt8))), .string (bs (tailOf (@List.nil UInt8)))]] rfl (by kernel_rfl) (by kernel_rfl) (RopeNil1_any _) ?_
  rintro e w10 ⟨rfl, hL10⟩
  refine ⟨_, rfl, ?_⟩
  replace hT := hT.later hL10
  replace hB := hB.later hL10
  replace hq := hq.later hL10
  have hz10 := hL10.size
  try simp only [pa, pn, pb, pc, pd]
  refine rl_nil ?_
  refine hgo.out _ _ ?_
  clear hgo hgK
  refine hKK9 _ _ ?_
  refine wp_cond_true (by kernel_rfl) ?_
  refine wp_seq_k fun KK11 hKK11 => ?_
  refine rl_begin fun hgK hgo => ?_
  refine rl_take (some 4) (.int .i64 0) rfl (by kernel_rfl) (by kernel_rfl) ?_
  try simp only [pa, pn, pb, pc, pd]
  refine rl_nil ?_
  refine hgo.out _ _ ?_
  clear hgo hgK
  refine hKK11 _ _ ?_
  refine wp_ret ?_
  try simp only [Exit.then, Exit.inBlock]
  refine bp_ret (v := .int .i64 0) (res1 rfl (res_tmp (by kernel_rfl))) ?_
  exact ⟨rfl, hB⟩
theorem First_nil2 (w : World) (hT : Tabs w) : Calls Tryd.prog 21 #[.pointer none, .func (.func 47) #[] #[]] w fun e w' => e = .returned (.int .i64 (-1)) ∧ Ltr w w' := by
  have hB := Ltr.refl w
  go_enter Tryd.func21, Tryd.ntmps21
  have h4 := hT.four
  refine wp_seq_k fun KK1 hKK1 => ?_
  refine rl_begin fun hgK hgo => ?_
  refine rl_take (some 4) (.int .i64 0) rfl (by kernel_rfl) (by kernel_rfl) ?_
  try simp only [pa, pn, pb, pc, pd]
  refine rl_nil ?_
  refine hgo.out _ _ ?_
  clear hgo hgK
  refine hKK1 _ _ ?_
  refine wp_seq_k fun KK2 hKK2 => ?_
  refine wp_seq_k fun KK3 hKK3 => ?_
  refine rl_begin fun hgK hgo => ?_
  refine rl_take (some 18) (.func (.func 47) #[] #[]) rfl (by kernel_rfl) (by kernel_rfl) ?_
  try simp only [pa, pn, pb, pc, pd]
  refine rl_take (some 19) (.bool false) rfl (by kernel_rfl) (by kernel_rfl) ?_
  try simp only [pa, pn, pb, pc, pd]
  refine rl_nil ?_
  refine hgo.out _ _ ?_
  clear hgo hgK
  refine hKK3 _ _ ?_
  refine wp_cond_false (by kernel_rfl) ?_
  refine wp_skip ?_
  refine hKK2 _ _ ?_
  refine wp_seq_k fun KK4 hKK4 => ?_
  refine rl_begin fun hgK hgo => ?_
  refine rl_call (some 20) 60 #[.slice none 0 0] rfl (by kernel_rfl) (by kernel_rfl) (Of_wv none 0 [] _ hT (BytesAt.nil _ _) (Nat.zero_le _) (by simp)) ?_
  rintro e w5 ⟨rfl, hL5⟩
  refine ⟨_, rfl, ?_⟩
  replace hT := hT.later hL5
  replace hB := hB.later hL5
  have hz5 := hL5.size
  try simp only [pa, pn, pb, pc, pd]
  refine rl_alloc (some 5) 36 #[.int .i64 0, .int .i64 0, .int .i64 0, .int .i64 0, .string ⟨#[]⟩, .string ⟨#[]⟩] rfl (by kernel_rfl) (fun W => by kernel_rfl) fun q w6 hL6 hp6 hq => ?_
  replace hT := hT.later hL6
  replace hB := hB.later hL6
  have hz6 := hL6.size
  have hlt6 := hq.lt
  try simp only [pa, pn, pb, pc, pd]
  refine rl_store q #[.int .i64 (@List.nil UInt8).length, .int .i64 (runesN (@List.nil UInt8)), .int .i64 (unitsN (@List.nil UInt8)), .int .i64 (endsN (@List.nil UInt8)), .string (bs (headOf (@List.nil UInt8))), .string (bs (tailOf (@List.nil UInt8)))] rfl rfl (by kernel_rfl) rfl rfl (by kernel_rfl) hq rfl (by kernel_rfl) fun w7 hU7 hn7 => ?_
  have hz7 := hU7.size
  replace hT := hT.upd hU7 (by omega)
  replace hB := hB.upd hU7 (by omega)
  clear hq
  have hq := hn7
  clear hn7
  try simp only [pa, pn, pb, pc, pd]
  refine rl_nil ?_
  refine hgo.out _ _ ?_
  clear hgo hgK
  refine hKK4 _ _ ?_
  refine wp_seq_k fun KK8 hKK8 => ?_
  refine wp_seq_k fun KK9 hKK9 => ?_
  refine rl_begin fun hgK hgo => ?_
  refine rl_take (some 21) (.func (.func 47) #[] #[]) rfl (by kernel_rfl) (by kernel_rfl) ?_
  try simp only [pa, pn, pb, pc, pd]
  refine rl_take (some 22) (.agg #[.int .i64 (@List.nil UInt8).length, .int .i64 (runesN (@List.nil UInt8)), .int .i64 (unitsN (@List.nil UInt8)), .int .i64 (endsN (@List.nil UInt8)), .string (bs (headOf (@List.nil UInt8))), .string (bs (tailOf (@List.nil UInt8)))]) rfl (by kernel_rfl) (by exact ldN 36 _ rfl q 0 rfl (fun _ => by kernel_rfl) [] [.int .i64 (@List.nil UInt8).length, .int .i64 (runesN (@List.nil UInt8)), .int .i64 (unitsN (@List.nil UInt8)), .int .i64 (endsN (@List.nil UInt8)), .string (bs (headOf (@List.nil UInt8))), .string (bs (tailOf (@List.nil UInt8)))] [] (by kernel_rfl) hq rfl rfl) ?_
  try simp only [pa, pn, pb, pc, pd]
  refine rl_call (some 23) 47 #[.agg #[.int .i64 (@List.nil UInt8).length, .int .i64 (runesN (@List.nil UInt8)), .int .i64 (unitsN (@List.nil UInt8)), .int .i64 (endsN (@List.nil UInt8)), .string (bs (headOf (@List.nil UInt8))), .string (bs (tailOf (@List.nil UInt8)))]] rfl (by kernel_rfl) (by kernel_rfl) (RopeNil2_any _) ?_
  rintro e w10 ⟨rfl, hL10⟩
  refine ⟨_, rfl, ?_⟩
  replace hT := hT.later hL10
  replace hB := hB.later hL10
  replace hq := hq.later hL10
  have hz10 := hL10.size
  try simp only [pa, pn, pb, pc, pd]
  refine rl_nil ?_
  refine hgo.out _ _ ?_
  clear hgo hgK
  refine hKK9 _ _ ?_
  refine wp_cond_false (by kernel_rfl) ?_
  refine wp_skip ?_
  refine hKK8 _ _ ?_
  refine wp_seq_k fun KK11 hKK11 => ?_
  refine wp_seq_k fun KK12 hKK12 => ?_
  refine rl_begin fun hgK hgo => ?_
  refine rl_take (some 24) (.pointer none) rfl (by kernel_rfl) (by kernel_rfl) ?_
  try simp only [pa, pn, pb, pc, pd]
  refine rl_call (some 25) 45 #[.pointer none] rfl (by kernel_rfl) (by kernel_rfl) (Len_nil _) ?_
  rintro e w13 ⟨rfl, hL13⟩
  refine ⟨_, rfl, ?_⟩
  replace hT := hT.later hL13
  replace hB := hB.later hL13
  replace hq := hq.later hL13
  have hz13 := hL13.size
  try simp only [pa, pn, pb, pc, pd]
  refine rl_take (some 26) (.bool true) rfl (by kernel_rfl) (by exact ex_beq (x := 0) (y := 0) (by kernel_rfl) ⟨fun _ => by omega, fun _ => rfl⟩) ?_
  try simp only [pa, pn, pb, pc, pd]
  refine rl_take (some 27) (.bool true) rfl (by kernel_rfl) (by kernel_rfl) ?_
  try simp only [pa, pn, pb, pc, pd]
  refine rl_pass (some 28) rfl (by kernel_rfl) ?_
  try simp only [pa, pn, pb, pc, pd]
  refine rl_pass (some 29) rfl (by kernel_rfl) ?_
  try simp only [pa, pn, pb, pc, pd]
  refine rl_pass (some 30) rfl (by kernel_rfl) ?_
  try simp only [pa, pn, pb, pc, pd]
  refine rl_pass (some 31) rfl (by kernel_rfl) ?_
  try simp only [pa, pn, pb, pc, pd]
  refine rl_pass (some 32) rfl (by kernel_rfl) ?_
  try simp only [pa, pn, pb, pc, pd]
  refine rl_take (some 33) (.bool true) rfl (by kernel_rfl) (by kernel_rfl) ?_
  try simp only [pa, pn, pb, pc, pd]
  refine rl_nil ?_
  refine hgo.out _ _ ?_
  clear hgo hgK
  refine hKK12 _ _ ?_
  refine wp_cond_true (by kernel_rfl) ?_
  refine wp_seq_k fun KK14 hKK14 => ?_
  refine rl_begin fun hgK hgo => ?_
  refine rl_take (some 4) (.int .i64 (-1)) rfl (by kernel_rfl) (by kernel_rfl) ?_
  try simp only [pa, pn, pb, pc, pd]
  refine rl_nil ?_
  refine hgo.out _ _ ?_
  clear hgo hgK
  refine hKK14 _ _ ?_
  refine wp_ret ?_
  try simp only [Exit.then, Exit.inBlock]
  refine bp_ret (v := .int .i64 (-1)) (res1 rfl (res_tmp (by kernel_rfl))) ?_
  exact ⟨rfl, hB⟩
end Go.Proofs.YtliphfgiaioebaaDoor
