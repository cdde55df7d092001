/-
  Package rope: split, Split, Replace.
-/
import Derived.Test.YtliphfgiaioebaaDoorRopeM
namespace Go.Proofs.YtliphfgiaioebaaDoor
set_option linter.unusedVariables false
set_option linter.unusedSimpArgs false
open Go.RowKit

def SplitP (l : List UInt8) (n : Nat) (w : World) (e : Ending) (w' : World) : Prop := ∃ va vb, e = .returned (.tuple #[va, vb]) ∧ Ltr w w' ∧ Node w' (l.take n) va ∧ Node w' (l.drop n) vb
theorem Tree.node {w : World} {t : Tr} {v : Value} (h : Tree w t v) (ho : t.ok) : Node w t.bytes v := .inr ⟨t, ho, rfl, h⟩
theorem Node.nil (w : World) : Node w [] .nilIface := .inl ⟨rfl, rfl⟩
set_option maxRecDepth 100000 in
set_option maxHeartbeats 8000000 in
theorem split_nil (n : Nat) (w : World) : Calls Tryd.prog 82 #[.nilIface, .int .i64 n] w (SplitP [] n w) := by
  have hB := Ltr.refl w
  go_enter Tryd.func82, Tryd.ntmps82
  refine wp_seq_k fun KK1 hKK1 => ?_
  refine rl_begin fun hgK hgo => ?_
  refine rl_take (some 4) (.nilIface) rfl (by kernel_rfl) (by kernel_rfl) ?_
  try simp only [pa, pn, pb, pc, pd]
  refine rl_take (some 5) (.nilIface) rfl (by kernel_rfl) (by kernel_rfl) ?_
  try simp only [pa, pn, pb, pc, pd]
  refine rl_nil ?_
  refine hgo.out _ _ ?_
  clear hgo hgK
  refine hKK1 _ _ ?_
  refine wp_seq_k fun KK2 hKK2 => ?_
  refine wp_block ?_
  refine wp_seq_k fun KK3 hKK3 => ?_
  refine rl_begin fun hgK hgo => ?_
  refine rl_take (some 16) (.nilIface) rfl (by kernel_rfl) (by kernel_rfl) ?_
  try simp only [pa, pn, pb, pc, pd]
  refine rl_take (some 17) (.bool true) rfl (by kernel_rfl) (by kernel_rfl) ?_
  try simp only [pa, pn, pb, pc, pd]
  refine rl_take (some 18) (.bool true) rfl (by kernel_rfl) (by kernel_rfl) ?_
  try simp only [pa, pn, pb, pc, pd]
  refine rl_pass (some 19) rfl (by kernel_rfl) ?_
  try simp only [pa, pn, pb, pc, pd]
  refine rl_pass (some 20) rfl (by kernel_rfl) ?_
  try simp only [pa, pn, pb, pc, pd]
  refine rl_take (some 21) (.bool true) rfl (by kernel_rfl) (by kernel_rfl) ?_
  try simp only [pa, pn, pb, pc, pd]
  refine rl_take (some 15) (.bool true) rfl (by kernel_rfl) (by kernel_rfl) ?_
  try simp only [pa, pn, pb, pc, pd]
  refine rl_nil ?_
  refine hgo.out _ _ ?_
  clear hgo hgK
  refine hKK3 _ _ ?_
  refine wp_cond_true (by kernel_rfl) ?_
  refine wp_seq_k fun KK4 hKK4 => ?_
  refine rl_begin fun hgK hgo => ?_
  refine rl_take (some 22) (.nilIface) rfl (by kernel_rfl) (by kernel_rfl) ?_
  try simp only [pa, pn, pb, pc, pd]
  refine rl_take (some 4) (.nilIface) rfl (by kernel_rfl) (by kernel_rfl) ?_
  try simp only [pa, pn, pb, pc, pd]
  refine rl_take (some 5) (.nilIface) rfl (by kernel_rfl) (by kernel_rfl) ?_
  try simp only [pa, pn, pb, pc, pd]
  refine rl_nil ?_
  refine hgo.out _ _ ?_
  clear hgo hgK
  refine hKK4 _ _ ?_
  refine wp_ret ?_
  try simp only [Exit.then, Exit.inBlock]
  refine bp_ret (v := .tuple #[.nilIface, .nilIface]) (res2 rfl (res_tmp (by kernel_rfl)) (res_tmp (by kernel_rfl))) ?_
  exact ⟨_, _, rfl, hB, by simpa using Node.nil _, by simpa using Node.nil _⟩
set_option maxRecDepth 100000 in
set_option maxHeartbeats 8000000 in
theorem split_0 (t : Tr) (v : Value) (w : World) (ht : Tree w t v) (ho : t.ok) : Calls Tryd.prog 82 #[v, .int .i64 0] w (SplitP t.bytes 0 w) := by
  have hB := Ltr.refl w
  obtain ⟨ty, z, rfl⟩ := ht.iface
  go_enter Tryd.func82, Tryd.ntmps82
  refine wp_seq_k fun KK1 hKK1 => ?_
  refine rl_begin fun hgK hgo => ?_
  refine rl_take (some 4) (.nilIface) rfl (by kernel_rfl) (by kernel_rfl) ?_
  try simp only [pa, pn, pb, pc, pd]
  refine rl_take (some 5) (.nilIface) rfl (by kernel_rfl) (by kernel_rfl) ?_
  try simp only [pa, pn, pb, pc, pd]
  refine rl_nil ?_
  refine hgo.out _ _ ?_
  clear hgo hgK
  refine hKK1 _ _ ?_
  refine wp_seq_k fun KK2 hKK2 => ?_
  refine wp_block ?_
  refine wp_seq_k fun KK3 hKK3 => ?_
  refine rl_begin fun hgK hgo => ?_
  refine rl_take (some 16) (.iface ty z) rfl (by kernel_rfl) (by kernel_rfl) ?_
  try simp only [pa, pn, pb, pc, pd]
  refine rl_take (some 17) (.bool false) rfl (by kernel_rfl) (by kernel_rfl) ?_
  try simp only [pa, pn, pb, pc, pd]
  refine rl_take (some 18) (.bool false) rfl (by kernel_rfl) (by kernel_rfl) ?_
  try simp only [pa, pn, pb, pc, pd]
  refine rl_take (some 19) (.int .i64 0) rfl (by kernel_rfl) (by kernel_rfl) ?_
  try simp only [pa, pn, pb, pc, pd]
  refine rl_take (some 20) (.bool true) rfl (by kernel_rfl) (by exact ex_beq (x := 0) (y := 0) (by kernel_rfl) ⟨fun _ => by rfl, fun _ => rfl⟩) ?_
  try simp only [pa, pn, pb, pc, pd]
  refine rl_take (some 21) (.bool true) rfl (by kernel_rfl) (by kernel_rfl) ?_
  try simp only [pa, pn, pb, pc, pd]
  refine rl_take (some 15) (.bool true) rfl (by kernel_rfl) (by kernel_rfl) ?_
  try simp only [pa, pn, pb, pc, pd]
  refine rl_nil ?_
  refine hgo.out _ _ ?_
  clear hgo hgK
  refine hKK3 _ _ ?_
  refine wp_cond_true (by kernel_rfl) ?_
  refine wp_seq_k fun KK4 hKK4 => ?_
  refine rl_begin fun hgK hgo => ?_
  refine rl_take (some 22) (.iface ty z) rfl (by kernel_rfl) (by kernel_rfl) ?_
  try simp only [pa, pn, pb, pc, pd]
  refine rl_take (some 4) (.nilIface) rfl (by kernel_rfl) (by kernel_rfl) ?_
  try simp only [pa, pn, pb, pc, pd]
  refine rl_take (some 5) (.iface ty z) rfl (by kernel_rfl) (by kernel_rfl) ?_
  try simp only [pa, pn, pb, pc, pd]
  refine rl_nil ?_
  refine hgo.out _ _ ?_
  clear hgo hgK
  refine hKK4 _ _ ?_
  refine wp_ret ?_
  try simp only [Exit.then, Exit.inBlock]
  refine bp_ret (v := .tuple #[.nilIface, .iface ty z]) (res2 rfl (res_tmp (by kernel_rfl)) (res_tmp (by kernel_rfl))) ?_
  exact ⟨_, _, rfl, hB, by simpa using Node.nil _, by simpa using ht.node ho⟩
set_option maxRecDepth 100000 in
set_option maxHeartbeats 8000000 in
theorem split_all (t : Tr) (v : Value) (w : World) (ht : Tree w t v) (ho : t.ok) : Calls Tryd.prog 82 #[v, .int .i64 t.bytes.length] w (SplitP t.bytes t.bytes.length w) := by
  have hB := Ltr.refl w
  have h0 := t.len_pos ho
  obtain ⟨f1, x1, e1, c1⟩ := inv_size ht
  obtain ⟨ty, z, rfl⟩ := ht.iface
  go_enter Tryd.func82, Tryd.ntmps82
  refine wp_seq_k fun KK1 hKK1 => ?_
  refine rl_begin fun hgK hgo => ?_
  refine rl_take (some 4) (.nilIface) rfl (by kernel_rfl) (by kernel_rfl) ?_
  try simp only [pa, pn, pb, pc, pd]
  refine rl_take (some 5) (.nilIface) rfl (by kernel_rfl) (by kernel_rfl) ?_
  try simp only [pa, pn, pb, pc, pd]
  refine rl_nil ?_
  refine hgo.out _ _ ?_
  clear hgo hgK
  refine hKK1 _ _ ?_
  refine wp_seq_k fun KK2 hKK2 => ?_
  refine wp_block ?_
  refine wp_seq_k fun KK3 hKK3 => ?_
  refine rl_begin fun hgK hgo => ?_
  refine rl_take (some 16) (.iface ty z) rfl (by kernel_rfl) (by kernel_rfl) ?_
  try simp only [pa, pn, pb, pc, pd]
  refine rl_take (some 17) (.bool false) rfl (by kernel_rfl) (by kernel_rfl) ?_
  try simp only [pa, pn, pb, pc, pd]
  refine rl_take (some 18) (.bool false) rfl (by kernel_rfl) (by kernel_rfl) ?_
  try simp only [pa, pn, pb, pc, pd]
  refine rl_take (some 19) (.int .i64 t.bytes.length) rfl (by kernel_rfl) (by kernel_rfl) ?_
  try simp only [pa, pn, pb, pc, pd]
  refine rl_take (some 20) (.bool false) rfl (by kernel_rfl) (by exact ex_beq (x := t.bytes.length) (y := 0) (by kernel_rfl) ⟨fun q => (by cases q), fun q => absurd q (by omega)⟩) ?_
  try simp only [pa, pn, pb, pc, pd]
  refine rl_take (some 21) (.bool false) rfl (by kernel_rfl) (by kernel_rfl) ?_
  try simp only [pa, pn, pb, pc, pd]
  refine rl_take (some 15) (.bool false) rfl (by kernel_rfl) (by kernel_rfl) ?_
  try simp only [pa, pn, pb, pc, pd]
  refine rl_nil ?_
  refine hgo.out _ _ ?_
  clear hgo hgK
  refine hKK3 _ _ ?_
  refine wp_cond_false (by kernel_rfl) ?_
  refine wp_seq_k fun KK4 hKK4 => ?_
  refine rl_begin fun hgK hgo => ?_
  refine rl_take (some 24) (.int .i64 t.bytes.length) rfl (by kernel_rfl) (by kernel_rfl) ?_
  try simp only [pa, pn, pb, pc, pd]
  refine rl_take (some 25) (.iface ty z) rfl (by kernel_rfl) (by kernel_rfl) ?_
  try simp only [pa, pn, pb, pc, pd]
  refine rl_call (some 26) f1 #[x1] rfl (by kernel_rfl) (by exact e1 _ _ _ _ rfl rfl) (c1 _ hB) ?_
  rintro e w5 ⟨rfl, hL5⟩
  refine ⟨_, rfl, ?_⟩
  replace hB := hB.later hL5
  replace ht := ht.later hL5
  have hz5 := hL5.size
  try simp only [pa, pn, pb, pc, pd]
  refine rl_take (some 27) (.bool true) rfl (by kernel_rfl) (by exact ex_beq (x := t.bytes.length) (y := t.bytes.length) (by kernel_rfl) ⟨fun _ => by rfl, fun _ => rfl⟩) ?_
  try simp only [pa, pn, pb, pc, pd]
  refine rl_take (some 23) (.bool true) rfl (by kernel_rfl) (by kernel_rfl) ?_
  try simp only [pa, pn, pb, pc, pd]
  refine rl_nil ?_
  refine hgo.out _ _ ?_
  clear hgo hgK
  refine hKK4 _ _ ?_
  refine wp_cond_true (by kernel_rfl) ?_
  refine wp_seq_k fun KK6 hKK6 => ?_
  refine rl_begin fun hgK hgo => ?_
  refine rl_take (some 28) (.iface ty z) rfl (by kernel_rfl) (by kernel_rfl) ?_
  try simp only [pa, pn, pb, pc, pd]
  refine rl_take (some 4) (.iface ty z) rfl (by kernel_rfl) (by kernel_rfl) ?_
  try simp only [pa, pn, pb, pc, pd]
  refine rl_take (some 5) (.nilIface) rfl (by kernel_rfl) (by kernel_rfl) ?_
  try simp only [pa, pn, pb, pc, pd]
  refine rl_nil ?_
  refine hgo.out _ _ ?_
  clear hgo hgK
  refine hKK6 _ _ ?_
  refine wp_ret ?_
  try simp only [Exit.then, Exit.inBlock]
  refine bp_ret (v := .tuple #[.iface ty z, .nilIface]) (res2 rfl (res_tmp (by kernel_rfl)) (res_tmp (by kernel_rfl))) ?_
  exact ⟨_, _, rfl, hB, by simpa using ht.node ho, by simpa using Node.nil _⟩
set_option maxRecDepth 100000 in
set_option maxHeartbeats 8000000 in
theorem split_tip (l : List UInt8) (n : Nat) (v : Value) (w : World) (hT : Tabs w) (ht : Tree w (.tip l) v) (ho : (Tr.tip l).ok) (h1 : 0 < n) (h2 : n < l.length) : Calls Tryd.prog 82 #[v, .int .i64 n] w (SplitP l n w) := by
  have hB := Ltr.refl w
  obtain ⟨a, rfl, ha⟩ := ht.tip_open
  have la := Blk.lt ha
  obtain ⟨o1, o2⟩ := ho
  go_enter Tryd.func82, Tryd.ntmps82
  have h4 := hT.four
  refine wp_seq_k fun KK1 hKK1 => ?_
  refine rl_begin fun hgK hgo => ?_
  refine rl_take (some 4) (.nilIface) rfl (by kernel_rfl) (by kernel_rfl) ?_
  try simp only [pa, pn, pb, pc, pd]
  refine rl_take (some 5) (.nilIface) rfl (by kernel_rfl) (by kernel_rfl) ?_
  try simp only [pa, pn, pb, pc, pd]
  refine rl_nil ?_
  refine hgo.out _ _ ?_
  clear hgo hgK
  refine hKK1 _ _ ?_
  refine wp_seq_k fun KK2 hKK2 => ?_
  refine wp_block ?_
  refine wp_seq_k fun KK3 hKK3 => ?_
  refine rl_begin fun hgK hgo => ?_
  refine rl_take (some 16) (.iface 118 (.agg #[.pointer (some ⟨a, 0, none⟩)])) rfl (by kernel_rfl) (by kernel_rfl) ?_
  try simp only [pa, pn, pb, pc, pd]
  refine rl_take (some 17) (.bool false) rfl (by kernel_rfl) (by kernel_rfl) ?_
  try simp only [pa, pn, pb, pc, pd]
  refine rl_take (some 18) (.bool false) rfl (by kernel_rfl) (by kernel_rfl) ?_
  try simp only [pa, pn, pb, pc, pd]
  refine rl_take (some 19) (.int .i64 n) rfl (by kernel_rfl) (by kernel_rfl) ?_
  try simp only [pa, pn, pb, pc, pd]
  refine rl_take (some 20) (.bool false) rfl (by kernel_rfl) (by exact ex_beq (x := n) (y := 0) (by kernel_rfl) ⟨fun q => (by cases q), fun q => absurd q (by omega)⟩) ?_
  try simp only [pa, pn, pb, pc, pd]
  refine rl_take (some 21) (.bool false) rfl (by kernel_rfl) (by kernel_rfl) ?_
  try simp only [pa, pn, pb, pc, pd]
  refine rl_take (some 15) (.bool false) rfl (by kernel_rfl) (by kernel_rfl) ?_
  try simp only [pa, pn, pb, pc, pd]
  refine rl_nil ?_
  refine hgo.out _ _ ?_
  clear hgo hgK
  refine hKK3 _ _ ?_
  refine wp_cond_false (by kernel_rfl) ?_
  refine wp_seq_k fun KK4 hKK4 => ?_
  refine rl_begin fun hgK hgo => ?_
  refine rl_take (some 24) (.int .i64 n) rfl (by kernel_rfl) (by kernel_rfl) ?_
  try simp only [pa, pn, pb, pc, pd]
  refine rl_take (some 25) (.iface 118 (.agg #[.pointer (some ⟨a, 0, none⟩)])) rfl (by kernel_rfl) (by kernel_rfl) ?_
  try simp only [pa, pn, pb, pc, pd]
  refine rl_call (some 26) 161 #[(.agg #[.pointer (some ⟨a, 0, none⟩)])] rfl (by kernel_rfl) (by kernel_rfl) (tsize_any a l _ ha) ?_
  rintro e w5 ⟨rfl, hL5⟩
  refine ⟨_, rfl, ?_⟩
  replace hT := hT.later hL5
  replace hB := hB.later hL5
  replace ha := ha.later hL5
  have hz5 := hL5.size
  try simp only [pa, pn, pb, pc, pd]
  refine rl_take (some 27) (.bool false) rfl (by kernel_rfl) (by exact ex_beq (x := n) (y := l.length) (by kernel_rfl) ⟨fun q => (by cases q), fun q => absurd q (by omega)⟩) ?_
  try simp only [pa, pn, pb, pc, pd]
  refine rl_take (some 23) (.bool false) rfl (by kernel_rfl) (by kernel_rfl) ?_
  try simp only [pa, pn, pb, pc, pd]
  refine rl_nil ?_
  refine hgo.out _ _ ?_
  clear hgo hgK
  refine hKK4 _ _ ?_
  refine wp_cond_false (by kernel_rfl) ?_
  refine wp_skip ?_
  refine hKK2 _ _ ?_
  refine wp_seq_k fun KK6 hKK6 => ?_
  refine wp_seq_k fun KK7 hKK7 => ?_
  refine rl_begin fun hgK hgo => ?_
  refine rl_take (some 29) (.iface 118 (.agg #[.pointer (some ⟨a, 0, none⟩)])) rfl (by kernel_rfl) (by kernel_rfl) ?_
  try simp only [pa, pn, pb, pc, pd]
  refine rl_nil ?_
  refine hgo.out _ _ ?_
  clear hgo hgK
  refine hKK7 _ _ ?_
  refine wp_block ?_
  refine wp_seq_k fun KK8 hKK8 => ?_
  refine rl_begin fun hgK hgo => ?_
  refine rl_take (some 30) (.tuple #[.agg #[.pointer (some ⟨a, 0, none⟩)], .bool true]) rfl (by kernel_rfl) (by kernel_rfl) ?_
  try simp only [pa, pn, pb, pc, pd]
  refine rl_take (some 31) (.bool true) rfl (by kernel_rfl) (by kernel_rfl) ?_
  try simp only [pa, pn, pb, pc, pd]
  refine rl_take (some 32) (.agg #[.pointer (some ⟨a, 0, none⟩)]) rfl (by kernel_rfl) (by kernel_rfl) ?_
  try simp only [pa, pn, pb, pc, pd]
  refine rl_nil ?_
  refine hgo.out _ _ ?_
  clear hgo hgK
  refine hKK8 _ _ ?_
  refine wp_cond_true (by kernel_rfl) ?_
  refine wp_seq_k fun KK9 hKK9 => ?_
  refine rl_begin fun hgK hgo => ?_
  refine rl_alloc (some 6) 118 #[.pointer none] rfl (by kernel_rfl) (fun W => by kernel_rfl) fun p10 w10 hL10 hp10 hb10 => ?_
  replace hT := hT.later hL10
  replace hB := hB.later hL10
  replace ha := ha.later hL10
  have hz10 := hL10.size
  have hlt10 := hb10.lt
  try simp only [pa, pn, pb, pc, pd]
  refine rl_store p10 #[.pointer (some ⟨a, 0, none⟩)] rfl rfl (by kernel_rfl) rfl rfl (by kernel_rfl) hb10 rfl (by kernel_rfl) fun w11 hU11 hn11 => ?_
  have hz11 := hU11.size
  replace hT := hT.upd hU11 (by omega)
  replace hB := hB.upd hU11 (by omega)
  replace ha := ha.upd hU11 (by omega)
  clear hb10
  have hb10 := hn11
  clear hn11
  try simp only [pa, pn, pb, pc, pd]
  refine rl_nil ?_
  refine hgo.out _ _ ?_
  clear hgo hgK
  refine hKK9 _ _ ?_
  refine wp_seq_k fun KK12 hKK12 => ?_
  refine rl_begin fun hgK hgo => ?_
  refine rl_take (some 34) (.pointer (some ⟨p10, 0, none⟩)) rfl (by kernel_rfl) (by kernel_rfl) ?_
  try simp only [pa, pn, pb, pc, pd]
  refine rl_take (some 35) (.pointer (some ⟨a, 0, none⟩)) rfl (by kernel_rfl) (by exact ld1 116 _ rfl p10 0 rfl (fun _ => by kernel_rfl) _ (hb10.cell 0)) ?_
  try simp only [pa, pn, pb, pc, pd]
  refine rl_take (some 36) (.int .i64 n) rfl (by kernel_rfl) (by kernel_rfl) ?_
  try simp only [pa, pn, pb, pc, pd]
  refine rl_call (some 37) 104 #[.pointer (some ⟨a, 0, none⟩), .int .i64 n] rfl (by kernel_rfl) (by kernel_rfl) (LSplit_any a l n (by omega) (by omega) _ hT ha) ?_
  rintro e w13 ⟨p, q, rfl, hL13, hp, hq⟩
  refine ⟨_, rfl, ?_⟩
  replace hT := hT.later hL13
  replace hB := hB.later hL13
  replace ha := ha.later hL13
  replace hb10 := hb10.later hL13
  have hz13 := hL13.size
  try simp only [pa, pn, pb, pc, pd]
  refine rl_take (some 33) (.tuple #[.pointer (some ⟨p, 0, none⟩), .pointer (some ⟨q, 0, none⟩), .int .i64 0]) rfl (by kernel_rfl) (by kernel_rfl) ?_
  try simp only [pa, pn, pb, pc, pd]
  refine rl_take (some 38) (.pointer (some ⟨p, 0, none⟩)) rfl (by kernel_rfl) (by kernel_rfl) ?_
  try simp only [pa, pn, pb, pc, pd]
  refine rl_take (some 39) (.pointer (some ⟨q, 0, none⟩)) rfl (by kernel_rfl) (by kernel_rfl) ?_
  try simp only [pa, pn, pb, pc, pd]
  refine rl_take (some 40) (.int .i64 0) rfl (by kernel_rfl) (by kernel_rfl) ?_
  try simp only [pa, pn, pb, pc, pd]
  refine rl_take (some 7) (.pointer (some ⟨p, 0, none⟩)) rfl (by kernel_rfl) (by kernel_rfl) ?_
  try simp only [pa, pn, pb, pc, pd]
  refine rl_take (some 8) (.pointer (some ⟨q, 0, none⟩)) rfl (by kernel_rfl) (by kernel_rfl) ?_
  try simp only [pa, pn, pb, pc, pd]
  refine rl_take (some 9) (.int .i64 0) rfl (by kernel_rfl) (by kernel_rfl) ?_
  try simp only [pa, pn, pb, pc, pd]
  refine rl_nil ?_
  refine hgo.out _ _ ?_
  clear hgo hgK
  refine hKK12 _ _ ?_
  refine wp_seq_k fun KK14 hKK14 => ?_
  refine rl_begin fun hgK hgo => ?_
  refine rl_take (some 41) (.pointer (some ⟨p, 0, none⟩)) rfl (by kernel_rfl) (by kernel_rfl) ?_
  try simp only [pa, pn, pb, pc, pd]
  refine rl_take (some 42) (.agg #[.pointer (some ⟨p, 0, none⟩)]) rfl (by kernel_rfl) (by kernel_rfl) ?_
  try simp only [pa, pn, pb, pc, pd]
  refine rl_take (some 43) (.iface 118 (.agg #[.pointer (some ⟨p, 0, none⟩)])) rfl (by kernel_rfl) (by kernel_rfl) ?_
  try simp only [pa, pn, pb, pc, pd]
  refine rl_take (some 44) (.pointer (some ⟨q, 0, none⟩)) rfl (by kernel_rfl) (by kernel_rfl) ?_
  try simp only [pa, pn, pb, pc, pd]
  refine rl_take (some 45) (.agg #[.pointer (some ⟨q, 0, none⟩)]) rfl (by kernel_rfl) (by kernel_rfl) ?_
  try simp only [pa, pn, pb, pc, pd]
  refine rl_take (some 46) (.iface 118 (.agg #[.pointer (some ⟨q, 0, none⟩)])) rfl (by kernel_rfl) (by kernel_rfl) ?_
  try simp only [pa, pn, pb, pc, pd]
  refine rl_take (some 4) (.iface 118 (.agg #[.pointer (some ⟨p, 0, none⟩)])) rfl (by kernel_rfl) (by kernel_rfl) ?_
  try simp only [pa, pn, pb, pc, pd]
  refine rl_take (some 5) (.iface 118 (.agg #[.pointer (some ⟨q, 0, none⟩)])) rfl (by kernel_rfl) (by kernel_rfl) ?_
  try simp only [pa, pn, pb, pc, pd]
  refine rl_nil ?_
  refine hgo.out _ _ ?_
  clear hgo hgK
  refine hKK14 _ _ ?_
  refine wp_ret ?_
  try simp only [Exit.then, Exit.inBlock]
  refine bp_ret (v := .tuple #[.iface 118 (.agg #[.pointer (some ⟨p, 0, none⟩)]), .iface 118 (.agg #[.pointer (some ⟨q, 0, none⟩)])]) (res2 rfl (res_tmp (by kernel_rfl)) (res_tmp (by kernel_rfl))) ?_
  exact ⟨_, _, rfl, hB, (Tree.tip_mk hp).node ⟨by rw [List.length_take]; omega, by rw [List.length_take]; omega⟩, (Tree.tip_mk hq).node ⟨by rw [List.length_drop]; omega, by rw [List.length_drop]; omega⟩⟩
set_option maxRecDepth 100000 in
set_option maxHeartbeats 8000000 in
theorem split_f1 (p q : Tr) (n : Nat) (v : Value) (w : World) (hT : Tabs w) (ht : Tree w (.fork p q) v) (ho : (Tr.fork p q).ok) (h1 : 0 < n) (h2 : n ≤ p.bytes.length) (hm : p.bytes.length + q.bytes.length ≤ 200000000)
    (ih : ∀ v w, Tabs w → Tree w p v → Calls Tryd.prog 82 #[v, .int .i64 n] w (SplitP p.bytes n w)) : Calls Tryd.prog 82 #[v, .int .i64 n] w (SplitP (Tr.fork p q).bytes n w) := by
  have hB := Ltr.refl w
  obtain ⟨f1, x1, e1, c1⟩ := inv_size ht
  have hl := Tr.len_fork p q
  obtain ⟨op, oq, -, -⟩ := ho
  have lp := p.len_pos op
  have lq := q.len_pos oq
  have IH := Lib.hid ih
  clear ih
  obtain ⟨a, vp, vq, rfl, hb, hp, hq⟩ := ht.fork_open
  obtain ⟨f2, x2, e2, c2⟩ := inv_size hp
  have nq := hq.node oq
  clear ht hq
  go_enter Tryd.func82, Tryd.ntmps82
  have h4 := hT.four
  have hlt_hb := hb.lt
  refine wp_seq_k fun KK1 hKK1 => ?_
  refine rl_begin fun hgK hgo => ?_
  refine rl_take (some 4) (.nilIface) rfl (by kernel_rfl) (by kernel_rfl) ?_
  try simp only [pa, pn, pb, pc, pd]
  refine rl_take (some 5) (.nilIface) rfl (by kernel_rfl) (by kernel_rfl) ?_
  try simp only [pa, pn, pb, pc, pd]
  refine rl_nil ?_
  refine hgo.out _ _ ?_
  clear hgo hgK
  refine hKK1 _ _ ?_
  refine wp_seq_k fun KK2 hKK2 => ?_
  refine wp_block ?_
  refine wp_seq_k fun KK3 hKK3 => ?_
  refine rl_begin fun hgK hgo => ?_
  refine rl_take (some 16) (.iface 111 (.pointer (some ⟨a, 0, none⟩))) rfl (by kernel_rfl) (by kernel_rfl) ?_
  try simp only [pa, pn, pb, pc, pd]
  refine rl_take (some 17) (.bool false) rfl (by kernel_rfl) (by kernel_rfl) ?_
  try simp only [pa, pn, pb, pc, pd]
  refine rl_take (some 18) (.bool false) rfl (by kernel_rfl) (by kernel_rfl) ?_
  try simp only [pa, pn, pb, pc, pd]
  refine rl_take (some 19) (.int .i64 n) rfl (by kernel_rfl) (by kernel_rfl) ?_
  try simp only [pa, pn, pb, pc, pd]
  refine rl_take (some 20) (.bool false) rfl (by kernel_rfl) (by exact ex_beq (x := n) (y := 0) (by kernel_rfl) ⟨fun q => (by cases q), fun q => absurd q (by omega)⟩) ?_
  try simp only [pa, pn, pb, pc, pd]
  refine rl_take (some 21) (.bool false) rfl (by kernel_rfl) (by kernel_rfl) ?_
  try simp only [pa, pn, pb, pc, pd]
  refine rl_take (some 15) (.bool false) rfl (by kernel_rfl) (by kernel_rfl) ?_
  try simp only [pa, pn, pb, pc, pd]
  refine rl_nil ?_
  refine hgo.out _ _ ?_
  clear hgo hgK
  refine hKK3 _ _ ?_
  refine wp_cond_false (by kernel_rfl) ?_
  refine wp_seq_k fun KK4 hKK4 => ?_
  refine rl_begin fun hgK hgo => ?_
  refine rl_take (some 24) (.int .i64 n) rfl (by kernel_rfl) (by kernel_rfl) ?_
  try simp only [pa, pn, pb, pc, pd]
  refine rl_take (some 25) (.iface 111 (.pointer (some ⟨a, 0, none⟩))) rfl (by kernel_rfl) (by kernel_rfl) ?_
  try simp only [pa, pn, pb, pc, pd]
  refine rl_call (some 26) f1 #[x1] rfl (by kernel_rfl) (by exact e1 _ _ _ _ rfl rfl) (c1 _ hB) ?_
  rintro e w5 ⟨rfl, hL5⟩
  refine ⟨_, rfl, ?_⟩
  replace hT := hT.later hL5
  replace hB := hB.later hL5
  replace hp := hp.later hL5
  replace nq := nq.later hL5
  replace hb := hb.later hL5
  have hz5 := hL5.size
  try simp only [pa, pn, pb, pc, pd]
  refine rl_take (some 27) (.bool false) rfl (by kernel_rfl) (by exact ex_beq (x := n) (y := (Tr.fork p q).bytes.length) (by kernel_rfl) ⟨fun q => (by cases q), fun q => absurd q (by omega)⟩) ?_
  try simp only [pa, pn, pb, pc, pd]
  refine rl_take (some 23) (.bool false) rfl (by kernel_rfl) (by kernel_rfl) ?_
  try simp only [pa, pn, pb, pc, pd]
  refine rl_nil ?_
  refine hgo.out _ _ ?_
  clear hgo hgK
  refine hKK4 _ _ ?_
  refine wp_cond_false (by kernel_rfl) ?_
  refine wp_skip ?_
  refine hKK2 _ _ ?_
  refine wp_seq_k fun KK6 hKK6 => ?_
  refine wp_seq_k fun KK7 hKK7 => ?_
  refine rl_begin fun hgK hgo => ?_
  refine rl_take (some 29) (.iface 111 (.pointer (some ⟨a, 0, none⟩))) rfl (by kernel_rfl) (by kernel_rfl) ?_
  try simp only [pa, pn, pb, pc, pd]
  refine rl_nil ?_
  refine hgo.out _ _ ?_
  clear hgo hgK
  refine hKK7 _ _ ?_
  refine wp_block ?_
  refine wp_seq_k fun KK8 hKK8 => ?_
  refine rl_begin fun hgK hgo => ?_
  refine rl_take (some 30) (.tuple #[.agg #[.pointer none], .bool false]) rfl (by kernel_rfl) (by kernel_rfl) ?_
  try simp only [pa, pn, pb, pc, pd]
  refine rl_take (some 31) (.bool false) rfl (by kernel_rfl) (by kernel_rfl) ?_
  try simp only [pa, pn, pb, pc, pd]
  refine rl_take (some 32) (.agg #[.pointer none]) rfl (by kernel_rfl) (by kernel_rfl) ?_
  try simp only [pa, pn, pb, pc, pd]
  refine rl_nil ?_
  refine hgo.out _ _ ?_
  clear hgo hgK
  refine hKK8 _ _ ?_
  refine wp_cond_false (by kernel_rfl) ?_
  refine wp_seq_k fun KK9 hKK9 => ?_
  refine rl_begin fun hgK hgo => ?_
  refine rl_take (some 47) (.tuple #[.pointer (some ⟨a, 0, none⟩), .bool true]) rfl (by kernel_rfl) (by kernel_rfl) ?_
  try simp only [pa, pn, pb, pc, pd]
  refine rl_take (some 48) (.bool true) rfl (by kernel_rfl) (by kernel_rfl) ?_
  try simp only [pa, pn, pb, pc, pd]
  refine rl_take (some 49) (.pointer (some ⟨a, 0, none⟩)) rfl (by kernel_rfl) (by kernel_rfl) ?_
  try simp only [pa, pn, pb, pc, pd]
  refine rl_nil ?_
  refine hgo.out _ _ ?_
  clear hgo hgK
  refine hKK9 _ _ ?_
  refine wp_cond_true (by kernel_rfl) ?_
  refine wp_seq_k fun KK10 hKK10 => ?_
  refine rl_begin fun hgK hgo => ?_
  refine rl_take (some 10) (.pointer (some ⟨a, 0, none⟩)) rfl (by kernel_rfl) (by kernel_rfl) ?_
  try simp only [pa, pn, pb, pc, pd]
  refine rl_nil ?_
  refine hgo.out _ _ ?_
  clear hgo hgK
  refine hKK10 _ _ ?_
  refine wp_seq_k fun KK11 hKK11 => ?_
  refine wp_seq_k fun KK12 hKK12 => ?_
  refine rl_begin fun hgK hgo => ?_
  refine rl_take (some 50) (.int .i64 n) rfl (by kernel_rfl) (by kernel_rfl) ?_
  try simp only [pa, pn, pb, pc, pd]
  refine rl_take (some 51) (.pointer (some ⟨a, 0, none⟩)) rfl (by kernel_rfl) (by kernel_rfl) ?_
  try simp only [pa, pn, pb, pc, pd]
  refine rl_take (some 52) (.pointer (some ⟨a, 0, none⟩)) rfl (by kernel_rfl) (by kernel_rfl) ?_
  try simp only [pa, pn, pb, pc, pd]
  refine rl_take (some 53) (.pointer (some ⟨a, 0, none⟩)) rfl (by kernel_rfl) (by kernel_rfl) ?_
  try simp only [pa, pn, pb, pc, pd]
  refine rl_take (some 54) (vp) rfl (by kernel_rfl) (by exact ld1 108 _ rfl a 0 rfl (fun _ => by kernel_rfl) _ (hb.cell 0)) ?_
  try simp only [pa, pn, pb, pc, pd]
  refine rl_call (some 55) f2 #[x2] rfl (by kernel_rfl) (by exact e2 _ _ _ _ rfl rfl) (c2 _ (hB.later (Ltr.refl _))) ?_
  rintro e w13 ⟨rfl, hL13⟩
  refine ⟨_, rfl, ?_⟩
  replace hT := hT.later hL13
  replace hB := hB.later hL13
  replace hp := hp.later hL13
  replace nq := nq.later hL13
  replace hb := hb.later hL13
  have hz13 := hL13.size
  try simp only [pa, pn, pb, pc, pd]
  refine rl_take (some 56) (.bool true) rfl (by kernel_rfl) (by exact ex_bool (c := (n : Int) ≤ p.bytes.length) (by kernel_rfl) ⟨fun _ => by omega, fun _ => rfl⟩) ?_
  try simp only [pa, pn, pb, pc, pd]
  refine rl_nil ?_
  refine hgo.out _ _ ?_
  clear hgo hgK
  refine hKK12 _ _ ?_
  refine wp_cond_true (by kernel_rfl) ?_
  refine wp_seq_k fun KK14 hKK14 => ?_
  refine rl_begin fun hgK hgo => ?_
  refine rl_take (some 58) (.pointer (some ⟨a, 0, none⟩)) rfl (by kernel_rfl) (by kernel_rfl) ?_
  try simp only [pa, pn, pb, pc, pd]
  refine rl_take (some 59) (.pointer (some ⟨a, 0, none⟩)) rfl (by kernel_rfl) (by kernel_rfl) ?_
  try simp only [pa, pn, pb, pc, pd]
  refine rl_take (some 60) (.pointer (some ⟨a, 0, none⟩)) rfl (by kernel_rfl) (by kernel_rfl) ?_
  try simp only [pa, pn, pb, pc, pd]
  refine rl_take (some 61) (vp) rfl (by kernel_rfl) (by exact ld1 108 _ rfl a 0 rfl (fun _ => by kernel_rfl) _ (hb.cell 0)) ?_
  try simp only [pa, pn, pb, pc, pd]
  refine rl_take (some 62) (.int .i64 n) rfl (by kernel_rfl) (by kernel_rfl) ?_
  try simp only [pa, pn, pb, pc, pd]
  refine rl_call (some 63) 82 #[vp, .int .i64 n] rfl (by kernel_rfl) (by kernel_rfl) (IH.out vp _ hT hp) ?_
  rintro e w15 ⟨va, vb, rfl, hL15, na, nb⟩
  refine ⟨_, rfl, ?_⟩
  replace hT := hT.later hL15
  replace hB := hB.later hL15
  replace hp := hp.later hL15
  replace nq := nq.later hL15
  replace hb := hb.later hL15
  have hz15 := hL15.size
  try simp only [pa, pn, pb, pc, pd]
  refine rl_take (some 57) (.tuple #[va, vb]) rfl (by kernel_rfl) (by kernel_rfl) ?_
  try simp only [pa, pn, pb, pc, pd]
  refine rl_take (some 64) (va) rfl (by kernel_rfl) (by kernel_rfl) ?_
  try simp only [pa, pn, pb, pc, pd]
  refine rl_take (some 65) (vb) rfl (by kernel_rfl) (by kernel_rfl) ?_
  try simp only [pa, pn, pb, pc, pd]
  refine rl_take (some 11) (va) rfl (by kernel_rfl) (by kernel_rfl) ?_
  try simp only [pa, pn, pb, pc, pd]
  refine rl_take (some 12) (vb) rfl (by kernel_rfl) (by kernel_rfl) ?_
  try simp only [pa, pn, pb, pc, pd]
  refine rl_nil ?_
  refine hgo.out _ _ ?_
  clear hgo hgK
  refine hKK14 _ _ ?_
  refine wp_seq_k fun KK16 hKK16 => ?_
  refine rl_begin fun hgK hgo => ?_
  refine rl_take (some 66) (va) rfl (by kernel_rfl) (by kernel_rfl) ?_
  try simp only [pa, pn, pb, pc, pd]
  refine rl_take (some 67) (vb) rfl (by kernel_rfl) (by kernel_rfl) ?_
  try simp only [pa, pn, pb, pc, pd]
  refine rl_take (some 68) (.pointer (some ⟨a, 0, none⟩)) rfl (by kernel_rfl) (by kernel_rfl) ?_
  try simp only [pa, pn, pb, pc, pd]
  refine rl_take (some 69) (.pointer (some ⟨a, 0, none⟩)) rfl (by kernel_rfl) (by kernel_rfl) ?_
  try simp only [pa, pn, pb, pc, pd]
  refine rl_take (some 70) (.pointer (some ⟨a, 1, none⟩)) rfl (by kernel_rfl) (by kernel_rfl) ?_
  try simp only [pa, pn, pb, pc, pd]
  refine rl_take (some 71) (vq) rfl (by kernel_rfl) (by exact ld1 108 _ rfl a 1 rfl (fun _ => by kernel_rfl) _ (hb.cell 1)) ?_
  try simp only [pa, pn, pb, pc, pd]
  refine rl_call (some 72) 83 #[vb, vq] rfl (by kernel_rfl) (by kernel_rfl) (join_any _ _ vb vq _ hT nb nq (by rw [List.length_drop]; omega)) ?_
  rintro e w17 ⟨vj, rfl, hL17, nj⟩
  refine ⟨_, rfl, ?_⟩
  replace hT := hT.later hL17
  replace hB := hB.later hL17
  replace hp := hp.later hL17
  replace nq := nq.later hL17
  replace hb := hb.later hL17
  replace na := na.later hL17
  replace nb := nb.later hL17
  have hz17 := hL17.size
  try simp only [pa, pn, pb, pc, pd]
  refine rl_take (some 4) (va) rfl (by kernel_rfl) (by kernel_rfl) ?_
  try simp only [pa, pn, pb, pc, pd]
  refine rl_take (some 5) (vj) rfl (by kernel_rfl) (by kernel_rfl) ?_
  try simp only [pa, pn, pb, pc, pd]
  refine rl_nil ?_
  refine hgo.out _ _ ?_
  clear hgo hgK
  refine hKK16 _ _ ?_
  refine wp_ret ?_
  try simp only [Exit.then, Exit.inBlock]
  refine bp_ret (v := .tuple #[va, vj]) (res2 rfl (res_tmp (by kernel_rfl)) (res_tmp (by kernel_rfl))) ?_
  exact ⟨_, _, rfl, hB, by rw [Tr.b_fork, List.take_append_of_le_length h2]; exact na, by rw [Tr.b_fork, List.drop_append_of_le_length h2]; exact nj⟩
set_option maxRecDepth 100000 in
set_option maxHeartbeats 8000000 in
theorem split_f2 (p q : Tr) (n : Nat) (v : Value) (w : World) (hT : Tabs w) (ht : Tree w (.fork p q) v) (ho : (Tr.fork p q).ok) (h1 : p.bytes.length < n) (h2 : n < p.bytes.length + q.bytes.length) (hm : p.bytes.length + q.bytes.length ≤ 200000000)
    (ih : ∀ v w, Tabs w → Tree w q v → Calls Tryd.prog 82 #[v, .int .i64 ((n - p.bytes.length : Nat) : Int)] w (SplitP q.bytes (n - p.bytes.length) w)) : Calls Tryd.prog 82 #[v, .int .i64 n] w (SplitP (Tr.fork p q).bytes n w) := by
  have hB := Ltr.refl w
  obtain ⟨f1, x1, e1, c1⟩ := inv_size ht
  have hl := Tr.len_fork p q
  obtain ⟨op, oq, -, -⟩ := ho
  have lp := p.len_pos op
  have lq := q.len_pos oq
  have IH := Lib.hid ih
  clear ih
  obtain ⟨a, vp, vq, rfl, hb, hp, hq⟩ := ht.fork_open
  obtain ⟨f2, x2, e2, c2⟩ := inv_size hp
  have np := hp.node op
  clear ht hp
  go_enter Tryd.func82, Tryd.ntmps82
  have h4 := hT.four
  have hlt_hb := hb.lt
  refine wp_seq_k fun KK1 hKK1 => ?_
  refine rl_begin fun hgK hgo => ?_
  refine rl_take (some 4) (.nilIface) rfl (by kernel_rfl) (by kernel_rfl) ?_
  try simp only [pa, pn, pb, pc, pd]
  refine rl_take (some 5) (.nilIface) rfl (by kernel_rfl) (by kernel_rfl) ?_
  try simp only [pa, pn, pb, pc, pd]
  refine rl_nil ?_
  refine hgo.out _ _ ?_
  clear hgo hgK
  refine hKK1 _ _ ?_
  refine wp_seq_k fun KK2 hKK2 => ?_
  refine wp_block ?_
  refine wp_seq_k fun KK3 hKK3 => ?_
  refine rl_begin fun hgK hgo => ?_
  refine rl_take (some 16) (.iface 111 (.pointer (some ⟨a, 0, none⟩))) rfl (by kernel_rfl) (by kernel_rfl) ?_
  try simp only [pa, pn, pb, pc, pd]
  refine rl_take (some 17) (.bool false) rfl (by kernel_rfl) (by kernel_rfl) ?_
  try simp only [pa, pn, pb, pc, pd]
  refine rl_take (some 18) (.bool false) rfl (by kernel_rfl) (by kernel_rfl) ?_
  try simp only [pa, pn, pb, pc, pd]
  refine rl_take (some 19) (.int .i64 n) rfl (by kernel_rfl) (by kernel_rfl) ?_
  try simp only [pa, pn, pb, pc, pd]
  refine rl_take (some 20) (.bool false) rfl (by kernel_rfl) (by exact ex_beq (x := n) (y := 0) (by kernel_rfl) ⟨fun q => (by cases q), fun q => absurd q (by omega)⟩) ?_
  try simp only [pa, pn, pb, pc, pd]
  refine rl_take (some 21) (.bool false) rfl (by kernel_rfl) (by kernel_rfl) ?_
  try simp only [pa, pn, pb, pc, pd]
  refine rl_take (some 15) (.bool false) rfl (by kernel_rfl) (by kernel_rfl) ?_
  try simp only [pa, pn, pb, pc, pd]
  refine rl_nil ?_
  refine hgo.out _ _ ?_
  clear hgo hgK
  refine hKK3 _ _ ?_
  refine wp_cond_false (by kernel_rfl) ?_
  refine wp_seq_k fun KK4 hKK4 => ?_
  refine rl_begin fun hgK hgo => ?_
  refine rl_take (some 24) (.int .i64 n) rfl (by kernel_rfl) (by kernel_rfl) ?_
  try simp only [pa, pn, pb, pc, pd]
  refine rl_take (some 25) (.iface 111 (.pointer (some ⟨a, 0, none⟩))) rfl (by kernel_rfl) (by kernel_rfl) ?_
  try simp only [pa, pn, pb, pc, pd]
  refine rl_call (some 26) f1 #[x1] rfl (by kernel_rfl) (by exact e1 _ _ _ _ rfl rfl) (c1 _ hB) ?_
  rintro e w5 ⟨rfl, hL5⟩
  refine ⟨_, rfl, ?_⟩
  replace hT := hT.later hL5
  replace hB := hB.later hL5
  replace hq := hq.later hL5
  replace np := np.later hL5
  replace hb := hb.later hL5
  have hz5 := hL5.size
  try simp only [pa, pn, pb, pc, pd]
  refine rl_take (some 27) (.bool false) rfl (by kernel_rfl) (by exact ex_beq (x := n) (y := (Tr.fork p q).bytes.length) (by kernel_rfl) ⟨fun q => (by cases q), fun q => absurd q (by omega)⟩) ?_
  try simp only [pa, pn, pb, pc, pd]
  refine rl_take (some 23) (.bool false) rfl (by kernel_rfl) (by kernel_rfl) ?_
  try simp only [pa, pn, pb, pc, pd]
  refine rl_nil ?_
  refine hgo.out _ _ ?_
  clear hgo hgK
  refine hKK4 _ _ ?_
  refine wp_cond_false (by kernel_rfl) ?_
  refine wp_skip ?_
  refine hKK2 _ _ ?_
  refine wp_seq_k fun KK6 hKK6 => ?_
  refine wp_seq_k fun KK7 hKK7 => ?_
  refine rl_begin fun hgK hgo => ?_
  refine rl_take (some 29) (.iface 111 (.pointer (some ⟨a, 0, none⟩))) rfl (by kernel_rfl) (by kernel_rfl) ?_
  try simp only [pa, pn, pb, pc, pd]
  refine rl_nil ?_
  refine hgo.out _ _ ?_
  clear hgo hgK
  refine hKK7 _ _ ?_
  refine wp_block ?_
  refine wp_seq_k fun KK8 hKK8 => ?_
  refine rl_begin fun hgK hgo => ?_
  refine rl_take (some 30) (.tuple #[.agg #[.pointer none], .bool false]) rfl (by kernel_rfl) (by kernel_rfl) ?_
  try simp only [pa, pn, pb, pc, pd]
  refine rl_take (some 31) (.bool false) rfl (by kernel_rfl) (by kernel_rfl) ?_
  try simp only [pa, pn, pb, pc, pd]
  refine rl_take (some 32) (.agg #[.pointer none]) rfl (by kernel_rfl) (by kernel_rfl) ?_
  try simp only [pa, pn, pb, pc, pd]
  refine rl_nil ?_
  refine hgo.out _ _ ?_
  clear hgo hgK
  refine hKK8 _ _ ?_
  refine wp_cond_false (by kernel_rfl) ?_
  refine wp_seq_k fun KK9 hKK9 => ?_
  refine rl_begin fun hgK hgo => ?_
  refine rl_take (some 47) (.tuple #[.pointer (some ⟨a, 0, none⟩), .bool true]) rfl (by kernel_rfl) (by kernel_rfl) ?_
  try simp only [pa, pn, pb, pc, pd]
  refine rl_take (some 48) (.bool true) rfl (by kernel_rfl) (by kernel_rfl) ?_
  try simp only [pa, pn, pb, pc, pd]
  refine rl_take (some 49) (.pointer (some ⟨a, 0, none⟩)) rfl (by kernel_rfl) (by kernel_rfl) ?_
  try simp only [pa, pn, pb, pc, pd]
  refine rl_nil ?_
  refine hgo.out _ _ ?_
  clear hgo hgK
  refine hKK9 _ _ ?_
  refine wp_cond_true (by kernel_rfl) ?_
  refine wp_seq_k fun KK10 hKK10 => ?_
  refine rl_begin fun hgK hgo => ?_
  refine rl_take (some 10) (.pointer (some ⟨a, 0, none⟩)) rfl (by kernel_rfl) (by kernel_rfl) ?_
  try simp only [pa, pn, pb, pc, pd]
  refine rl_nil ?_
  refine hgo.out _ _ ?_
  clear hgo hgK
  refine hKK10 _ _ ?_
  refine wp_seq_k fun KK11 hKK11 => ?_
  refine wp_seq_k fun KK12 hKK12 => ?_
  refine rl_begin fun hgK hgo => ?_
  refine rl_take (some 50) (.int .i64 n) rfl (by kernel_rfl) (by kernel_rfl) ?_
  try simp only [pa, pn, pb, pc, pd]
  refine rl_take (some 51) (.pointer (some ⟨a, 0, none⟩)) rfl (by kernel_rfl) (by kernel_rfl) ?_
  try simp only [pa, pn, pb, pc, pd]
  refine rl_take (some 52) (.pointer (some ⟨a, 0, none⟩)) rfl (by kernel_rfl) (by kernel_rfl) ?_
  try simp only [pa, pn, pb, pc, pd]
  refine rl_take (some 53) (.pointer (some ⟨a, 0, none⟩)) rfl (by kernel_rfl) (by kernel_rfl) ?_
  try simp only [pa, pn, pb, pc, pd]
  refine rl_take (some 54) (vp) rfl (by kernel_rfl) (by exact ld1 108 _ rfl a 0 rfl (fun _ => by kernel_rfl) _ (hb.cell 0)) ?_
  try simp only [pa, pn, pb, pc, pd]
  refine rl_call (some 55) f2 #[x2] rfl (by kernel_rfl) (by exact e2 _ _ _ _ rfl rfl) (c2 _ (hB.later (Ltr.refl _))) ?_
  rintro e w13 ⟨rfl, hL13⟩
  refine ⟨_, rfl, ?_⟩
  replace hT := hT.later hL13
  replace hB := hB.later hL13
  replace hq := hq.later hL13
  replace np := np.later hL13
  replace hb := hb.later hL13
  have hz13 := hL13.size
  try simp only [pa, pn, pb, pc, pd]
  refine rl_take (some 56) (.bool false) rfl (by kernel_rfl) (by exact ex_bool (c := (n : Int) ≤ p.bytes.length) (by kernel_rfl) ⟨fun q => (by cases q), fun q => absurd q (by omega)⟩) ?_
  try simp only [pa, pn, pb, pc, pd]
  refine rl_nil ?_
  refine hgo.out _ _ ?_
  clear hgo hgK
  refine hKK12 _ _ ?_
  refine wp_cond_false (by kernel_rfl) ?_
  refine wp_skip ?_
  refine hKK11 _ _ ?_
  refine wp_seq_k fun KK14 hKK14 => ?_
  refine rm_begin (fun W => Ltr w13 W) (by kernel_rfl) (by exact bl_drew (bl_refl _)) fun K15 hgo w15 hE hS15 => ?_
  have hv15 : Ltr w13 w15 := by rw [hE]; exact bl_drew (bl_refl _)
  have hz15 := hv15.size
  clear hE hS15
  refine rm_take 0 (some 74) (.pointer (some ⟨a, 0, none⟩)) (oi := { dst := some 74, op := Go.Op.move (Go.Operand.tmp 10), type := 111, pos := "rope.go:222", after := #[], guard := none }) rfl rfl (by kernel_rfl) (by kernel_rfl) (by kernel_rfl) (by kernel_rfl) (fun W hW => by (kernel_rfl)) ?_
  try simp only [pa, pn, pb, pc, pd]
  refine rm_take 1 (some 75) (.pointer (some ⟨a, 0, none⟩)) (oi := { dst := some 75, op := Go.Op.nilCheck (Go.Operand.tmp 74), type := 0, pos := "rope.go:222", after := #[{ on := 0, ground := Go.Ground.data }], guard := none }) rfl rfl (by kernel_rfl) (by kernel_rfl) (by kernel_rfl) (by kernel_rfl) (fun W hW => by (kernel_rfl)) ?_
  try simp only [pa, pn, pb, pc, pd]
  refine rm_take 2 (some 76) (.pointer (some ⟨a, 1, none⟩)) (oi := { dst := some 76, op := Go.Op.fieldAddr 115 (Go.Operand.tmp 75) 1, type := 0, pos := "rope.go:222", after := #[{ on := 1, ground := Go.Ground.data }], guard := none }) rfl rfl (by kernel_rfl) (by kernel_rfl) (by kernel_rfl) (by kernel_rfl) (fun W hW => by (kernel_rfl)) ?_
  try simp only [pa, pn, pb, pc, pd]
  refine rm_take 3 (some 77) (vq) (oi := { dst := some 77, op := Go.Op.load 108 (Go.Operand.tmp 76), type := 108, pos := "rope.go:222", after := #[{ on := 2, ground := Go.Ground.data }], guard := none }) rfl rfl (by kernel_rfl) (by kernel_rfl) (by kernel_rfl) (by kernel_rfl) (fun W hW => by (exact ld1 108 _ rfl a 1 rfl (fun _ => by kernel_rfl) _ ((hb.later hW).cell 1))) ?_
  try simp only [pa, pn, pb, pc, pd]
  refine rm_take 4 (some 78) (.int .i64 n) (oi := { dst := some 78, op := Go.Op.move (Go.Operand.tmp 1), type := 3, pos := "rope.go:222", after := #[], guard := none }) rfl rfl (by kernel_rfl) (by kernel_rfl) (by kernel_rfl) (by kernel_rfl) (fun W hW => by (kernel_rfl)) ?_
  try simp only [pa, pn, pb, pc, pd]
  refine rm_take 5 (some 79) (.pointer (some ⟨a, 0, none⟩)) (oi := { dst := some 79, op := Go.Op.move (Go.Operand.tmp 10), type := 111, pos := "rope.go:222", after := #[], guard := none }) rfl rfl (by kernel_rfl) (by kernel_rfl) (by kernel_rfl) (by kernel_rfl) (fun W hW => by (kernel_rfl)) ?_
  try simp only [pa, pn, pb, pc, pd]
  refine rm_take 6 (some 80) (.pointer (some ⟨a, 0, none⟩)) (oi := { dst := some 80, op := Go.Op.nilCheck (Go.Operand.tmp 79), type := 0, pos := "rope.go:222", after := #[{ on := 5, ground := Go.Ground.data }], guard := none }) rfl rfl (by kernel_rfl) (by kernel_rfl) (by kernel_rfl) (by kernel_rfl) (fun W hW => by (kernel_rfl)) ?_
  try simp only [pa, pn, pb, pc, pd]
  refine rm_take 7 (some 81) (.pointer (some ⟨a, 0, none⟩)) (oi := { dst := some 81, op := Go.Op.fieldAddr 115 (Go.Operand.tmp 80) 0, type := 0, pos := "rope.go:222", after := #[{ on := 6, ground := Go.Ground.data }], guard := none }) rfl rfl (by kernel_rfl) (by kernel_rfl) (by kernel_rfl) (by kernel_rfl) (fun W hW => by (kernel_rfl)) ?_
  try simp only [pa, pn, pb, pc, pd]
  refine rm_take 8 (some 82) (vp) (oi := { dst := some 82, op := Go.Op.load 108 (Go.Operand.tmp 81), type := 108, pos := "rope.go:222", after := #[{ on := 7, ground := Go.Ground.data }], guard := none }) rfl rfl (by kernel_rfl) (by kernel_rfl) (by kernel_rfl) (by kernel_rfl) (fun W hW => by (exact ld1 108 _ rfl a 0 rfl (fun _ => by kernel_rfl) _ ((hb.later hW).cell 0))) ?_
  try simp only [pa, pn, pb, pc, pd]
  refine rm_call 9 (some 83) (.int .i64 p.bytes.length) f2 #[x2] (oi := { dst := some 83, op := Go.Op.call { callee := Go.Callee.invoke (Go.Operand.tmp 82) "galley/rope.size", args := #[], argTypes := #[] }, type := 3, pos := "rope.go:222", after := #[{ on := 8, ground := Go.Ground.data }], guard := none }) rfl rfl (by kernel_rfl) (by kernel_rfl) (by kernel_rfl) (by kernel_rfl) (fun W hW => by exact e2 _ _ _ _ rfl rfl) (fun W hW => c2 _ (hB.later hW)) (fun _ _ h k => Ltr.trans h k) ?_
  try simp only [pa, pn, pb, pc, pd]
  refine rm_take 10 (some 84) (.int .i64 (((n - p.bytes.length : Nat) : Int))) (oi := { dst := some 84, op := Go.Op.binOp Go.BinOp.sub 3 (Go.Operand.tmp 78) (Go.Operand.tmp 83) 3, type := 3, pos := "rope.go:222", after := #[{ on := 4, ground := Go.Ground.data }, { on := 9, ground := Go.Ground.data }], guard := none }) rfl rfl (by kernel_rfl) (by kernel_rfl) (by kernel_rfl) (by kernel_rfl) (fun W hW => by (exact ex_arith (e := (n : Int) - p.bytes.length) (r := ((n - p.bytes.length : Nat) : Int)) (by kernel_rfl) (by omega) (by omega))) ?_
  try simp only [pa, pn, pb, pc, pd]
  refine rm_pick1 (i := 11) (by kernel_rfl) ?_
  refine rm_callx (some 85) 82 #[vq, .int .i64 (((n - p.bytes.length : Nat) : Int))] (oi := { dst := some 85, op := Go.Op.call { callee := Go.Callee.value (Go.Operand.func 82), args := #[Go.Operand.tmp 77, Go.Operand.tmp 84], argTypes := #[108, 3] }, type := 140, pos := "rope.go:222", after := #[{ on := 3, ground := Go.Ground.data }, { on := 10, ground := Go.Ground.data }, { on := 9, ground := Go.Ground.chain }], guard := none }) rfl rfl (by kernel_rfl) (fun W hW => by kernel_rfl) (fun W hlz hW => IH.out vq _ (hT.later (show Ltr w13 W from hW)) (hq.later (show Ltr w13 W from hW))) (by rintro W e w' ⟨va, vb, rfl, hL16, na, nb⟩; exact hL16) (fun _ _ h k => Ltr.trans h k) ?_
  rintro q16 e w16 hq16 hQ16 ⟨va, vb, rfl, hL16, na, nb⟩ hS16
  refine ⟨_, rfl, ?_⟩
  have hz16 := hL16.size
  have hy16 := hq16.size
  try simp only [pa, pn, pb, pc, pd]
  refine rm_take 12 (some 73) (.tuple #[va, vb]) (oi := { dst := some 73, op := Go.Op.move (Go.Operand.tmp 85), type := 140, pos := "rope.go:222", after := #[{ on := 11, ground := Go.Ground.data }], guard := none }) rfl rfl (by kernel_rfl) (by kernel_rfl) (by kernel_rfl) (by kernel_rfl) (fun W hW => by (kernel_rfl)) ?_
  try simp only [pa, pn, pb, pc, pd]
  refine rm_take 13 (some 86) (va) (oi := { dst := some 86, op := Go.Op.extract (Go.Operand.tmp 73) 0, type := 108, pos := "rope.go:222", after := #[{ on := 12, ground := Go.Ground.data }], guard := none }) rfl rfl (by kernel_rfl) (by kernel_rfl) (by kernel_rfl) (by kernel_rfl) (fun W hW => by (kernel_rfl)) ?_
  try simp only [pa, pn, pb, pc, pd]
  refine rm_take 14 (some 87) (vb) (oi := { dst := some 87, op := Go.Op.extract (Go.Operand.tmp 73) 1, type := 108, pos := "rope.go:222", after := #[{ on := 12, ground := Go.Ground.data }, { on := 15, ground := Go.Ground.gcOnly Go.Departure.lateStores }], guard := none }) rfl rfl (by kernel_rfl) (by kernel_rfl) (by kernel_rfl) (by kernel_rfl) (fun W hW => by (kernel_rfl)) ?_
  try simp only [pa, pn, pb, pc, pd]
  refine rm_take 15 (some 13) (va) (oi := { dst := some 13, op := Go.Op.assign (Go.Operand.tmp 86), type := 108, pos := "rope.go:222", after := #[{ on := 13, ground := Go.Ground.data }, { on := 11, ground := Go.Ground.chain }, { on := 0, ground := Go.Ground.phase }, { on := 1, ground := Go.Ground.phase }, { on := 2, ground := Go.Ground.phase }, { on := 3, ground := Go.Ground.phase }, { on := 4, ground := Go.Ground.phase }, { on := 5, ground := Go.Ground.phase }, { on := 6, ground := Go.Ground.phase }, { on := 7, ground := Go.Ground.phase }, { on := 8, ground := Go.Ground.phase }, { on := 9, ground := Go.Ground.phase }, { on := 10, ground := Go.Ground.phase }, { on := 11, ground := Go.Ground.phase }, { on := 12, ground := Go.Ground.phase }, { on := 13, ground := Go.Ground.phase }, { on := 14, ground := Go.Ground.textOnly Go.Departure.lateStores }], guard := none }) rfl rfl (by kernel_rfl) (by kernel_rfl) (by kernel_rfl) (by kernel_rfl) (fun W hW => by (kernel_rfl)) ?_
  try simp only [pa, pn, pb, pc, pd]
  refine rm_take 16 (some 14) (vb) (oi := { dst := some 14, op := Go.Op.assign (Go.Operand.tmp 87), type := 108, pos := "rope.go:222", after := #[{ on := 14, ground := Go.Ground.data }, { on := 15, ground := Go.Ground.chain }, { on := 0, ground := Go.Ground.phase }, { on := 1, ground := Go.Ground.phase }, { on := 2, ground := Go.Ground.phase }, { on := 3, ground := Go.Ground.phase }, { on := 4, ground := Go.Ground.phase }, { on := 5, ground := Go.Ground.phase }, { on := 6, ground := Go.Ground.phase }, { on := 7, ground := Go.Ground.phase }, { on := 8, ground := Go.Ground.phase }, { on := 9, ground := Go.Ground.phase }, { on := 10, ground := Go.Ground.phase }, { on := 11, ground := Go.Ground.phase }, { on := 12, ground := Go.Ground.phase }, { on := 13, ground := Go.Ground.phase }, { on := 14, ground := Go.Ground.phase }, { on := 15, ground := Go.Ground.phase }], guard := none }) rfl rfl (by kernel_rfl) (by kernel_rfl) (by kernel_rfl) (by kernel_rfl) (fun W hW => by (kernel_rfl)) ?_
  try simp only [pa, pn, pb, pc, pd]
  refine rm_done (by kernel_rfl) (fun w17 hL17 hS17 => hgo.out _ _ ?_) _
  clear hgo K15
  replace na := na.later hL17
  replace nb := nb.later hL17
  replace hT := hT.later (show Ltr w13 _ from hS17)
  replace hB := hB.later (show Ltr w13 _ from hS17)
  replace hq := hq.later (show Ltr w13 _ from hS17)
  replace np := np.later (show Ltr w13 _ from hS17)
  replace hb := hb.later (show Ltr w13 _ from hS17)
  have hz17 := (show Ltr w13 _ from hS17).size
  have hy17 := hL17.size
  refine hKK14 _ _ ?_
  refine wp_seq_k fun KK18 hKK18 => ?_
  refine rl_begin fun hgK hgo => ?_
  refine rl_take (some 88) (.pointer (some ⟨a, 0, none⟩)) rfl (by kernel_rfl) (by kernel_rfl) ?_
  try simp only [pa, pn, pb, pc, pd]
  refine rl_take (some 89) (.pointer (some ⟨a, 0, none⟩)) rfl (by kernel_rfl) (by kernel_rfl) ?_
  try simp only [pa, pn, pb, pc, pd]
  refine rl_take (some 90) (.pointer (some ⟨a, 0, none⟩)) rfl (by kernel_rfl) (by kernel_rfl) ?_
  try simp only [pa, pn, pb, pc, pd]
  refine rl_take (some 91) (vp) rfl (by kernel_rfl) (by exact ld1 108 _ rfl a 0 rfl (fun _ => by kernel_rfl) _ (hb.cell 0)) ?_
  try simp only [pa, pn, pb, pc, pd]
  refine rl_take (some 92) (va) rfl (by kernel_rfl) (by kernel_rfl) ?_
  try simp only [pa, pn, pb, pc, pd]
  refine rl_call (some 93) 83 #[vp, va] rfl (by kernel_rfl) (by kernel_rfl) (join_any _ _ vp va _ hT np na (by rw [List.length_take]; omega)) ?_
  rintro e w19 ⟨vj, rfl, hL19, nj⟩
  refine ⟨_, rfl, ?_⟩
  replace hT := hT.later hL19
  replace hB := hB.later hL19
  replace hq := hq.later hL19
  replace np := np.later hL19
  replace hb := hb.later hL19
  replace na := na.later hL19
  replace nb := nb.later hL19
  have hz19 := hL19.size
  try simp only [pa, pn, pb, pc, pd]
  refine rl_take (some 94) (vb) rfl (by kernel_rfl) (by kernel_rfl) ?_
  try simp only [pa, pn, pb, pc, pd]
  refine rl_take (some 4) (vj) rfl (by kernel_rfl) (by kernel_rfl) ?_
  try simp only [pa, pn, pb, pc, pd]
  refine rl_take (some 5) (vb) rfl (by kernel_rfl) (by kernel_rfl) ?_
  try simp only [pa, pn, pb, pc, pd]
  refine rl_nil ?_
  refine hgo.out _ _ ?_
  clear hgo hgK
  refine hKK18 _ _ ?_
  refine wp_ret ?_
  try simp only [Exit.then, Exit.inBlock]
  refine bp_ret (v := .tuple #[vj, vb]) (res2 rfl (res_tmp (by kernel_rfl)) (res_tmp (by kernel_rfl))) ?_
  exact ⟨_, _, rfl, hB, by rw [Tr.b_fork, List.take_append, List.take_of_length_le (by omega)]; exact nj, by rw [Tr.b_fork, List.drop_append, List.drop_eq_nil_of_le (by omega), List.nil_append]; exact nb⟩
theorem split_tt (k : Nat) : ∀ (t : Tr) (n : Nat) (v : Value) (w : World), t.h ≤ k → Tabs w → Tree w t v → t.ok → n ≤ t.bytes.length → t.bytes.length ≤ 200000000 → Calls Tryd.prog 82 #[v, .int .i64 n] w (SplitP t.bytes n w) := by
  induction k with
  | zero => intro t n v w h; have := t.h_pos; omega
  | succ k ih =>
    intro t n v w hk hT ht ho hn hm
    by_cases h0 : n = 0
    · subst h0; exact split_0 t v w ht ho
    by_cases h1 : n = t.bytes.length
    · subst h1; exact split_all t v w ht ho
    cases t with
    | tip l => exact split_tip l n v w hT ht ho (by omega) (by simp only [Tr.bytes] at hn h1; omega)
    | fork p q =>
      have hl := Tr.len_fork p q
      simp only [Tr.h] at hk
      by_cases h2 : n ≤ p.bytes.length
      · exact split_f1 p q n v w hT ht ho (by omega) h2 (by omega) fun v w hT hp => ih p n v w (by omega) hT hp ho.1 h2 (by omega)
      · exact split_f2 p q n v w hT ht ho (by omega) (by omega) (by omega) fun v w hT hq => ih q _ v w (by omega) hT hq ho.2.1 (by omega) (by omega)
theorem split_any (l : List UInt8) (n : Nat) (v : Value) (w : World) (hT : Tabs w) (hv : Node w l v) (hn : n ≤ l.length) (hm : l.length ≤ 200000000) : Calls Tryd.prog 82 #[v, .int .i64 n] w (SplitP l n w) := by
  rcases hv with ⟨rfl, rfl⟩ | ⟨t, ho, rfl, ht⟩
  · exact split_nil n w
  · exact split_tt _ t n v w (Nat.le_refl _) hT ht ho hn hm
def SplitR (l : List UInt8) (n : Nat) (w : World) (e : Ending) (w' : World) : Prop := ∃ p q, e = .returned (.tuple #[.pointer (some ⟨p, 0, none⟩), .pointer (some ⟨q, 0, none⟩), .int .i64 0]) ∧ Ltr w w' ∧ RopeAt w' p (l.take n) ∧ RopeAt w' q (l.drop n) ∧ w.heap.size ≤ p ∧ w.heap.size ≤ q
set_option maxRecDepth 100000 in
set_option maxHeartbeats 8000000 in
theorem RSplit_any (b : Nat) (l : List UInt8) (n : Nat) (w : World) (hT : Tabs w) (hr : RopeAt w b l) (hn : n ≤ l.length) (hm : l.length ≤ 200000000) :
    Calls Tryd.prog 39 #[.pointer (some ⟨b, 0, none⟩), .int .i64 n] w (SplitR l n w) := by
  have hB := Ltr.refl w
  have hr0 := hr
  obtain ⟨v, hb, nv⟩ := hr
  go_enter Tryd.func39, Tryd.ntmps39
  have h4 := hT.four
  have hlt_hb := hb.lt
  refine wp_seq_k fun KK1 hKK1 => ?_
  refine rl_begin fun hgK hgo => ?_
  refine rl_take (some 4) (.pointer none) rfl (by kernel_rfl) (by kernel_rfl) ?_
  try simp only [pa, pn, pb, pc, pd]
  refine rl_take (some 5) (.pointer none) rfl (by kernel_rfl) (by kernel_rfl) ?_
  try simp only [pa, pn, pb, pc, pd]
  refine rl_take (some 6) (.int .i64 0) rfl (by kernel_rfl) (by kernel_rfl) ?_
  try simp only [pa, pn, pb, pc, pd]
  refine rl_nil ?_
  refine hgo.out _ _ ?_
  clear hgo hgK
  refine hKK1 _ _ ?_
  refine wp_seq_k fun KK2 hKK2 => ?_
  refine wp_seq_k fun KK3 hKK3 => ?_
  refine rl_begin fun hgK hgo => ?_
  refine rl_take (some 10) (.pointer (some ⟨b, 0, none⟩)) rfl (by kernel_rfl) (by kernel_rfl) ?_
  try simp only [pa, pn, pb, pc, pd]
  refine rl_take (some 11) (.int .i64 n) rfl (by kernel_rfl) (by kernel_rfl) ?_
  try simp only [pa, pn, pb, pc, pd]
  refine rl_call (some 12) 77 #[.pointer (some ⟨b, 0, none⟩), .int .i64 n] rfl (by kernel_rfl) (by kernel_rfl) (place_in b l n hn _ hr0) ?_
  rintro e w4 ⟨rfl, hL4⟩
  refine ⟨_, rfl, ?_⟩
  replace hT := hT.later hL4
  replace hB := hB.later hL4
  replace hr0 := hr0.later hL4
  replace nv := nv.later hL4
  replace hb := hb.later hL4
  have hz4 := hL4.size
  try simp only [pa, pn, pb, pc, pd]
  refine rl_take (some 7) (.int .i64 0) rfl (by kernel_rfl) (by kernel_rfl) ?_
  try simp only [pa, pn, pb, pc, pd]
  refine rl_nil ?_
  refine hgo.out _ _ ?_
  clear hgo hgK
  refine hKK3 _ _ ?_
  refine wp_seq_k fun KK5 hKK5 => ?_
  refine rl_begin fun hgK hgo => ?_
  refine rl_take (some 13) (.int .i64 0) rfl (by kernel_rfl) (by kernel_rfl) ?_
  try simp only [pa, pn, pb, pc, pd]
  refine rl_take (some 14) (.bool false) rfl (by kernel_rfl) (by exact ex_bne (x := 0) (y := 0) (by kernel_rfl) ⟨fun q => (by cases q), fun q => absurd q (by omega)⟩) ?_
  try simp only [pa, pn, pb, pc, pd]
  refine rl_nil ?_
  refine hgo.out _ _ ?_
  clear hgo hgK
  refine hKK5 _ _ ?_
  refine wp_cond_false (by kernel_rfl) ?_
  refine wp_skip ?_
  refine hKK2 _ _ ?_
  refine wp_seq_k fun KK6 hKK6 => ?_
  refine rl_begin fun hgK hgo => ?_
  refine rl_take (some 17) (.pointer (some ⟨b, 0, none⟩)) rfl (by kernel_rfl) (by kernel_rfl) ?_
  try simp only [pa, pn, pb, pc, pd]
  refine rl_take (some 18) (.pointer (some ⟨b, 0, none⟩)) rfl (by kernel_rfl) (by kernel_rfl) ?_
  try simp only [pa, pn, pb, pc, pd]
  refine rl_take (some 19) (.pointer (some ⟨b, 0, none⟩)) rfl (by kernel_rfl) (by kernel_rfl) ?_
  try simp only [pa, pn, pb, pc, pd]
  refine rl_take (some 20) (v) rfl (by kernel_rfl) (by exact ld1 108 _ rfl b 0 rfl (fun _ => by kernel_rfl) _ (hb.cell 0)) ?_
  try simp only [pa, pn, pb, pc, pd]
  refine rl_take (some 21) (.int .i64 n) rfl (by kernel_rfl) (by kernel_rfl) ?_
  try simp only [pa, pn, pb, pc, pd]
  refine rl_call (some 22) 82 #[v, .int .i64 n] rfl (by kernel_rfl) (by kernel_rfl) (split_any l n v _ hT nv hn hm) ?_
  rintro e w7 ⟨va, vb, rfl, hL7, na, nb⟩
  refine ⟨_, rfl, ?_⟩
  replace hT := hT.later hL7
  replace hB := hB.later hL7
  replace hr0 := hr0.later hL7
  replace nv := nv.later hL7
  replace hb := hb.later hL7
  have hz7 := hL7.size
  try simp only [pa, pn, pb, pc, pd]
  refine rl_take (some 16) (.tuple #[va, vb]) rfl (by kernel_rfl) (by kernel_rfl) ?_
  try simp only [pa, pn, pb, pc, pd]
  refine rl_take (some 23) (va) rfl (by kernel_rfl) (by kernel_rfl) ?_
  try simp only [pa, pn, pb, pc, pd]
  refine rl_take (some 24) (vb) rfl (by kernel_rfl) (by kernel_rfl) ?_
  try simp only [pa, pn, pb, pc, pd]
  refine rl_take (some 8) (va) rfl (by kernel_rfl) (by kernel_rfl) ?_
  try simp only [pa, pn, pb, pc, pd]
  refine rl_take (some 9) (vb) rfl (by kernel_rfl) (by kernel_rfl) ?_
  try simp only [pa, pn, pb, pc, pd]
  refine rl_nil ?_
  refine hgo.out _ _ ?_
  clear hgo hgK
  refine hKK6 _ _ ?_
  refine wp_seq_k fun KK8 hKK8 => ?_
  refine rl_begin fun hgK hgo => ?_
  refine rl_take (some 25) (va) rfl (by kernel_rfl) (by kernel_rfl) ?_
  try simp only [pa, pn, pb, pc, pd]
  refine rl_take (some 26) (.agg #[va]) rfl (by kernel_rfl) (by exact ex_build_node (x := Go.Operand.tmp 25) (v := va) rfl rfl na.form _) ?_
  try simp only [pa, pn, pb, pc, pd]
  refine rl_alloc (some 27) 110 #[va] rfl (by kernel_rfl) (fun W => by kernel_rfl) fun p w9 hL9 hp9 hp => ?_
  replace hT := hT.later hL9
  replace hB := hB.later hL9
  replace hr0 := hr0.later hL9
  replace nv := nv.later hL9
  replace hb := hb.later hL9
  replace na := na.later hL9
  replace nb := nb.later hL9
  have hz9 := hL9.size
  have hlt9 := hp.lt
  try simp only [pa, pn, pb, pc, pd]
  refine rl_take (some 28) (vb) rfl (by kernel_rfl) (by kernel_rfl) ?_
  try simp only [pa, pn, pb, pc, pd]
  refine rl_take (some 29) (.agg #[vb]) rfl (by kernel_rfl) (by exact ex_build_node (x := Go.Operand.tmp 28) (v := vb) rfl rfl nb.form _) ?_
  try simp only [pa, pn, pb, pc, pd]
  refine rl_alloc (some 30) 110 #[vb] rfl (by kernel_rfl) (fun W => by kernel_rfl) fun q w10 hL10 hp10 hq => ?_
  replace hT := hT.later hL10
  replace hB := hB.later hL10
  replace hr0 := hr0.later hL10
  replace nv := nv.later hL10
  replace hb := hb.later hL10
  replace na := na.later hL10
  replace nb := nb.later hL10
  replace hp := hp.later hL10
  have hz10 := hL10.size
  have hlt10 := hq.lt
  try simp only [pa, pn, pb, pc, pd]
  refine rl_take (some 4) (.pointer (some ⟨p, 0, none⟩)) rfl (by kernel_rfl) (by kernel_rfl) ?_
  try simp only [pa, pn, pb, pc, pd]
  refine rl_take (some 5) (.pointer (some ⟨q, 0, none⟩)) rfl (by kernel_rfl) (by kernel_rfl) ?_
  try simp only [pa, pn, pb, pc, pd]
  refine rl_take (some 6) (.int .i64 0) rfl (by kernel_rfl) (by kernel_rfl) ?_
  try simp only [pa, pn, pb, pc, pd]
  refine rl_nil ?_
  refine hgo.out _ _ ?_
  clear hgo hgK
  refine hKK8 _ _ ?_
  refine wp_ret ?_
  try simp only [Exit.then, Exit.inBlock]
  refine bp_ret (v := .tuple #[.pointer (some ⟨p, 0, none⟩), .pointer (some ⟨q, 0, none⟩), .int .i64 0]) (res3 rfl (res_tmp (by kernel_rfl)) (res_tmp (by kernel_rfl)) (res_tmp (by kernel_rfl))) ?_
  exact ⟨_, _, rfl, hB, ⟨_, hp, na⟩, ⟨_, hq, nb⟩, by omega, by omega⟩
set_option maxRecDepth 100000 in
set_option maxHeartbeats 8000000 in
theorem RSplit_out (b : Nat) (l : List UInt8) (n : Int) (w : World) (hr : RopeAt w b l) (hn : n < 0 ∨ (l.length : Int) < n) :
    Calls Tryd.prog 39 #[.pointer (some ⟨b, 0, none⟩), .int .i64 n] w fun e w' => e = .returned (.tuple #[.pointer none, .pointer none, .int .i64 2]) ∧ Ltr w w' := by
  have hB := Ltr.refl w
  go_enter Tryd.func39, Tryd.ntmps39
  refine wp_seq_k fun KK1 hKK1 => ?_
  refine rl_begin fun hgK hgo => ?_
  refine rl_take (some 4) (.pointer none) rfl (by kernel_rfl) (by kernel_rfl) ?_
  try simp only [pa, pn, pb, pc, pd]
  refine rl_take (some 5) (.pointer none) rfl (by kernel_rfl) (by kernel_rfl) ?_
  try simp only [pa, pn, pb, pc, pd]
  refine rl_take (some 6) (.int .i64 0) rfl (by kernel_rfl) (by kernel_rfl) ?_
  try simp only [pa, pn, pb, pc, pd]
  refine rl_nil ?_
  refine hgo.out _ _ ?_
  clear hgo hgK
  refine hKK1 _ _ ?_
  refine wp_seq_k fun KK2 hKK2 => ?_
  refine wp_seq_k fun KK3 hKK3 => ?_
  refine rl_begin fun hgK hgo => ?_
  refine rl_take (some 10) (.pointer (some ⟨b, 0, none⟩)) rfl (by kernel_rfl) (by kernel_rfl) ?_
  try simp only [pa, pn, pb, pc, pd]
  refine rl_take (some 11) (.int .i64 n) rfl (by kernel_rfl) (by kernel_rfl) ?_
  try simp only [pa, pn, pb, pc, pd]
  refine rl_call (some 12) 77 #[.pointer (some ⟨b, 0, none⟩), .int .i64 n] rfl (by kernel_rfl) (by kernel_rfl) (place_out b l n hn _ hr) ?_
  rintro e w4 ⟨rfl, hL4⟩
  refine ⟨_, rfl, ?_⟩
  replace hB := hB.later hL4
  replace hr := hr.later hL4
  have hz4 := hL4.size
  try simp only [pa, pn, pb, pc, pd]
  refine rl_take (some 7) (.int .i64 2) rfl (by kernel_rfl) (by kernel_rfl) ?_
  try simp only [pa, pn, pb, pc, pd]
  refine rl_nil ?_
  refine hgo.out _ _ ?_
  clear hgo hgK
  refine hKK3 _ _ ?_
  refine wp_seq_k fun KK5 hKK5 => ?_
  refine rl_begin fun hgK hgo => ?_
  refine rl_take (some 13) (.int .i64 2) rfl (by kernel_rfl) (by kernel_rfl) ?_
  try simp only [pa, pn, pb, pc, pd]
  refine rl_take (some 14) (.bool true) rfl (by kernel_rfl) (by exact ex_bne (x := 2) (y := 0) (by kernel_rfl) ⟨fun _ => by omega, fun _ => rfl⟩) ?_
  try simp only [pa, pn, pb, pc, pd]
  refine rl_nil ?_
  refine hgo.out _ _ ?_
  clear hgo hgK
  refine hKK5 _ _ ?_
  refine wp_cond_true (by kernel_rfl) ?_
  refine wp_seq_k fun KK6 hKK6 => ?_
  refine rl_begin fun hgK hgo => ?_
  refine rl_take (some 15) (.int .i64 2) rfl (by kernel_rfl) (by kernel_rfl) ?_
  try simp only [pa, pn, pb, pc, pd]
  refine rl_take (some 4) (.pointer none) rfl (by kernel_rfl) (by kernel_rfl) ?_
  try simp only [pa, pn, pb, pc, pd]
  refine rl_take (some 5) (.pointer none) rfl (by kernel_rfl) (by kernel_rfl) ?_
  try simp only [pa, pn, pb, pc, pd]
  refine rl_take (some 6) (.int .i64 2) rfl (by kernel_rfl) (by kernel_rfl) ?_
  try simp only [pa, pn, pb, pc, pd]
  refine rl_nil ?_
  refine hgo.out _ _ ?_
  clear hgo hgK
  refine hKK6 _ _ ?_
  refine wp_ret ?_
  try simp only [Exit.then, Exit.inBlock]
  refine bp_ret (v := .tuple #[.pointer none, .pointer none, .int .i64 2]) (res3 rfl (res_tmp (by kernel_rfl)) (res_tmp (by kernel_rfl)) (res_tmp (by kernel_rfl))) ?_
  exact ⟨rfl, hB⟩
set_option maxRecDepth 100000 in
set_option maxHeartbeats 8000000 in
theorem Replace_any (b : Nat) (l : List UInt8) (lo hi : Nat) (A : Option Addr) (c : Nat) (m : List UInt8) (w : World) (hT : Tabs w) (hr : RopeAt w b l) (h1 : lo ≤ hi) (h2 : hi ≤ l.length) (hA : BytesAt w A m) (hc : m.length ≤ c) (hm : l.length + m.length ≤ 200000000) :
    Calls Tryd.prog 37 #[.pointer (some ⟨b, 0, none⟩), .int .i64 lo, .int .i64 hi, .slice A m.length c] w (NewP (l.take lo ++ m ++ l.drop hi) w) := by
  have hB := Ltr.refl w
  have hr0 := hr
  obtain ⟨v, hb, nv⟩ := hr
  have k1 : (l.take lo).length = lo := by rw [List.length_take]; omega
  have k2 : (l.drop hi).length = l.length - hi := List.length_drop
  go_enter Tryd.func37, Tryd.ntmps37
  have h4 := hT.four
  have hlt_hb := hb.lt
  refine wp_seq_k fun KK1 hKK1 => ?_
  refine rl_begin fun hgK hgo => ?_
  refine rl_take (some 8) (.pointer none) rfl (by kernel_rfl) (by kernel_rfl) ?_
  try simp only [pa, pn, pb, pc, pd]
  refine rl_take (some 9) (.int .i64 0) rfl (by kernel_rfl) (by kernel_rfl) ?_
  try simp only [pa, pn, pb, pc, pd]
  refine rl_nil ?_
  refine hgo.out _ _ ?_
  clear hgo hgK
  refine hKK1 _ _ ?_
  refine wp_seq_k fun KK2 hKK2 => ?_
  refine wp_seq_k fun KK3 hKK3 => ?_
  refine rl_begin fun hgK hgo => ?_
  refine rl_take (some 17) (.pointer (some ⟨b, 0, none⟩)) rfl (by kernel_rfl) (by kernel_rfl) ?_
  try simp only [pa, pn, pb, pc, pd]
  refine rl_take (some 18) (.int .i64 hi) rfl (by kernel_rfl) (by kernel_rfl) ?_
  try simp only [pa, pn, pb, pc, pd]
  refine rl_call (some 19) 77 #[.pointer (some ⟨b, 0, none⟩), .int .i64 hi] rfl (by kernel_rfl) (by kernel_rfl) (place_in b l hi h2 _ hr0) ?_
  rintro e w4 ⟨rfl, hL4⟩
  refine ⟨_, rfl, ?_⟩
  replace hT := hT.later hL4
  replace hB := hB.later hL4
  replace hr0 := hr0.later hL4
  replace nv := nv.later hL4
  replace hA := hA.later hL4
  replace hb := hb.later hL4
  have hz4 := hL4.size
  try simp only [pa, pn, pb, pc, pd]
  refine rl_take (some 10) (.int .i64 0) rfl (by kernel_rfl) (by kernel_rfl) ?_
  try simp only [pa, pn, pb, pc, pd]
  refine rl_nil ?_
  refine hgo.out _ _ ?_
  clear hgo hgK
  refine hKK3 _ _ ?_
  refine wp_seq_k fun KK5 hKK5 => ?_
  refine rl_begin fun hgK hgo => ?_
  refine rl_take (some 20) (.int .i64 0) rfl (by kernel_rfl) (by kernel_rfl) ?_
  try simp only [pa, pn, pb, pc, pd]
  refine rl_take (some 21) (.bool false) rfl (by kernel_rfl) (by exact ex_bne (x := 0) (y := 0) (by kernel_rfl) ⟨fun q => (by cases q), fun q => absurd q (by omega)⟩) ?_
  try simp only [pa, pn, pb, pc, pd]
  refine rl_nil ?_
  refine hgo.out _ _ ?_
  clear hgo hgK
  refine hKK5 _ _ ?_
  refine wp_cond_false (by kernel_rfl) ?_
  refine wp_skip ?_
  refine hKK2 _ _ ?_
  refine wp_seq_k fun KK6 hKK6 => ?_
  refine wp_block ?_
  refine wp_seq_k fun KK7 hKK7 => ?_
  refine rl_begin fun hgK hgo => ?_
  refine rl_take (some 24) (.int .i64 lo) rfl (by kernel_rfl) (by kernel_rfl) ?_
  try simp only [pa, pn, pb, pc, pd]
  refine rl_take (some 25) (.bool false) rfl (by kernel_rfl) (by exact ex_bool (c := (lo : Int) < 0) (by kernel_rfl) ⟨fun q => (by cases q), fun q => absurd q (by omega)⟩) ?_
  try simp only [pa, pn, pb, pc, pd]
  refine rl_take (some 26) (.bool false) rfl (by kernel_rfl) (by kernel_rfl) ?_
  try simp only [pa, pn, pb, pc, pd]
  refine rl_take (some 27) (.int .i64 lo) rfl (by kernel_rfl) (by kernel_rfl) ?_
  try simp only [pa, pn, pb, pc, pd]
  refine rl_take (some 28) (.int .i64 hi) rfl (by kernel_rfl) (by kernel_rfl) ?_
  try simp only [pa, pn, pb, pc, pd]
  refine rl_take (some 29) (.bool false) rfl (by kernel_rfl) (by exact ex_bool (c := (lo : Int) > hi) (by kernel_rfl) ⟨fun q => (by cases q), fun q => absurd q (by omega)⟩) ?_
  try simp only [pa, pn, pb, pc, pd]
  refine rl_take (some 30) (.bool false) rfl (by kernel_rfl) (by kernel_rfl) ?_
  try simp only [pa, pn, pb, pc, pd]
  refine rl_take (some 23) (.bool false) rfl (by kernel_rfl) (by kernel_rfl) ?_
  try simp only [pa, pn, pb, pc, pd]
  refine rl_nil ?_
  refine hgo.out _ _ ?_
  clear hgo hgK
  refine hKK7 _ _ ?_
  refine wp_cond_false (by kernel_rfl) ?_
  refine wp_seq_k fun KK8 hKK8 => ?_
  refine rl_begin fun hgK hgo => ?_
  refine rl_take (some 32) (.slice A m.length c) rfl (by kernel_rfl) (by kernel_rfl) ?_
  try simp only [pa, pn, pb, pc, pd]
  refine rl_take (some 33) (.int .i64 m.length) rfl (by kernel_rfl) (by kernel_rfl) ?_
  try simp only [pa, pn, pb, pc, pd]
  refine rl_take (some 34) (.pointer (some ⟨b, 0, none⟩)) rfl (by kernel_rfl) (by kernel_rfl) ?_
  try simp only [pa, pn, pb, pc, pd]
  refine rl_call (some 35) 45 #[.pointer (some ⟨b, 0, none⟩)] rfl (by kernel_rfl) (by kernel_rfl) (Len_any b l _ hr0) ?_
  rintro e w9 ⟨rfl, hL9⟩
  refine ⟨_, rfl, ?_⟩
  replace hT := hT.later hL9
  replace hB := hB.later hL9
  replace hr0 := hr0.later hL9
  replace nv := nv.later hL9
  replace hA := hA.later hL9
  replace hb := hb.later hL9
  have hz9 := hL9.size
  try simp only [pa, pn, pb, pc, pd]
  refine rl_take (some 36) (.int .i64 hi) rfl (by kernel_rfl) (by kernel_rfl) ?_
  try simp only [pa, pn, pb, pc, pd]
  refine rl_take (some 37) (.int .i64 lo) rfl (by kernel_rfl) (by kernel_rfl) ?_
  try simp only [pa, pn, pb, pc, pd]
  refine rl_take (some 38) (.int .i64 ((hi : Int) - lo)) rfl (by kernel_rfl) (by exact ex_arith (e := (hi : Int) - lo) (r := (hi : Int) - lo) (by kernel_rfl) (by omega) (by omega)) ?_
  try simp only [pa, pn, pb, pc, pd]
  refine rl_take (some 39) (.int .i64 ((l.length : Int) - ((hi : Int) - lo))) rfl (by kernel_rfl) (by exact ex_arith (e := (l.length : Int) - ((hi : Int) - lo)) (r := (l.length : Int) - ((hi : Int) - lo)) (by kernel_rfl) (by omega) (by omega)) ?_
  try simp only [pa, pn, pb, pc, pd]
  refine rl_take (some 40) (.int .i64 ((268435456 : Int) - ((l.length : Int) - ((hi : Int) - lo)))) rfl (by kernel_rfl) (by exact ex_arith (e := (268435456 : Int) - ((l.length : Int) - ((hi : Int) - lo))) (r := (268435456 : Int) - ((l.length : Int) - ((hi : Int) - lo))) (by kernel_rfl) (by omega) (by omega)) ?_
  try simp only [pa, pn, pb, pc, pd]
  refine rl_take (some 41) (.bool false) rfl (by kernel_rfl) (by exact ex_bool (c := (m.length : Int) > ((268435456 : Int) - ((l.length : Int) - ((hi : Int) - lo)))) (by kernel_rfl) ⟨fun q => (by cases q), fun q => absurd q (by omega)⟩) ?_
  try simp only [pa, pn, pb, pc, pd]
  refine rl_take (some 31) (.bool false) rfl (by kernel_rfl) (by kernel_rfl) ?_
  try simp only [pa, pn, pb, pc, pd]
  refine rl_nil ?_
  refine hgo.out _ _ ?_
  clear hgo hgK
  refine hKK8 _ _ ?_
  refine wp_cond_false (by kernel_rfl) ?_
  refine wp_skip ?_
  refine hKK6 _ _ ?_
  refine wp_seq_k fun KK10 hKK10 => ?_
  refine rl_begin fun hgK hgo => ?_
  refine rl_take (some 43) (.slice A m.length c) rfl (by kernel_rfl) (by kernel_rfl) ?_
  try simp only [pa, pn, pb, pc, pd]
  refine rl_call (some 44) 36 #[.slice A m.length c] rfl (by kernel_rfl) (by kernel_rfl) (New_any A c m _ hT hA hc (by omega)) ?_
  rintro e w11 ⟨q, rfl, hL11, ⟨vm, hq, nm⟩, hqn⟩
  refine ⟨_, rfl, ?_⟩
  replace hT := hT.later hL11
  replace hB := hB.later hL11
  replace hr0 := hr0.later hL11
  replace nv := nv.later hL11
  replace hA := hA.later hL11
  replace hb := hb.later hL11
  have hz11 := hL11.size
  have hlt_hq := hq.lt
  try simp only [pa, pn, pb, pc, pd]
  refine rl_take (some 42) (.tuple #[.pointer (some ⟨q, 0, none⟩), .int .i64 0]) rfl (by kernel_rfl) (by kernel_rfl) ?_
  try simp only [pa, pn, pb, pc, pd]
  refine rl_take (some 45) (.pointer (some ⟨q, 0, none⟩)) rfl (by kernel_rfl) (by kernel_rfl) ?_
  try simp only [pa, pn, pb, pc, pd]
  refine rl_take (some 46) (.int .i64 0) rfl (by kernel_rfl) (by kernel_rfl) ?_
  try simp only [pa, pn, pb, pc, pd]
  refine rl_take (some 11) (.pointer (some ⟨q, 0, none⟩)) rfl (by kernel_rfl) (by kernel_rfl) ?_
  try simp only [pa, pn, pb, pc, pd]
  refine rl_take (some 12) (.int .i64 0) rfl (by kernel_rfl) (by kernel_rfl) ?_
  try simp only [pa, pn, pb, pc, pd]
  refine rl_nil ?_
  refine hgo.out _ _ ?_
  clear hgo hgK
  refine hKK10 _ _ ?_
  refine wp_seq_k fun KK12 hKK12 => ?_
  refine wp_seq_k fun KK13 hKK13 => ?_
  refine rl_begin fun hgK hgo => ?_
  refine rl_take (some 47) (.int .i64 0) rfl (by kernel_rfl) (by kernel_rfl) ?_
  try simp only [pa, pn, pb, pc, pd]
  refine rl_take (some 48) (.bool false) rfl (by kernel_rfl) (by exact ex_bne (x := 0) (y := 0) (by kernel_rfl) ⟨fun q => (by cases q), fun q => absurd q (by omega)⟩) ?_
  try simp only [pa, pn, pb, pc, pd]
  refine rl_nil ?_
  refine hgo.out _ _ ?_
  clear hgo hgK
  refine hKK13 _ _ ?_
  refine wp_cond_false (by kernel_rfl) ?_
  refine wp_skip ?_
  refine hKK12 _ _ ?_
  refine wp_seq_k fun KK14 hKK14 => ?_
  refine rl_begin fun hgK hgo => ?_
  refine rl_take (some 51) (.pointer (some ⟨b, 0, none⟩)) rfl (by kernel_rfl) (by kernel_rfl) ?_
  try simp only [pa, pn, pb, pc, pd]
  refine rl_take (some 52) (.pointer (some ⟨b, 0, none⟩)) rfl (by kernel_rfl) (by kernel_rfl) ?_
  try simp only [pa, pn, pb, pc, pd]
  refine rl_take (some 53) (.pointer (some ⟨b, 0, none⟩)) rfl (by kernel_rfl) (by kernel_rfl) ?_
  try simp only [pa, pn, pb, pc, pd]
  refine rl_take (some 54) (v) rfl (by kernel_rfl) (by exact ld1 108 _ rfl b 0 rfl (fun _ => by kernel_rfl) _ (hb.cell 0)) ?_
  try simp only [pa, pn, pb, pc, pd]
  refine rl_take (some 55) (.int .i64 lo) rfl (by kernel_rfl) (by kernel_rfl) ?_
  try simp only [pa, pn, pb, pc, pd]
  refine rl_call (some 56) 82 #[v, .int .i64 lo] rfl (by kernel_rfl) (by kernel_rfl) (split_any l lo v _ hT nv (by omega) (by omega)) ?_
  rintro e w15 ⟨va, va', rfl, hL15, na, na'⟩
  refine ⟨_, rfl, ?_⟩
  replace hT := hT.later hL15
  replace hB := hB.later hL15
  replace hr0 := hr0.later hL15
  replace nv := nv.later hL15
  replace hA := hA.later hL15
  replace hb := hb.later hL15
  replace hq := hq.later hL15
  replace nm := nm.later hL15
  have hz15 := hL15.size
  try simp only [pa, pn, pb, pc, pd]
  refine rl_take (some 50) (.tuple #[va, va']) rfl (by kernel_rfl) (by kernel_rfl) ?_
  try simp only [pa, pn, pb, pc, pd]
  refine rl_take (some 57) (va) rfl (by kernel_rfl) (by kernel_rfl) ?_
  try simp only [pa, pn, pb, pc, pd]
  refine rl_take (some 58) (va') rfl (by kernel_rfl) (by kernel_rfl) ?_
  try simp only [pa, pn, pb, pc, pd]
  refine rl_take (some 13) (va) rfl (by kernel_rfl) (by kernel_rfl) ?_
  try simp only [pa, pn, pb, pc, pd]
  refine rl_take (some 14) (va') rfl (by kernel_rfl) (by kernel_rfl) ?_
  try simp only [pa, pn, pb, pc, pd]
  refine rl_nil ?_
  refine hgo.out _ _ ?_
  clear hgo hgK
  refine hKK14 _ _ ?_
  refine wp_seq_k fun KK16 hKK16 => ?_
  refine rl_begin fun hgK hgo => ?_
  refine rl_take (some 60) (.pointer (some ⟨b, 0, none⟩)) rfl (by kernel_rfl) (by kernel_rfl) ?_
  try simp only [pa, pn, pb, pc, pd]
  refine rl_take (some 61) (.pointer (some ⟨b, 0, none⟩)) rfl (by kernel_rfl) (by kernel_rfl) ?_
  try simp only [pa, pn, pb, pc, pd]
  refine rl_take (some 62) (.pointer (some ⟨b, 0, none⟩)) rfl (by kernel_rfl) (by kernel_rfl) ?_
  try simp only [pa, pn, pb, pc, pd]
  refine rl_take (some 63) (v) rfl (by kernel_rfl) (by exact ld1 108 _ rfl b 0 rfl (fun _ => by kernel_rfl) _ (hb.cell 0)) ?_
  try simp only [pa, pn, pb, pc, pd]
  refine rl_take (some 64) (.int .i64 hi) rfl (by kernel_rfl) (by kernel_rfl) ?_
  try simp only [pa, pn, pb, pc, pd]
  refine rl_call (some 65) 82 #[v, .int .i64 hi] rfl (by kernel_rfl) (by kernel_rfl) (split_any l hi v _ hT nv (by omega) (by omega)) ?_
  rintro e w17 ⟨vb', vb, rfl, hL17, nb', nb⟩
  refine ⟨_, rfl, ?_⟩
  replace hT := hT.later hL17
  replace hB := hB.later hL17
  replace hr0 := hr0.later hL17
  replace nv := nv.later hL17
  replace hA := hA.later hL17
  replace hb := hb.later hL17
  replace hq := hq.later hL17
  replace nm := nm.later hL17
  replace na := na.later hL17
  have hz17 := hL17.size
  try simp only [pa, pn, pb, pc, pd]
  refine rl_take (some 59) (.tuple #[vb', vb]) rfl (by kernel_rfl) (by kernel_rfl) ?_
  try simp only [pa, pn, pb, pc, pd]
  refine rl_take (some 66) (vb') rfl (by kernel_rfl) (by kernel_rfl) ?_
  try simp only [pa, pn, pb, pc, pd]
  refine rl_take (some 67) (vb) rfl (by kernel_rfl) (by kernel_rfl) ?_
  try simp only [pa, pn, pb, pc, pd]
  refine rl_take (some 15) (vb') rfl (by kernel_rfl) (by kernel_rfl) ?_
  try simp only [pa, pn, pb, pc, pd]
  refine rl_take (some 16) (vb) rfl (by kernel_rfl) (by kernel_rfl) ?_
  try simp only [pa, pn, pb, pc, pd]
  refine rl_nil ?_
  refine hgo.out _ _ ?_
  clear hgo hgK
  refine hKK16 _ _ ?_
  refine wp_seq_k fun KK18 hKK18 => ?_
  refine rl_begin fun hgK hgo => ?_
  refine rl_take (some 68) (va) rfl (by kernel_rfl) (by kernel_rfl) ?_
  try simp only [pa, pn, pb, pc, pd]
  refine rl_take (some 69) (.pointer (some ⟨q, 0, none⟩)) rfl (by kernel_rfl) (by kernel_rfl) ?_
  try simp only [pa, pn, pb, pc, pd]
  refine rl_take (some 70) (.pointer (some ⟨q, 0, none⟩)) rfl (by kernel_rfl) (by kernel_rfl) ?_
  try simp only [pa, pn, pb, pc, pd]
  refine rl_take (some 71) (.pointer (some ⟨q, 0, none⟩)) rfl (by kernel_rfl) (by kernel_rfl) ?_
  try simp only [pa, pn, pb, pc, pd]
  refine rl_take (some 72) (vm) rfl (by kernel_rfl) (by exact ld1 108 _ rfl q 0 rfl (fun _ => by kernel_rfl) _ (hq.cell 0)) ?_
  try simp only [pa, pn, pb, pc, pd]
  refine rl_call (some 73) 83 #[va, vm] rfl (by kernel_rfl) (by kernel_rfl) (join_any _ _ va vm _ hT na nm (by omega)) ?_
  rintro e w19 ⟨v1, rfl, hL19, n1⟩
  refine ⟨_, rfl, ?_⟩
  replace hT := hT.later hL19
  replace hB := hB.later hL19
  replace hr0 := hr0.later hL19
  replace nv := nv.later hL19
  replace hA := hA.later hL19
  replace hb := hb.later hL19
  replace hq := hq.later hL19
  replace nm := nm.later hL19
  replace na := na.later hL19
  replace nb := nb.later hL19
  have hz19 := hL19.size
  try simp only [pa, pn, pb, pc, pd]
  refine rl_take (some 74) (vb) rfl (by kernel_rfl) (by kernel_rfl) ?_
  try simp only [pa, pn, pb, pc, pd]
  refine rl_call (some 75) 83 #[v1, vb] rfl (by kernel_rfl) (by kernel_rfl) (join_any _ _ v1 vb _ hT n1 nb (by rw [List.length_append]; omega)) ?_
  rintro e w20 ⟨v2, rfl, hL20, n2⟩
  refine ⟨_, rfl, ?_⟩
  replace hT := hT.later hL20
  replace hB := hB.later hL20
  replace hr0 := hr0.later hL20
  replace nv := nv.later hL20
  replace hA := hA.later hL20
  replace hb := hb.later hL20
  replace hq := hq.later hL20
  replace nm := nm.later hL20
  replace na := na.later hL20
  replace nb := nb.later hL20
  replace n1 := n1.later hL20
  have hz20 := hL20.size
  try simp only [pa, pn, pb, pc, pd]
  refine rl_take (some 76) (.agg #[v2]) rfl (by kernel_rfl) (by exact ex_build_node (x := Go.Operand.tmp 75) (v := v2) rfl rfl n2.form _) ?_
  try simp only [pa, pn, pb, pc, pd]
  refine rl_alloc (some 77) 110 #[v2] rfl (by kernel_rfl) (fun W => by kernel_rfl) fun z w21 hL21 hp21 hz => ?_
  replace hT := hT.later hL21
  replace hB := hB.later hL21
  replace hr0 := hr0.later hL21
  replace nv := nv.later hL21
  replace hA := hA.later hL21
  replace hb := hb.later hL21
  replace hq := hq.later hL21
  replace nm := nm.later hL21
  replace na := na.later hL21
  replace nb := nb.later hL21
  replace n1 := n1.later hL21
  replace n2 := n2.later hL21
  have hz21 := hL21.size
  have hlt21 := hz.lt
  try simp only [pa, pn, pb, pc, pd]
  refine rl_take (some 8) (.pointer (some ⟨z, 0, none⟩)) rfl (by kernel_rfl) (by kernel_rfl) ?_
  try simp only [pa, pn, pb, pc, pd]
  refine rl_take (some 9) (.int .i64 0) rfl (by kernel_rfl) (by kernel_rfl) ?_
  try simp only [pa, pn, pb, pc, pd]
  refine rl_nil ?_
  refine hgo.out _ _ ?_
  clear hgo hgK
  refine hKK18 _ _ ?_
  refine wp_ret ?_
  try simp only [Exit.then, Exit.inBlock]
  refine bp_ret (v := .tuple #[.pointer (some ⟨z, 0, none⟩), .int .i64 0]) (res2 rfl (res_tmp (by kernel_rfl)) (res_tmp (by kernel_rfl))) ?_
  exact ⟨_, rfl, hB, ⟨_, hz, n2⟩, by omega⟩
set_option maxRecDepth 100000 in
set_option maxHeartbeats 8000000 in
theorem Replace_out (b : Nat) (l : List UInt8) (lo hi : Int) (V : Value) (w : World) (hr : RopeAt w b l) (h1 : ¬ (0 ≤ lo ∧ lo ≤ hi ∧ hi ≤ l.length)) :
    Calls Tryd.prog 37 #[.pointer (some ⟨b, 0, none⟩), .int .i64 lo, .int .i64 hi, V] w fun e w' => e = .returned (.tuple #[.pointer none, .int .i64 2]) ∧ Ltr w w' := by
  have hB := Ltr.refl w
  by_cases h2 : hi < 0 ∨ (l.length : Int) < hi
  · skip
    go_enter Tryd.func37, Tryd.ntmps37
    refine wp_seq_k fun KK1 hKK1 => ?_
    refine rl_begin fun hgK hgo => ?_
    refine rl_take (some 8) (.pointer none) rfl (by kernel_rfl) (by kernel_rfl) ?_
    try simp only [pa, pn, pb, pc, pd]
    refine rl_take (some 9) (.int .i64 0) rfl (by kernel_rfl) (by kernel_rfl) ?_
    try simp only [pa, pn, pb, pc, pd]
    refine rl_nil ?_
    refine hgo.out _ _ ?_
    clear hgo hgK
    refine hKK1 _ _ ?_
    refine wp_seq_k fun KK2 hKK2 => ?_
    refine wp_seq_k fun KK3 hKK3 => ?_
    refine rl_begin fun hgK hgo => ?_
    refine rl_take (some 17) (.pointer (some ⟨b, 0, none⟩)) rfl (by kernel_rfl) (by kernel_rfl) ?_
    try simp only [pa, pn, pb, pc, pd]
    refine rl_take (some 18) (.int .i64 hi) rfl (by kernel_rfl) (by kernel_rfl) ?_
    try simp only [pa, pn, pb, pc, pd]
    refine rl_call (some 19) 77 #[.pointer (some ⟨b, 0, none⟩), .int .i64 hi] rfl (by kernel_rfl) (by kernel_rfl) (place_out b l hi h2 _ hr) ?_
    rintro e w4 ⟨rfl, hL4⟩
    refine ⟨_, rfl, ?_⟩
    replace hB := hB.later hL4
    replace hr := hr.later hL4
    have hz4 := hL4.size
    try simp only [pa, pn, pb, pc, pd]
    refine rl_take (some 10) (.int .i64 2) rfl (by kernel_rfl) (by kernel_rfl) ?_
    try simp only [pa, pn, pb, pc, pd]
    refine rl_nil ?_
    refine hgo.out _ _ ?_
    clear hgo hgK
    refine hKK3 _ _ ?_
    refine wp_seq_k fun KK5 hKK5 => ?_
    refine rl_begin fun hgK hgo => ?_
    refine rl_take (some 20) (.int .i64 2) rfl (by kernel_rfl) (by kernel_rfl) ?_
    try simp only [pa, pn, pb, pc, pd]
    refine rl_take (some 21) (.bool true) rfl (by kernel_rfl) (by exact ex_bne (x := 2) (y := 0) (by kernel_rfl) ⟨fun _ => by omega, fun _ => rfl⟩) ?_
    try simp only [pa, pn, pb, pc, pd]
    refine rl_nil ?_
    refine hgo.out _ _ ?_
    clear hgo hgK
    refine hKK5 _ _ ?_
    refine wp_cond_true (by kernel_rfl) ?_
    refine wp_seq_k fun KK6 hKK6 => ?_
    refine rl_begin fun hgK hgo => ?_
    refine rl_take (some 22) (.int .i64 2) rfl (by kernel_rfl) (by kernel_rfl) ?_
    try simp only [pa, pn, pb, pc, pd]
    refine rl_take (some 8) (.pointer none) rfl (by kernel_rfl) (by kernel_rfl) ?_
    try simp only [pa, pn, pb, pc, pd]
    refine rl_take (some 9) (.int .i64 2) rfl (by kernel_rfl) (by kernel_rfl) ?_
    try simp only [pa, pn, pb, pc, pd]
    refine rl_nil ?_
    refine hgo.out _ _ ?_
    clear hgo hgK
    refine hKK6 _ _ ?_
    refine wp_ret ?_
    try simp only [Exit.then, Exit.inBlock]
    refine bp_ret (v := .tuple #[.pointer none, .int .i64 2]) (res2 rfl (res_tmp (by kernel_rfl)) (res_tmp (by kernel_rfl))) ?_
    exact ⟨rfl, hB⟩
  · obtain ⟨k, rfl⟩ := Int.eq_ofNat_of_zero_le (by omega : 0 ≤ hi)
    go_enter Tryd.func37, Tryd.ntmps37
    refine wp_seq_k fun KK1 hKK1 => ?_
    refine rl_begin fun hgK hgo => ?_
    refine rl_take (some 8) (.pointer none) rfl (by kernel_rfl) (by kernel_rfl) ?_
    try simp only [pa, pn, pb, pc, pd]
    refine rl_take (some 9) (.int .i64 0) rfl (by kernel_rfl) (by kernel_rfl) ?_
    try simp only [pa, pn, pb, pc, pd]
    refine rl_nil ?_
    refine hgo.out _ _ ?_
    clear hgo hgK
    refine hKK1 _ _ ?_
    refine wp_seq_k fun KK2 hKK2 => ?_
    refine wp_seq_k fun KK3 hKK3 => ?_
    refine rl_begin fun hgK hgo => ?_
    refine rl_take (some 17) (.pointer (some ⟨b, 0, none⟩)) rfl (by kernel_rfl) (by kernel_rfl) ?_
    try simp only [pa, pn, pb, pc, pd]
    refine rl_take (some 18) (.int .i64 (k : Int)) rfl (by kernel_rfl) (by kernel_rfl) ?_
    try simp only [pa, pn, pb, pc, pd]
    refine rl_call (some 19) 77 #[.pointer (some ⟨b, 0, none⟩), .int .i64 (k : Int)] rfl (by kernel_rfl) (by kernel_rfl) (place_in b l k (by omega) _ hr) ?_
    rintro e w4 ⟨rfl, hL4⟩
    refine ⟨_, rfl, ?_⟩
    replace hB := hB.later hL4
    replace hr := hr.later hL4
    have hz4 := hL4.size
    try simp only [pa, pn, pb, pc, pd]
    refine rl_take (some 10) (.int .i64 0) rfl (by kernel_rfl) (by kernel_rfl) ?_
    try simp only [pa, pn, pb, pc, pd]
    refine rl_nil ?_
    refine hgo.out _ _ ?_
    clear hgo hgK
    refine hKK3 _ _ ?_
    refine wp_seq_k fun KK5 hKK5 => ?_
    refine rl_begin fun hgK hgo => ?_
    refine rl_take (some 20) (.int .i64 0) rfl (by kernel_rfl) (by kernel_rfl) ?_
    try simp only [pa, pn, pb, pc, pd]
    refine rl_take (some 21) (.bool false) rfl (by kernel_rfl) (by exact ex_bne (x := 0) (y := 0) (by kernel_rfl) ⟨fun q => (by cases q), fun q => absurd q (by omega)⟩) ?_
    try simp only [pa, pn, pb, pc, pd]
    refine rl_nil ?_
    refine hgo.out _ _ ?_
    clear hgo hgK
    refine hKK5 _ _ ?_
    refine wp_cond_false (by kernel_rfl) ?_
    refine wp_skip ?_
    refine hKK2 _ _ ?_
    refine wp_seq_k fun KK6 hKK6 => ?_
    refine wp_block ?_
    refine wp_seq_k fun KK7 hKK7 => ?_
    refine rl_begin fun hgK hgo => ?_
    refine rl_take (some 24) (.int .i64 lo) rfl (by kernel_rfl) (by kernel_rfl) ?_
    try simp only [pa, pn, pb, pc, pd]
    by_cases h3 : lo < 0
    · refine rl_take (some 25) (.bool true) rfl (by kernel_rfl) (by exact ex_bool (c := (lo : Int) < 0) (by kernel_rfl) ⟨fun _ => by omega, fun _ => rfl⟩) ?_
      try simp only [pa, pn, pb, pc, pd]
      refine rl_take (some 26) (.bool true) rfl (by kernel_rfl) (by kernel_rfl) ?_
      try simp only [pa, pn, pb, pc, pd]
      refine rl_pass (some 27) rfl (by kernel_rfl) ?_
      try simp only [pa, pn, pb, pc, pd]
      refine rl_pass (some 28) rfl (by kernel_rfl) ?_
      try simp only [pa, pn, pb, pc, pd]
      refine rl_pass (some 29) rfl (by kernel_rfl) ?_
      try simp only [pa, pn, pb, pc, pd]
      refine rl_take (some 30) (.bool true) rfl (by kernel_rfl) (by kernel_rfl) ?_
      try simp only [pa, pn, pb, pc, pd]
      refine rl_take (some 23) (.bool true) rfl (by kernel_rfl) (by kernel_rfl) ?_
      try simp only [pa, pn, pb, pc, pd]
      refine rl_nil ?_
      refine hgo.out _ _ ?_
      clear hgo hgK
      refine hKK7 _ _ ?_
      refine wp_cond_true (by kernel_rfl) ?_
      refine wp_seq_k fun KK8 hKK8 => ?_
      refine rl_begin fun hgK hgo => ?_
      refine rl_take (some 8) (.pointer none) rfl (by kernel_rfl) (by kernel_rfl) ?_
      try simp only [pa, pn, pb, pc, pd]
      refine rl_take (some 9) (.int .i64 2) rfl (by kernel_rfl) (by kernel_rfl) ?_
      try simp only [pa, pn, pb, pc, pd]
      refine rl_nil ?_
      refine hgo.out _ _ ?_
      clear hgo hgK
      refine hKK8 _ _ ?_
      refine wp_ret ?_
      try simp only [Exit.then, Exit.inBlock]
      refine bp_ret (v := .tuple #[.pointer none, .int .i64 2]) (res2 rfl (res_tmp (by kernel_rfl)) (res_tmp (by kernel_rfl))) ?_
      exact ⟨rfl, hB⟩
    · refine rl_take (some 25) (.bool false) rfl (by kernel_rfl) (by exact ex_bool (c := (lo : Int) < 0) (by kernel_rfl) ⟨fun q => (by cases q), fun q => absurd q (by omega)⟩) ?_
      try simp only [pa, pn, pb, pc, pd]
      refine rl_take (some 26) (.bool false) rfl (by kernel_rfl) (by kernel_rfl) ?_
      try simp only [pa, pn, pb, pc, pd]
      refine rl_take (some 27) (.int .i64 lo) rfl (by kernel_rfl) (by kernel_rfl) ?_
      try simp only [pa, pn, pb, pc, pd]
      refine rl_take (some 28) (.int .i64 (k : Int)) rfl (by kernel_rfl) (by kernel_rfl) ?_
      try simp only [pa, pn, pb, pc, pd]
      refine rl_take (some 29) (.bool true) rfl (by kernel_rfl) (by exact ex_bool (c := (lo : Int) > (k : Int)) (by kernel_rfl) ⟨fun _ => by omega, fun _ => rfl⟩) ?_
      try simp only [pa, pn, pb, pc, pd]
      refine rl_take (some 30) (.bool true) rfl (by kernel_rfl) (by kernel_rfl) ?_
      try simp only [pa, pn, pb, pc, pd]
      refine rl_take (some 23) (.bool true) rfl (by kernel_rfl) (by kernel_rfl) ?_
      try simp only [pa, pn, pb, pc, pd]
      refine rl_nil ?_
      refine hgo.out _ _ ?_
      clear hgo hgK
      refine hKK7 _ _ ?_
      refine wp_cond_true (by kernel_rfl) ?_
      refine wp_seq_k fun KK9 hKK9 => ?_
      refine rl_begin fun hgK hgo => ?_
      refine rl_take (some 8) (.pointer none) rfl (by kernel_rfl) (by kernel_rfl) ?_
      try simp only [pa, pn, pb, pc, pd]
      refine rl_take (some 9) (.int .i64 2) rfl (by kernel_rfl) (by kernel_rfl) ?_
      try simp only [pa, pn, pb, pc, pd]
      refine rl_nil ?_
      refine hgo.out _ _ ?_
      clear hgo hgK
      refine hKK9 _ _ ?_
      refine wp_ret ?_
      try simp only [Exit.then, Exit.inBlock]
      refine bp_ret (v := .tuple #[.pointer none, .int .i64 2]) (res2 rfl (res_tmp (by kernel_rfl)) (res_tmp (by kernel_rfl))) ?_
      exact ⟨rfl, hB⟩
end Go.Proofs.YtliphfgiaioebaaDoor
