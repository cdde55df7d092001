/-
  Package rope: grown, New.
-/
import Derived.Test.YtliphfgiaioebaaDoorCut
namespace Go.Proofs.YtliphfgiaioebaaDoor
set_option linter.unusedVariables false
set_option linter.unusedSimpArgs false
open Go.RowKit

theorem ex_half {o : Oper} {ρ : Operand → Value} {ty ty2 : TypeId} {x y : Operand} (n : Nat) (ho : o.op = .binOp .quo ty x y ty2) (hx : ρ x = .int .i64 (n : Int)) (hy : ρ y = .int .i64 2) (hu : Tryd.prog.underlying ty = some (.int .i64)) (hn : n ≤ 9223372036854775807) (w : World) :
    (execOp ρ o).run Tryd.prog w = .ok (.value (.int .i64 ((n / 2 : Nat) : Int))) w := by
  have h1 : (0 : Int) ≤ (n : Int) := by omega
  have h2 : ((n / 2 : Nat) : Int) = (n : Int) / 2 := by omega
  have h3 : (n : Int) / 2 ≤ 9223372036854775807 := by omega
  rw [h2]
  clear h2 hn
  generalize (n : Int) = m at *
  have h4 : (0 : Int) ≤ m / 2 := by omega
  have h5 : IntKind.i64.wrap (m.tdiv 2) = m / 2 := by
    rw [Int.tdiv_eq_ediv_of_nonneg h1]; exact IntWalk.i64_in _ (by omega)
  unfold execOp
  simp only [ho, hx, hy]
  go_simp
/-- the leaves of which a list of pointers tells -/
def LeavesC (w : World) (xs : List Value) (ls : List (List UInt8)) : Prop := xs.length = ls.length ∧ ∀ i, i < ls.length → ∃ b, xs[i]? = some (.pointer (some ⟨b, 0, none⟩)) ∧ LeafAt w b (ls.getD i [])
theorem LeavesC.later {w w' : World} {xs : List Value} {ls : List (List UInt8)} (h : LeavesC w xs ls) (hl : Ltr w w') : LeavesC w' xs ls := ⟨h.1, fun i hi => by obtain ⟨b, h1, h3⟩ := h.2 i hi; exact ⟨b, h1, h3.later hl⟩⟩
theorem LeavesC.cut {w : World} {xs : List Value} {ls : List (List UInt8)} (h : LeavesC w xs ls) (lo hi : Nat) : LeavesC w ((xs.take hi).drop lo) ((ls.take hi).drop lo) := by
  refine ⟨by simp [h.1], fun i hi' => ?_⟩
  rw [List.length_drop, List.length_take] at hi'
  obtain ⟨b, h1, h3⟩ := h.2 (lo + i) (by omega)
  refine ⟨b, by rw [List.getElem?_drop, List.getElem?_take, if_pos (by omega)]; exact h1, ?_⟩
  rw [List.getD_eq_getElem?_getD, List.getElem?_drop, List.getElem?_take, if_pos (by omega), ← List.getD_eq_getElem?_getD]; exact h3
def okL (ls : List (List UInt8)) : Prop := ∀ p ∈ ls, 0 < p.length ∧ p.length ≤ 4096
theorem okL.cut {ls : List (List UInt8)} (h : okL ls) (lo hi : Nat) : okL ((ls.take hi).drop lo) := fun p hp => h p (List.mem_of_mem_take (List.mem_of_mem_drop hp))
set_option maxRecDepth 100000 in
set_option maxHeartbeats 8000000 in
theorem grown_0 (A : Option Addr) (c : Nat) (w : World) : Calls Tryd.prog 81 #[.slice A 0 c] w (NodeP [] w) := by
  have hB := Ltr.refl w
  go_enter Tryd.func81, Tryd.ntmps81
  refine wp_seq_k fun KK1 hKK1 => ?_
  refine rl_begin fun hgK hgo => ?_
  refine rl_take (some 2) (.nilIface) rfl (by kernel_rfl) (by kernel_rfl) ?_
  try simp only [pa, pn, pb, pc, pd]
  refine rl_nil ?_
  refine hgo.out _ _ ?_
  clear hgo hgK
  refine hKK1 _ _ ?_
  refine wp_seq_k fun KK2 hKK2 => ?_
  refine wp_seq_k fun KK3 hKK3 => ?_
  refine rl_begin fun hgK hgo => ?_
  refine rl_take (some 3) (.slice A 0 c) rfl (by kernel_rfl) (by kernel_rfl) ?_
  try simp only [pa, pn, pb, pc, pd]
  refine rl_take (some 4) (.int .i64 0) rfl (by kernel_rfl) (by kernel_rfl) ?_
  try simp only [pa, pn, pb, pc, pd]
  refine rl_nil ?_
  refine hgo.out _ _ ?_
  clear hgo hgK
  refine hKK3 _ _ ?_
  refine wp_block ?_
  refine wp_seq_k fun KK4 hKK4 => ?_
  refine rl_begin fun hgK hgo => ?_
  refine rl_take (some 6) (.bool true) rfl (by kernel_rfl) (by exact ex_beq (x := 0) (y := 0) (by kernel_rfl) ⟨fun _ => by omega, fun _ => rfl⟩) ?_
  try simp only [pa, pn, pb, pc, pd]
  refine rl_take (some 5) (.bool true) rfl (by kernel_rfl) (by kernel_rfl) ?_
  try simp only [pa, pn, pb, pc, pd]
  refine rl_nil ?_
  refine hgo.out _ _ ?_
  clear hgo hgK
  refine hKK4 _ _ ?_
  refine wp_cond_true (by kernel_rfl) ?_
  refine wp_seq_k fun KK5 hKK5 => ?_
  refine rl_begin fun hgK hgo => ?_
  refine rl_take (some 2) (.nilIface) rfl (by kernel_rfl) (by kernel_rfl) ?_
  try simp only [pa, pn, pb, pc, pd]
  refine rl_nil ?_
  refine hgo.out _ _ ?_
  clear hgo hgK
  refine hKK5 _ _ ?_
  refine wp_ret ?_
  try simp only [Exit.then, Exit.inBlock]
  refine bp_ret (v := .nilIface) (res1 rfl (res_tmp (by kernel_rfl))) ?_
  exact ⟨_, rfl, hB, .inl ⟨rfl, rfl⟩⟩
set_option maxRecDepth 100000 in
set_option maxHeartbeats 8000000 in
theorem grown_1 (g off c b : Nat) (l : List UInt8) (w : World) (hc : w.cell? ⟨g, off + 0, none⟩ = some (.pointer (some ⟨b, 0, none⟩))) (hb : LeafAt w b l) (h0 : 0 < l.length) (h1 : l.length ≤ 4096) :
    Calls Tryd.prog 81 #[.slice (some ⟨g, off, none⟩) 1 c] w (NodeP l w) := by
  have hB := Ltr.refl w
  go_enter Tryd.func81, Tryd.ntmps81
  refine wp_seq_k fun KK1 hKK1 => ?_
  refine rl_begin fun hgK hgo => ?_
  refine rl_take (some 2) (.nilIface) rfl (by kernel_rfl) (by kernel_rfl) ?_
  try simp only [pa, pn, pb, pc, pd]
  refine rl_nil ?_
  refine hgo.out _ _ ?_
  clear hgo hgK
  refine hKK1 _ _ ?_
  refine wp_seq_k fun KK2 hKK2 => ?_
  refine wp_seq_k fun KK3 hKK3 => ?_
  refine rl_begin fun hgK hgo => ?_
  refine rl_take (some 3) (.slice (some ⟨g, off, none⟩) 1 c) rfl (by kernel_rfl) (by kernel_rfl) ?_
  try simp only [pa, pn, pb, pc, pd]
  refine rl_take (some 4) (.int .i64 1) rfl (by kernel_rfl) (by kernel_rfl) ?_
  try simp only [pa, pn, pb, pc, pd]
  refine rl_nil ?_
  refine hgo.out _ _ ?_
  clear hgo hgK
  refine hKK3 _ _ ?_
  refine wp_block ?_
  refine wp_seq_k fun KK4 hKK4 => ?_
  refine rl_begin fun hgK hgo => ?_
  refine rl_take (some 6) (.bool false) rfl (by kernel_rfl) (by exact ex_beq (x := 1) (y := 0) (by kernel_rfl) ⟨fun q => (by cases q), fun q => absurd q (by omega)⟩) ?_
  try simp only [pa, pn, pb, pc, pd]
  refine rl_take (some 5) (.bool false) rfl (by kernel_rfl) (by kernel_rfl) ?_
  try simp only [pa, pn, pb, pc, pd]
  refine rl_nil ?_
  refine hgo.out _ _ ?_
  clear hgo hgK
  refine hKK4 _ _ ?_
  refine wp_cond_false (by kernel_rfl) ?_
  refine wp_seq_k fun KK5 hKK5 => ?_
  refine rl_begin fun hgK hgo => ?_
  refine rl_take (some 8) (.bool true) rfl (by kernel_rfl) (by exact ex_beq (x := 1) (y := 1) (by kernel_rfl) ⟨fun _ => by omega, fun _ => rfl⟩) ?_
  try simp only [pa, pn, pb, pc, pd]
  refine rl_take (some 7) (.bool true) rfl (by kernel_rfl) (by kernel_rfl) ?_
  try simp only [pa, pn, pb, pc, pd]
  refine rl_nil ?_
  refine hgo.out _ _ ?_
  clear hgo hgK
  refine hKK5 _ _ ?_
  refine wp_cond_true (by kernel_rfl) ?_
  refine wp_seq_k fun KK6 hKK6 => ?_
  refine wp_seq_k fun KK7 hKK7 => ?_
  refine rl_begin fun hgK hgo => ?_
  refine rl_take (some 9) (.slice (some ⟨g, off, none⟩) 1 c) rfl (by kernel_rfl) (by kernel_rfl) ?_
  try simp only [pa, pn, pb, pc, pd]
  refine rl_take (some 10) (.pointer (some ⟨g, off + 0, none⟩)) rfl (by kernel_rfl) (by exact ex_index 0 rfl rfl rfl (by kernel_rfl) (fun _ => by kernel_rfl) (by omega) _) ?_
  try simp only [pa, pn, pb, pc, pd]
  refine rl_take (some 11) (.pointer (some ⟨b, 0, none⟩)) rfl (by kernel_rfl) (by exact ld1 116 _ rfl g (off + 0) rfl (fun _ => by kernel_rfl) _ (bl_cell hB hc)) ?_
  try simp only [pa, pn, pb, pc, pd]
  refine rl_call (some 12) 103 #[.pointer (some ⟨b, 0, none⟩)] rfl (by kernel_rfl) (by kernel_rfl) (LLen_any b l _ hb) ?_
  rintro e w8 ⟨rfl, hL8⟩
  refine ⟨_, rfl, ?_⟩
  replace hB := hB.later hL8
  replace hb := hb.later hL8
  have hz8 := hL8.size
  try simp only [pa, pn, pb, pc, pd]
  refine rl_take (some 13) (.bool false) rfl (by kernel_rfl) (by exact ex_beq (x := l.length) (y := 0) (by kernel_rfl) ⟨fun q => (by cases q), fun q => absurd q (by omega)⟩) ?_
  try simp only [pa, pn, pb, pc, pd]
  refine rl_nil ?_
  refine hgo.out _ _ ?_
  clear hgo hgK
  refine hKK7 _ _ ?_
  refine wp_cond_false (by kernel_rfl) ?_
  refine wp_skip ?_
  refine hKK6 _ _ ?_
  refine wp_seq_k fun KK9 hKK9 => ?_
  refine rl_begin fun hgK hgo => ?_
  refine rl_take (some 14) (.slice (some ⟨g, off, none⟩) 1 c) rfl (by kernel_rfl) (by kernel_rfl) ?_
  try simp only [pa, pn, pb, pc, pd]
  refine rl_take (some 15) (.pointer (some ⟨g, off + 0, none⟩)) rfl (by kernel_rfl) (by exact ex_index 0 rfl rfl rfl (by kernel_rfl) (fun _ => by kernel_rfl) (by omega) _) ?_
  try simp only [pa, pn, pb, pc, pd]
  refine rl_take (some 16) (.pointer (some ⟨b, 0, none⟩)) rfl (by kernel_rfl) (by exact ld1 116 _ rfl g (off + 0) rfl (fun _ => by kernel_rfl) _ (bl_cell hB hc)) ?_
  try simp only [pa, pn, pb, pc, pd]
  refine rl_take (some 17) (.agg #[.pointer (some ⟨b, 0, none⟩)]) rfl (by kernel_rfl) (by kernel_rfl) ?_
  try simp only [pa, pn, pb, pc, pd]
  refine rl_take (some 18) (.iface 118 (.agg #[.pointer (some ⟨b, 0, none⟩)])) rfl (by kernel_rfl) (by kernel_rfl) ?_
  try simp only [pa, pn, pb, pc, pd]
  refine rl_take (some 2) (.iface 118 (.agg #[.pointer (some ⟨b, 0, none⟩)])) rfl (by kernel_rfl) (by kernel_rfl) ?_
  try simp only [pa, pn, pb, pc, pd]
  refine rl_nil ?_
  refine hgo.out _ _ ?_
  clear hgo hgK
  refine hKK9 _ _ ?_
  refine wp_ret ?_
  try simp only [Exit.then, Exit.inBlock]
  refine bp_ret (v := .iface 118 (.agg #[.pointer (some ⟨b, 0, none⟩)])) (res1 rfl (res_tmp (by kernel_rfl))) ?_
  exact ⟨_, rfl, hB, .inr ⟨.tip l, ⟨h0, h1⟩, rfl, Tree.tip_mk hb⟩⟩
theorem sum_take_drop (ls : List (List UInt8)) (k : Nat) : ((ls.take k).drop 0).flatten ++ ((ls.take ls.length).drop k).flatten = ls.flatten := by
  rw [List.drop_zero, List.take_of_length_le (Nat.le_refl _), ← List.flatten_append, List.take_append_drop]
set_option maxRecDepth 100000 in
set_option maxHeartbeats 8000000 in
theorem grown_2 (A : Option Addr) (c : Nat) (xs : List Value) (ls : List (List UInt8)) (w : World) (hT : Tabs w) (hn : 2 ≤ xs.length) (hm : xs.length ≤ 200000000) (hX1 : CellsAt w (cutA A c 0) ((xs.take (xs.length / 2)).drop 0)) (hX2 : CellsAt w (cutA A c (xs.length / 2)) ((xs.take xs.length).drop (xs.length / 2)))
    (hV : LeavesC w xs ls) (hc : xs.length ≤ c) (hlen : ls.flatten.length ≤ 200000000)
    (ih : ∀ A c xs ls' w, ls'.length < ls.length → Tabs w → CellsAt w A xs → LeavesC w xs ls' → xs.length ≤ c → okL ls' → ls'.flatten.length ≤ 200000000 → Calls Tryd.prog 81 #[.slice A xs.length c] w (NodeP ls'.flatten w)) (ho : okL ls) :
    Calls Tryd.prog 81 #[.slice A xs.length c] w (NodeP ls.flatten w) := by
  have hB := Ltr.refl w
  have hVl := hV.1
  have IH := Lib.hid ih
  clear ih
  have hs := congrArg List.length (sum_take_drop ls (xs.length / 2))
  rw [List.length_append] at hs
  have hj := sum_take_drop ls (xs.length / 2)
  rw [← hVl] at hj hs
  have k1 : ((xs.take (xs.length / 2)).drop 0).length = xs.length / 2 := by simp; omega
  have k2 : ((xs.take xs.length).drop (xs.length / 2)).length = xs.length - xs.length / 2 := by simp
  have k3 : ((ls.take (xs.length / 2)).drop 0).length = xs.length / 2 := by simp; omega
  have k4 : ((ls.take xs.length).drop (xs.length / 2)).length = xs.length - xs.length / 2 := by simp; omega
  have HJ := Lib.hid hj
  clear hj
  go_enter Tryd.func81, Tryd.ntmps81
  have h4 := hT.four
  refine wp_seq_k fun KK1 hKK1 => ?_
  refine rl_begin fun hgK hgo => ?_
  refine rl_take (some 2) (.nilIface) rfl (by kernel_rfl) (by kernel_rfl) ?_
  try simp only [pa, pn, pb, pc, pd]
  refine rl_nil ?_
  refine hgo.out _ _ ?_
  clear hgo hgK
  refine hKK1 _ _ ?_
  refine wp_seq_k fun KK2 hKK2 => ?_
  refine wp_seq_k fun KK3 hKK3 => ?_
  refine rl_begin fun hgK hgo => ?_
  refine rl_take (some 3) (.slice A xs.length c) rfl (by kernel_rfl) (by kernel_rfl) ?_
  try simp only [pa, pn, pb, pc, pd]
  refine rl_take (some 4) (.int .i64 xs.length) rfl (by kernel_rfl) (by kernel_rfl) ?_
  try simp only [pa, pn, pb, pc, pd]
  refine rl_nil ?_
  refine hgo.out _ _ ?_
  clear hgo hgK
  refine hKK3 _ _ ?_
  refine wp_block ?_
  refine wp_seq_k fun KK4 hKK4 => ?_
  refine rl_begin fun hgK hgo => ?_
  refine rl_take (some 6) (.bool false) rfl (by kernel_rfl) (by exact ex_beq (x := xs.length) (y := 0) (by kernel_rfl) ⟨fun q => (by cases q), fun q => absurd q (by omega)⟩) ?_
  try simp only [pa, pn, pb, pc, pd]
  refine rl_take (some 5) (.bool false) rfl (by kernel_rfl) (by kernel_rfl) ?_
  try simp only [pa, pn, pb, pc, pd]
  refine rl_nil ?_
  refine hgo.out _ _ ?_
  clear hgo hgK
  refine hKK4 _ _ ?_
  refine wp_cond_false (by kernel_rfl) ?_
  refine wp_seq_k fun KK5 hKK5 => ?_
  refine rl_begin fun hgK hgo => ?_
  refine rl_take (some 8) (.bool false) rfl (by kernel_rfl) (by exact ex_beq (x := xs.length) (y := 1) (by kernel_rfl) ⟨fun q => (by cases q), fun q => absurd q (by omega)⟩) ?_
  try simp only [pa, pn, pb, pc, pd]
  refine rl_take (some 7) (.bool false) rfl (by kernel_rfl) (by kernel_rfl) ?_
  try simp only [pa, pn, pb, pc, pd]
  refine rl_nil ?_
  refine hgo.out _ _ ?_
  clear hgo hgK
  refine hKK5 _ _ ?_
  refine wp_cond_false (by kernel_rfl) ?_
  refine wp_skip ?_
  refine hKK2 _ _ ?_
  refine wp_seq_k fun KK6 hKK6 => ?_
  refine rm_begin (fun W => Ltr w W) (by kernel_rfl) (by exact bl_drew (bl_refl _)) fun K7 hgo w7 hE hS7 => ?_
  have hv7 : Ltr w w7 := by rw [hE]; exact bl_drew (bl_refl _)
  have hz7 := hv7.size
  clear hE hS7
  refine rm_take 0 (some 19) (.slice A xs.length c) (oi := { dst := some 19, op := Go.Op.move (Go.Operand.tmp 0), type := 136, pos := "rope.go:109", after := #[], guard := none }) rfl rfl (by kernel_rfl) (by kernel_rfl) (by kernel_rfl) (by kernel_rfl) (fun W hW => by (kernel_rfl)) ?_
  try simp only [pa, pn, pb, pc, pd]
  refine rm_take 1 (some 20) (.slice A xs.length c) (oi := { dst := some 20, op := Go.Op.move (Go.Operand.tmp 0), type := 136, pos := "rope.go:109", after := #[], guard := none }) rfl rfl (by kernel_rfl) (by kernel_rfl) (by kernel_rfl) (by kernel_rfl) (fun W hW => by (kernel_rfl)) ?_
  try simp only [pa, pn, pb, pc, pd]
  refine rm_take 2 (some 21) (.int .i64 xs.length) (oi := { dst := some 21, op := Go.Op.call { callee := Go.Callee.builtin Go.Builtin.len, args := #[Go.Operand.tmp 20], argTypes := #[136] }, type := 3, pos := "rope.go:109", after := #[{ on := 1, ground := Go.Ground.data }], guard := none }) rfl rfl (by kernel_rfl) (by kernel_rfl) (by kernel_rfl) (by kernel_rfl) (fun W hW => by (kernel_rfl)) ?_
  try simp only [pa, pn, pb, pc, pd]
  refine rm_take 3 (some 22) (.int .i64 ((xs.length / 2 : Nat) : Int)) (oi := { dst := some 22, op := Go.Op.binOp Go.BinOp.quo 3 (Go.Operand.tmp 21) (Go.Operand.const (Go.Value.int Go.IntKind.i64 2)) 3, type := 3, pos := "rope.go:109", after := #[{ on := 2, ground := Go.Ground.data }], guard := none }) rfl rfl (by kernel_rfl) (by kernel_rfl) (by kernel_rfl) (by kernel_rfl) (fun W hW => by (exact ex_half xs.length rfl rfl rfl (by kernel_rfl) (by omega) _)) ?_
  try simp only [pa, pn, pb, pc, pd]
  refine rm_take 4 (some 23) (.slice (cutA A c 0) (((xs.take (xs.length / 2)).drop 0).length) (c - 0)) (oi := { dst := some 23, op := Go.Op.slice 136 (Go.Operand.tmp 19) none (some (Go.Operand.tmp 22)) none, type := 136, pos := "rope.go:109", after := #[{ on := 0, ground := Go.Ground.data }, { on := 3, ground := Go.Ground.data }], guard := none }) rfl rfl (by kernel_rfl) (by kernel_rfl) (by kernel_rfl) (by kernel_rfl) (fun W hW => by (exact ex_cutN 0 (xs.length / 2) (((xs.take (xs.length / 2)).drop 0).length) (by omega) rfl rfl (.inr ⟨rfl, rfl⟩) (.inl rfl) (by kernel_rfl) (fun _ => by kernel_rfl) (by omega) (by omega) (by omega) _)) ?_
  try simp only [pa, pn, pb, pc, pd]
  refine rm_take 6 (some 25) (.slice A xs.length c) (oi := { dst := some 25, op := Go.Op.move (Go.Operand.tmp 0), type := 136, pos := "rope.go:109", after := #[], guard := none }) rfl rfl (by kernel_rfl) (by kernel_rfl) (by kernel_rfl) (by kernel_rfl) (fun W hW => by (kernel_rfl)) ?_
  try simp only [pa, pn, pb, pc, pd]
  refine rm_take 7 (some 26) (.slice A xs.length c) (oi := { dst := some 26, op := Go.Op.move (Go.Operand.tmp 0), type := 136, pos := "rope.go:109", after := #[], guard := none }) rfl rfl (by kernel_rfl) (by kernel_rfl) (by kernel_rfl) (by kernel_rfl) (fun W hW => by (kernel_rfl)) ?_
  try simp only [pa, pn, pb, pc, pd]
  refine rm_take 8 (some 27) (.int .i64 xs.length) (oi := { dst := some 27, op := Go.Op.call { callee := Go.Callee.builtin Go.Builtin.len, args := #[Go.Operand.tmp 26], argTypes := #[136] }, type := 3, pos := "rope.go:109", after := #[{ on := 7, ground := Go.Ground.data }], guard := none }) rfl rfl (by kernel_rfl) (by kernel_rfl) (by kernel_rfl) (by kernel_rfl) (fun W hW => by (kernel_rfl)) ?_
  try simp only [pa, pn, pb, pc, pd]
  refine rm_take 9 (some 28) (.int .i64 ((xs.length / 2 : Nat) : Int)) (oi := { dst := some 28, op := Go.Op.binOp Go.BinOp.quo 3 (Go.Operand.tmp 27) (Go.Operand.const (Go.Value.int Go.IntKind.i64 2)) 3, type := 3, pos := "rope.go:109", after := #[{ on := 8, ground := Go.Ground.data }], guard := none }) rfl rfl (by kernel_rfl) (by kernel_rfl) (by kernel_rfl) (by kernel_rfl) (fun W hW => by (exact ex_half xs.length rfl rfl rfl (by kernel_rfl) (by omega) _)) ?_
  try simp only [pa, pn, pb, pc, pd]
  refine rm_take 10 (some 29) (.slice (cutA A c (xs.length / 2)) (((xs.take xs.length).drop (xs.length / 2)).length) (c - (xs.length / 2))) (oi := { dst := some 29, op := Go.Op.slice 136 (Go.Operand.tmp 25) (some (Go.Operand.tmp 28)) none none, type := 136, pos := "rope.go:109", after := #[{ on := 6, ground := Go.Ground.data }, { on := 9, ground := Go.Ground.data }], guard := none }) rfl rfl (by kernel_rfl) (by kernel_rfl) (by kernel_rfl) (by kernel_rfl) (fun W hW => by (exact ex_cutN (xs.length / 2) xs.length (((xs.take xs.length).drop (xs.length / 2)).length) (by omega) rfl rfl (.inl rfl) (.inr ⟨rfl, rfl⟩) (by kernel_rfl) (fun _ => by kernel_rfl) (by omega) (by omega) (by omega) _)) ?_
  try simp only [pa, pn, pb, pc, pd]
  refine rm_pick1 (i := 5) (by kernel_rfl) ?_
  refine rm_callx (some 24) 81 #[.slice (cutA A c 0) (((xs.take (xs.length / 2)).drop 0).length) (c - 0)] (oi := { dst := some 24, op := Go.Op.call { callee := Go.Callee.value (Go.Operand.func 81), args := #[Go.Operand.tmp 23], argTypes := #[136] }, type := 108, pos := "rope.go:109", after := #[{ on := 4, ground := Go.Ground.data }], guard := none }) rfl rfl (by kernel_rfl) (fun W hW => by kernel_rfl) (fun W hlz hW => IH.out _ (c - 0) _ ((ls.take (xs.length / 2)).drop 0) _ (by omega) (hT.later (show Ltr w W from hW)) (hX1.later (show Ltr w W from hW)) ((hV.later (show Ltr w W from hW)).cut 0 (xs.length / 2)) (by omega) (ho.cut 0 (xs.length / 2)) (by omega)) (by rintro W e w' ⟨v1, rfl, hL8, hv1⟩; exact hL8) (fun _ _ h k => Ltr.trans h k) ?_
  rintro q8 e w8 hq8 hQ8 ⟨v1, rfl, hL8, hv1⟩ hS8
  refine ⟨_, rfl, ?_⟩
  have hz8 := hL8.size
  have hy8 := hq8.size
  try simp only [pa, pn, pb, pc, pd]
  refine rm_pick1 (i := 11) (by kernel_rfl) ?_
  refine rm_callx (some 30) 81 #[.slice (cutA A c (xs.length / 2)) (((xs.take xs.length).drop (xs.length / 2)).length) (c - (xs.length / 2))] (oi := { dst := some 30, op := Go.Op.call { callee := Go.Callee.value (Go.Operand.func 81), args := #[Go.Operand.tmp 29], argTypes := #[136] }, type := 108, pos := "rope.go:109", after := #[{ on := 10, ground := Go.Ground.data }, { on := 5, ground := Go.Ground.chain }], guard := none }) rfl rfl (by kernel_rfl) (fun W hW => by kernel_rfl) (fun W hlz hW => IH.out _ (c - xs.length / 2) _ ((ls.take xs.length).drop (xs.length / 2)) _ (by omega) (hT.later (show Ltr w W from hW)) (hX2.later (show Ltr w W from hW)) ((hV.later (show Ltr w W from hW)).cut (xs.length / 2) xs.length) (by omega) (ho.cut (xs.length / 2) xs.length) (by omega)) (by rintro W e w' ⟨v2, rfl, hL9, hv2⟩; exact hL9) (fun _ _ h k => Ltr.trans h k) ?_
  rintro q9 e w9 hq9 hQ9 ⟨v2, rfl, hL9, hv2⟩ hS9
  refine ⟨_, rfl, ?_⟩
  replace hv1 := (hv1.later hq9).later hL9
  have hz9 := hL9.size
  have hy9 := hq9.size
  try simp only [pa, pn, pb, pc, pd]
  refine rm_pick1 (i := 12) (by kernel_rfl) ?_
  refine rm_callx (some 31) 83 #[v1, v2] (oi := { dst := some 31, op := Go.Op.call { callee := Go.Callee.value (Go.Operand.func 83), args := #[Go.Operand.tmp 24, Go.Operand.tmp 30], argTypes := #[108, 108] }, type := 108, pos := "rope.go:109", after := #[{ on := 5, ground := Go.Ground.data }, { on := 11, ground := Go.Ground.data }, { on := 11, ground := Go.Ground.chain }], guard := none }) rfl rfl (by kernel_rfl) (fun W hW => by kernel_rfl) (fun W hlz hW => join_any _ _ v1 v2 _ (hT.later (show Ltr w W from hW)) (hv1.later hlz) (hv2.later hlz) (by omega)) (by rintro W e w' ⟨v, rfl, hL10, hv⟩; exact hL10) (fun _ _ h k => Ltr.trans h k) ?_
  rintro q10 e w10 hq10 hQ10 ⟨v, rfl, hL10, hv⟩ hS10
  refine ⟨_, rfl, ?_⟩
  replace hv1 := (hv1.later hq10).later hL10
  replace hv2 := (hv2.later hq10).later hL10
  have hz10 := hL10.size
  have hy10 := hq10.size
  try simp only [pa, pn, pb, pc, pd]
  refine rm_take 13 (some 2) (v) (oi := { dst := some 2, op := Go.Op.assign (Go.Operand.tmp 31), type := 108, pos := "rope.go:109", after := #[{ on := 12, ground := Go.Ground.data }, { on := 12, ground := Go.Ground.chain }, { on := 0, ground := Go.Ground.phase }, { on := 1, ground := Go.Ground.phase }, { on := 2, ground := Go.Ground.phase }, { on := 3, ground := Go.Ground.phase }, { on := 4, ground := Go.Ground.phase }, { on := 5, ground := Go.Ground.phase }, { on := 6, ground := Go.Ground.phase }, { on := 7, ground := Go.Ground.phase }, { on := 8, ground := Go.Ground.phase }, { on := 9, ground := Go.Ground.phase }, { on := 10, ground := Go.Ground.phase }, { on := 11, ground := Go.Ground.phase }, { on := 12, ground := Go.Ground.phase }], guard := none }) rfl rfl (by kernel_rfl) (by kernel_rfl) (by kernel_rfl) (by kernel_rfl) (fun W hW => by (kernel_rfl)) ?_
  try simp only [pa, pn, pb, pc, pd]
  refine rm_done (by kernel_rfl) (fun w11 hL11 hS11 => hgo.out _ _ ?_) _
  clear hgo K7
  replace hv1 := hv1.later hL11
  replace hv2 := hv2.later hL11
  replace hv := hv.later hL11
  replace hT := hT.later (show Ltr w _ from hS11)
  replace hB := hB.later (show Ltr w _ from hS11)
  replace hX1 := hX1.later (show Ltr w _ from hS11)
  replace hX2 := hX2.later (show Ltr w _ from hS11)
  replace hV := hV.later (show Ltr w _ from hS11)
  have hz11 := (show Ltr w _ from hS11).size
  have hy11 := hL11.size
  refine hKK6 _ _ ?_
  refine wp_ret ?_
  try simp only [Exit.then, Exit.inBlock]
  refine bp_ret (v := v) (res1 rfl (res_tmp (by kernel_rfl))) ?_
  exact ⟨_, rfl, hB, by rw [← HJ.out]; exact hv⟩
theorem grown_any (k : Nat) : ∀ (A : Option Addr) (c : Nat) (xs : List Value) (ls : List (List UInt8)) (w : World), ls.length ≤ k → Tabs w → CellsAt w A xs → LeavesC w xs ls → xs.length ≤ c → okL ls → ls.flatten.length ≤ 200000000 →
    Calls Tryd.prog 81 #[.slice A xs.length c] w (NodeP ls.flatten w) := by
  induction k with
  | zero =>
    intro A c xs ls w hk hT hX hV hc ho hm
    have h0 : xs.length = 0 := by have := hV.1; omega
    rw [h0]
    obtain rfl : ls = [] := List.eq_nil_of_length_eq_zero (by omega)
    exact grown_0 A c w
  | succ k ih =>
    intro A c xs ls w hk hT hX hV hc ho hm
    have hl := hV.1
    by_cases h0 : ls.length = 0
    · rw [show xs.length = 0 by omega]
      obtain rfl : ls = [] := List.eq_nil_of_length_eq_zero h0
      exact grown_0 A c w
    by_cases h1 : ls.length = 1
    · obtain ⟨l, rfl⟩ : ∃ l, ls = [l] := List.length_eq_one_iff.1 h1
      rw [show xs.length = 1 by omega]
      obtain ⟨g, off, rfl, hcell⟩ := hX (by omega)
      obtain ⟨b, e1, e2⟩ := hV.2 0 (by simp)
      have := grown_1 g off c b l w (hcell 0 _ e1) (by simpa using e2) (ho l (by simp)).1 (ho l (by simp)).2
      simpa using this
    · have hbig : xs.length ≤ 200000000 := by
        have : ∀ ls : List (List UInt8), okL ls → ls.length ≤ ls.flatten.length := by
          intro ls
          induction ls with
          | nil => intro _; simp
          | cons a r ih2 => intro h; have h1 := ih2 (fun p hp => h p (by simp [hp])); have h2 := h a (by simp); rw [List.flatten_cons, List.length_append, List.length_cons]; omega
        have := this ls ho; omega
      refine grown_2 A c xs ls w hT (by omega) hbig ?_ ?_ hV hc hm (fun A c xs ls' w hlt => ih A c xs ls' w (by omega)) ho
      · exact hX.cut c 0 (xs.length / 2) (by omega) (by omega) hc
      · exact hX.cut c (xs.length / 2) xs.length (by omega) (by omega) hc
theorem Node.form {w : World} {l : List UInt8} {v : Value} (h : Node w l v) : v = .nilIface ∨ ∃ ty x, v = .iface ty x := h.elim (fun h => .inl h.2) (fun ⟨t, _, _, ht⟩ => .inr ht.iface)
theorem ex_build_node {o : Oper} {ρ : Operand → Value} {x : Operand} {v : Value} (ho : o.op = .build 110 #[(0, x)]) (hx : ρ x = v) (hv : v = .nilIface ∨ ∃ ty x, v = .iface ty x) (w : World) :
    (execOp ρ o).run Tryd.prog w = .ok (.value (.agg #[v])) w := by
  have h : (execOp ρ o) = (do pure (Next.value (← Instr.build 110 #[(0, v)]))) := by
    unfold execOp; simp only [ho]; simp [hx]
  rw [h]
  clear h hx
  rcases hv with rfl | ⟨ty, z, rfl⟩
  · show Sem.run _ _ _ = _
    kernel_rfl
  · show Sem.run _ _ _ = _
    kernel_rfl
/-- a rope in memory -/
def RopeAt (w : World) (b : Nat) (l : List UInt8) : Prop := ∃ v, Blk w b 110 #[v] ∧ Node w l v
theorem RopeAt.later {w w' : World} {b : Nat} {l : List UInt8} (h : RopeAt w b l) (hl : Ltr w w') : RopeAt w' b l := let ⟨v, h1, h2⟩ := h; ⟨v, h1.later hl, h2.later hl⟩
def NewP (l : List UInt8) (w : World) (e : Ending) (w' : World) : Prop := ∃ b, e = .returned (.tuple #[.pointer (some ⟨b, 0, none⟩), .int .i64 0]) ∧ Ltr w w' ∧ RopeAt w' b l ∧ w.heap.size ≤ b
set_option maxRecDepth 100000 in
set_option maxHeartbeats 8000000 in
theorem New_any (A : Option Addr) (c : Nat) (l : List UInt8) (w : World) (hT : Tabs w) (hA : BytesAt w A l) (hc : l.length ≤ c) (hm : l.length ≤ 200000000) :
    Calls Tryd.prog 36 #[.slice A l.length c] w (NewP l w) := by
  have hB := Ltr.refl w
  go_enter Tryd.func36, Tryd.ntmps36
  have h4 := hT.four
  refine wp_seq_k fun KK1 hKK1 => ?_
  refine rl_begin fun hgK hgo => ?_
  refine rl_take (some 2) (.pointer none) rfl (by kernel_rfl) (by kernel_rfl) ?_
  try simp only [pa, pn, pb, pc, pd]
  refine rl_take (some 3) (.int .i64 0) rfl (by kernel_rfl) (by kernel_rfl) ?_
  try simp only [pa, pn, pb, pc, pd]
  refine rl_nil ?_
  refine hgo.out _ _ ?_
  clear hgo hgK
  refine hKK1 _ _ ?_
  refine wp_seq_k fun KK2 hKK2 => ?_
  refine wp_seq_k fun KK3 hKK3 => ?_
  refine rl_begin fun hgK hgo => ?_
  refine rl_take (some 6) (.slice A l.length c) rfl (by kernel_rfl) (by kernel_rfl) ?_
  try simp only [pa, pn, pb, pc, pd]
  refine rl_take (some 7) (.int .i64 l.length) rfl (by kernel_rfl) (by kernel_rfl) ?_
  try simp only [pa, pn, pb, pc, pd]
  refine rl_take (some 8) (.bool false) rfl (by kernel_rfl) (by exact ex_bool (c := (l.length : Int) > 268435456) (by kernel_rfl) ⟨fun q => (by cases q), fun q => absurd q (by omega)⟩) ?_
  try simp only [pa, pn, pb, pc, pd]
  refine rl_nil ?_
  refine hgo.out _ _ ?_
  clear hgo hgK
  refine hKK3 _ _ ?_
  refine wp_cond_false (by kernel_rfl) ?_
  refine wp_skip ?_
  refine hKK2 _ _ ?_
  refine wp_seq_k fun KK4 hKK4 => ?_
  refine rl_begin fun hgK hgo => ?_
  refine rl_take (some 10) (.slice A l.length c) rfl (by kernel_rfl) (by kernel_rfl) ?_
  try simp only [pa, pn, pb, pc, pd]
  refine rl_call (some 11) 80 #[.slice A l.length c, .int .i64 4096] rfl (by kernel_rfl) (by kernel_rfl) (Cut_any A c l _ hT hA hc hm) ?_
  rintro e w5 ⟨A1, c1, xs, ls, rfl, hL5, hc1, hX, hx1, hx2, hx3, hx4⟩
  refine ⟨_, rfl, ?_⟩
  replace hT := hT.later hL5
  replace hB := hB.later hL5
  replace hA := hA.later hL5
  have hz5 := hL5.size
  (have hV : LeavesC _ xs ls := ⟨hx1, hx2⟩); clear hx2
  try simp only [pa, pn, pb, pc, pd]
  refine rl_take (some 9) (.tuple #[.slice A1 xs.length c1, .int .i64 0]) rfl (by kernel_rfl) (by kernel_rfl) ?_
  try simp only [pa, pn, pb, pc, pd]
  refine rl_take (some 12) (.slice A1 xs.length c1) rfl (by kernel_rfl) (by kernel_rfl) ?_
  try simp only [pa, pn, pb, pc, pd]
  refine rl_take (some 13) (.int .i64 0) rfl (by kernel_rfl) (by kernel_rfl) ?_
  try simp only [pa, pn, pb, pc, pd]
  refine rl_take (some 4) (.slice A1 xs.length c1) rfl (by kernel_rfl) (by kernel_rfl) ?_
  try simp only [pa, pn, pb, pc, pd]
  refine rl_take (some 5) (.int .i64 0) rfl (by kernel_rfl) (by kernel_rfl) ?_
  try simp only [pa, pn, pb, pc, pd]
  refine rl_nil ?_
  refine hgo.out _ _ ?_
  clear hgo hgK
  refine hKK4 _ _ ?_
  refine wp_seq_k fun KK6 hKK6 => ?_
  refine wp_seq_k fun KK7 hKK7 => ?_
  refine rl_begin fun hgK hgo => ?_
  refine rl_take (some 14) (.int .i64 0) rfl (by kernel_rfl) (by kernel_rfl) ?_
  try simp only [pa, pn, pb, pc, pd]
  refine rl_take (some 15) (.bool false) rfl (by kernel_rfl) (by exact ex_bne (x := 0) (y := 0) (by kernel_rfl) ⟨fun q => (by cases q), fun q => absurd q (by omega)⟩) ?_
  try simp only [pa, pn, pb, pc, pd]
  refine rl_nil ?_
  refine hgo.out _ _ ?_
  clear hgo hgK
  refine hKK7 _ _ ?_
  refine wp_cond_false (by kernel_rfl) ?_
  refine wp_skip ?_
  refine hKK6 _ _ ?_
  refine wp_seq_k fun KK8 hKK8 => ?_
  refine rl_begin fun hgK hgo => ?_
  refine rl_take (some 17) (.slice A1 xs.length c1) rfl (by kernel_rfl) (by kernel_rfl) ?_
  try simp only [pa, pn, pb, pc, pd]
  refine rl_call (some 18) 81 #[.slice A1 xs.length c1] rfl (by kernel_rfl) (by kernel_rfl) (grown_any ls.length A1 c1 xs ls _ (Nat.le_refl _) hT hX hV hc1 hx4 (by rw [hx3]; exact hm)) ?_
  rintro e w9 ⟨v, rfl, hL9, hv⟩
  refine ⟨_, rfl, ?_⟩
  replace hT := hT.later hL9
  replace hB := hB.later hL9
  replace hA := hA.later hL9
  replace hX := hX.later hL9
  replace hV := hV.later hL9
  have hz9 := hL9.size
  rw [hx3] at hv
  try simp only [pa, pn, pb, pc, pd]
  refine rl_take (some 19) (.agg #[v]) rfl (by kernel_rfl) (by exact ex_build_node (x := Go.Operand.tmp 18) (v := v) rfl rfl hv.form _) ?_
  try simp only [pa, pn, pb, pc, pd]
  refine rl_alloc (some 20) 110 #[v] rfl (by kernel_rfl) (fun W => by kernel_rfl) fun q w10 hL10 hp10 hq => ?_
  replace hT := hT.later hL10
  replace hB := hB.later hL10
  replace hA := hA.later hL10
  replace hX := hX.later hL10
  replace hV := hV.later hL10
  replace hv := hv.later hL10
  have hz10 := hL10.size
  have hlt10 := hq.lt
  try simp only [pa, pn, pb, pc, pd]
  refine rl_take (some 2) (.pointer (some ⟨q, 0, none⟩)) rfl (by kernel_rfl) (by kernel_rfl) ?_
  try simp only [pa, pn, pb, pc, pd]
  refine rl_take (some 3) (.int .i64 0) rfl (by kernel_rfl) (by kernel_rfl) ?_
  try simp only [pa, pn, pb, pc, pd]
  refine rl_nil ?_
  refine hgo.out _ _ ?_
  clear hgo hgK
  refine hKK8 _ _ ?_
  refine wp_ret ?_
  try simp only [Exit.then, Exit.inBlock]
  refine bp_ret (v := .tuple #[.pointer (some ⟨q, 0, none⟩), .int .i64 0]) (res2 rfl (res_tmp (by kernel_rfl)) (res_tmp (by kernel_rfl))) ?_
  exact ⟨_, rfl, hB, ⟨v, hq, hv⟩, by omega⟩
end Go.Proofs.YtliphfgiaioebaaDoor
