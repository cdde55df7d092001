/-
  Package rope: join.
-/
import Derived.Test.YtliphfgiaioebaaDoorRope2
namespace Go.Proofs.YtliphfgiaioebaaDoor
set_option linter.unusedVariables false
set_option linter.unusedSimpArgs false
open Go.RowKit

/-- a tree whose blocks lie below n -/
def TreeN (n : Nat) (w : World) (t : Tr) (v : Value) : Prop := n ≤ w.heap.size ∧ TreeIn n w t v
theorem TreeN.later {n : Nat} {w w' : World} {t : Tr} {v : Value} (h : TreeN n w t v) (hl : Ltr w w') : TreeN n w' t v := ⟨Nat.le_trans h.1 hl.size, h.2.later hl h.1⟩
theorem TreeN.upd {n g : Nat} {w w' : World} {t : Tr} {v : Value} (h : TreeN n w t v) (hu : Upd g w w') (hg : n ≤ g) : TreeN n w' t v := ⟨by rw [hu.size]; exact h.1, h.2.upd hu hg⟩
theorem TreeN.bel {n m : Nat} {w w' : World} {t : Tr} {v : Value} (h : TreeN n w t v) (hb : Below m w w') (hn : n ≤ m) : TreeN n w' t v := ⟨Nat.le_trans h.1 hb.size, h.2.below (Nat.le_refl _) (Below.mono hb hn)⟩
theorem TreeN.tree {n : Nat} {w : World} {t : Tr} {v : Value} (h : TreeN n w t v) : Tree w t v := h.2.tree h.1
theorem Tree.n {w : World} {t : Tr} {v : Value} (h : Tree w t v) : TreeN w.heap.size w t v := ⟨Nat.le_refl _, h⟩
theorem LeafAt.upd {w w' : World} {b g : Nat} {l : List UInt8} (h : LeafAt w b l) (hu : Upd g w w') (hg : b ≠ g) : LeafAt w' b l := Blk.upd h hu hg
def JoinP (x y : Tr) (vx vy : Value) (w : World) (e : Ending) (w' : World) : Prop := ∃ v, e = .returned v ∧ Ltr w w' ∧ ∃ t : Tr, Tree w' t v ∧ t.ok ∧ t.bytes = x.bytes ++ y.bytes ∧ max x.h y.h ≤ t.h ∧ t.h ≤ max x.h y.h + 1
set_option maxRecDepth 100000 in
set_option maxHeartbeats 8000000 in
theorem join_1 (p q y : Tr) (vx vy : Value) (w : World) (hT : Tabs w) (hx : Tree w (.fork p q) vx) (hy : Tree w y vy) (ox : (Tr.fork p q).ok) (oy : y.ok) (hm : p.bytes.length + q.bytes.length + y.bytes.length ≤ 200000000)
    (d1 : y.h + 2 ≤ (Tr.fork p q).h) (ih : ∀ vx w, Tabs w → Tree w q vx → Tree w y vy → Calls Tryd.prog 83 #[vx, vy] w (JoinP q y vx vy w)) :
    Calls Tryd.prog 83 #[vx, vy] w (JoinP (.fork p q) y vx vy w) := by
  have hB := Ltr.refl w
  obtain ⟨f1, x1, e1, c1⟩ := inv_height hx
  obtain ⟨f2, x2, e2, c2⟩ := inv_height hy
  have bx := Tr.h_le _ ox
  have by' := Tr.h_le _ oy
  rw [Tr.len_fork] at bx
  obtain ⟨op, oq, o1, o2⟩ := ox
  have hh := Tr.h_fork p q
  have IH := Lib.hid ih
  clear ih
  obtain ⟨a, vp, vq, rfl, hb, hp, hq⟩ := hx.fork_open
  obtain ⟨t2, z2, rfl⟩ := hy.iface
  go_enter Tryd.func83, Tryd.ntmps83
  have h4 := hT.four
  have hlt_hb := hb.lt
  refine wp_seq_k fun KK1 hKK1 => ?_
  refine rl_begin fun hgK hgo => ?_
  refine rl_take (some 4) (.nilIface) rfl (by kernel_rfl) (by kernel_rfl) ?_
  try simp only [pa, pn, pb, pc, pd]
  refine rl_nil ?_
  refine hgo.out _ _ ?_
  clear hgo hgK
  refine hKK1 _ _ ?_
  refine wp_seq_k fun KK2 hKK2 => ?_
  refine wp_block ?_
  refine wp_seq_k fun KK3 hKK3 => ?_
  refine rl_begin fun hgK hgo => ?_
  refine rl_take (some 15) (.iface 111 (.pointer (some ⟨a, 0, none⟩))) rfl (by kernel_rfl) (by kernel_rfl) ?_
  try simp only [pa, pn, pb, pc, pd]
  refine rl_take (some 16) (.bool false) rfl (by kernel_rfl) (by kernel_rfl) ?_
  try simp only [pa, pn, pb, pc, pd]
  refine rl_take (some 14) (.bool false) rfl (by kernel_rfl) (by kernel_rfl) ?_
  try simp only [pa, pn, pb, pc, pd]
  refine rl_nil ?_
  refine hgo.out _ _ ?_
  clear hgo hgK
  refine hKK3 _ _ ?_
  refine wp_cond_false (by kernel_rfl) ?_
  refine wp_seq_k fun KK4 hKK4 => ?_
  refine rl_begin fun hgK hgo => ?_
  refine rl_take (some 19) (.iface t2 z2) rfl (by kernel_rfl) (by kernel_rfl) ?_
  try simp only [pa, pn, pb, pc, pd]
  refine rl_take (some 20) (.bool false) rfl (by kernel_rfl) (by kernel_rfl) ?_
  try simp only [pa, pn, pb, pc, pd]
  refine rl_take (some 18) (.bool false) rfl (by kernel_rfl) (by kernel_rfl) ?_
  try simp only [pa, pn, pb, pc, pd]
  refine rl_nil ?_
  refine hgo.out _ _ ?_
  clear hgo hgK
  refine hKK4 _ _ ?_
  refine wp_cond_false (by kernel_rfl) ?_
  refine wp_skip ?_
  refine hKK2 _ _ ?_
  refine wp_seq_k fun KK5 hKK5 => ?_
  refine wp_seq_k fun KK6 hKK6 => ?_
  refine rl_begin fun hgK hgo => ?_
  refine rl_take (some 22) (.iface 111 (.pointer (some ⟨a, 0, none⟩))) rfl (by kernel_rfl) (by kernel_rfl) ?_
  try simp only [pa, pn, pb, pc, pd]
  refine rl_call (some 23) f1 #[x1] rfl (by kernel_rfl) (by exact e1 _ _ _ _ rfl rfl) (c1 _ hB) ?_
  rintro e w7 ⟨rfl, hL7⟩
  refine ⟨_, rfl, ?_⟩
  replace hT := hT.later hL7
  replace hB := hB.later hL7
  replace hp := hp.later hL7
  replace hq := hq.later hL7
  replace hy := hy.later hL7
  replace hb := hb.later hL7
  have hz7 := hL7.size
  try simp only [pa, pn, pb, pc, pd]
  refine rl_take (some 24) (.iface t2 z2) rfl (by kernel_rfl) (by kernel_rfl) ?_
  try simp only [pa, pn, pb, pc, pd]
  refine rl_call (some 25) f2 #[x2] rfl (by kernel_rfl) (by exact e2 _ _ _ _ rfl rfl) (c2 _ hB) ?_
  rintro e w8 ⟨rfl, hL8⟩
  refine ⟨_, rfl, ?_⟩
  replace hT := hT.later hL8
  replace hB := hB.later hL8
  replace hp := hp.later hL8
  replace hq := hq.later hL8
  replace hy := hy.later hL8
  replace hb := hb.later hL8
  have hz8 := hL8.size
  try simp only [pa, pn, pb, pc, pd]
  refine rl_take (some 26) (.int .i64 ((((Tr.fork p q).h : Int) : Int) - (y.h : Int))) rfl (by kernel_rfl) (by exact ex_arith (e := (((Tr.fork p q).h : Int) : Int) - (y.h : Int)) (r := (((Tr.fork p q).h : Int) : Int) - (y.h : Int)) (by kernel_rfl) (by omega) (by omega)) ?_
  try simp only [pa, pn, pb, pc, pd]
  refine rl_take (some 5) (.int .i64 ((((Tr.fork p q).h : Int) : Int) - (y.h : Int))) rfl (by kernel_rfl) (by kernel_rfl) ?_
  try simp only [pa, pn, pb, pc, pd]
  refine rl_nil ?_
  refine hgo.out _ _ ?_
  clear hgo hgK
  refine hKK6 _ _ ?_
  refine wp_block ?_
  refine wp_seq_k fun KK9 hKK9 => ?_
  refine rl_begin fun hgK hgo => ?_
  refine rl_take (some 28) (.int .i64 ((((Tr.fork p q).h : Int) : Int) - (y.h : Int))) rfl (by kernel_rfl) (by kernel_rfl) ?_
  try simp only [pa, pn, pb, pc, pd]
  refine rl_take (some 29) (.bool true) rfl (by kernel_rfl) (by exact ex_bool (c := (((((Tr.fork p q).h : Int) : Int) - (y.h : Int)) : Int) > 1) (by kernel_rfl) ⟨fun _ => by omega, fun _ => rfl⟩) ?_
  try simp only [pa, pn, pb, pc, pd]
  refine rl_take (some 27) (.bool true) rfl (by kernel_rfl) (by kernel_rfl) ?_
  try simp only [pa, pn, pb, pc, pd]
  refine rl_nil ?_
  refine hgo.out _ _ ?_
  clear hgo hgK
  refine hKK9 _ _ ?_
  refine wp_cond_true (by kernel_rfl) ?_
  refine wp_seq_k fun KK10 hKK10 => ?_
  refine rl_begin fun hgK hgo => ?_
  refine rl_take (some 30) (.iface 111 (.pointer (some ⟨a, 0, none⟩))) rfl (by kernel_rfl) (by kernel_rfl) ?_
  try simp only [pa, pn, pb, pc, pd]
  refine rl_take (some 31) (.pointer (some ⟨a, 0, none⟩)) rfl (by kernel_rfl) (by kernel_rfl) ?_
  try simp only [pa, pn, pb, pc, pd]
  refine rl_take (some 6) (.pointer (some ⟨a, 0, none⟩)) rfl (by kernel_rfl) (by kernel_rfl) ?_
  try simp only [pa, pn, pb, pc, pd]
  refine rl_nil ?_
  refine hgo.out _ _ ?_
  clear hgo hgK
  refine hKK10 _ _ ?_
  refine wp_seq_k fun KK11 hKK11 => ?_
  refine rm_begin (fun W => Ltr w8 W) (by kernel_rfl) (by exact bl_drew (bl_refl _)) fun K12 hgo w12 hE hS12 => ?_
  have hv12 : Ltr w8 w12 := by rw [hE]; exact bl_drew (bl_refl _)
  have hz12 := hv12.size
  clear hE hS12
  refine rm_take 0 (some 32) (.pointer (some ⟨a, 0, none⟩)) (oi := { dst := some 32, op := Go.Op.move (Go.Operand.tmp 6), type := 111, pos := "rope.go:83", after := #[], guard := none }) rfl rfl (by kernel_rfl) (by kernel_rfl) (by kernel_rfl) (by kernel_rfl) (fun W hW => by (kernel_rfl)) ?_
  try simp only [pa, pn, pb, pc, pd]
  refine rm_take 1 (some 33) (.pointer (some ⟨a, 0, none⟩)) (oi := { dst := some 33, op := Go.Op.nilCheck (Go.Operand.tmp 32), type := 0, pos := "rope.go:83", after := #[{ on := 0, ground := Go.Ground.data }], guard := none }) rfl rfl (by kernel_rfl) (by kernel_rfl) (by kernel_rfl) (by kernel_rfl) (fun W hW => by (kernel_rfl)) ?_
  try simp only [pa, pn, pb, pc, pd]
  refine rm_take 2 (some 34) (.pointer (some ⟨a, 0, none⟩)) (oi := { dst := some 34, op := Go.Op.fieldAddr 115 (Go.Operand.tmp 33) 0, type := 0, pos := "rope.go:83", after := #[{ on := 1, ground := Go.Ground.data }], guard := none }) rfl rfl (by kernel_rfl) (by kernel_rfl) (by kernel_rfl) (by kernel_rfl) (fun W hW => by (kernel_rfl)) ?_
  try simp only [pa, pn, pb, pc, pd]
  refine rm_take 3 (some 35) (vp) (oi := { dst := some 35, op := Go.Op.load 108 (Go.Operand.tmp 34), type := 108, pos := "rope.go:83", after := #[{ on := 2, ground := Go.Ground.data }], guard := none }) rfl rfl (by kernel_rfl) (by kernel_rfl) (by kernel_rfl) (by kernel_rfl) (fun W hW => by (exact ld1 108 _ rfl a 0 rfl (fun _ => by kernel_rfl) _ ((hb.later hW).cell 0))) ?_
  try simp only [pa, pn, pb, pc, pd]
  refine rm_take 4 (some 36) (.pointer (some ⟨a, 0, none⟩)) (oi := { dst := some 36, op := Go.Op.move (Go.Operand.tmp 6), type := 111, pos := "rope.go:83", after := #[], guard := none }) rfl rfl (by kernel_rfl) (by kernel_rfl) (by kernel_rfl) (by kernel_rfl) (fun W hW => by (kernel_rfl)) ?_
  try simp only [pa, pn, pb, pc, pd]
  refine rm_take 5 (some 37) (.pointer (some ⟨a, 0, none⟩)) (oi := { dst := some 37, op := Go.Op.nilCheck (Go.Operand.tmp 36), type := 0, pos := "rope.go:83", after := #[{ on := 4, ground := Go.Ground.data }], guard := none }) rfl rfl (by kernel_rfl) (by kernel_rfl) (by kernel_rfl) (by kernel_rfl) (fun W hW => by (kernel_rfl)) ?_
  try simp only [pa, pn, pb, pc, pd]
  refine rm_take 6 (some 38) (.pointer (some ⟨a, 1, none⟩)) (oi := { dst := some 38, op := Go.Op.fieldAddr 115 (Go.Operand.tmp 37) 1, type := 0, pos := "rope.go:83", after := #[{ on := 5, ground := Go.Ground.data }], guard := none }) rfl rfl (by kernel_rfl) (by kernel_rfl) (by kernel_rfl) (by kernel_rfl) (fun W hW => by (kernel_rfl)) ?_
  try simp only [pa, pn, pb, pc, pd]
  refine rm_take 7 (some 39) (vq) (oi := { dst := some 39, op := Go.Op.load 108 (Go.Operand.tmp 38), type := 108, pos := "rope.go:83", after := #[{ on := 6, ground := Go.Ground.data }], guard := none }) rfl rfl (by kernel_rfl) (by kernel_rfl) (by kernel_rfl) (by kernel_rfl) (fun W hW => by (exact ld1 108 _ rfl a 1 rfl (fun _ => by kernel_rfl) _ ((hb.later hW).cell 1))) ?_
  try simp only [pa, pn, pb, pc, pd]
  refine rm_take 8 (some 40) (.iface t2 z2) (oi := { dst := some 40, op := Go.Op.move (Go.Operand.tmp 1), type := 108, pos := "rope.go:83", after := #[], guard := none }) rfl rfl (by kernel_rfl) (by kernel_rfl) (by kernel_rfl) (by kernel_rfl) (fun W hW => by (kernel_rfl)) ?_
  try simp only [pa, pn, pb, pc, pd]
  refine rm_pick1 (i := 9) (by kernel_rfl) ?_
  refine rm_callx (some 41) 83 #[vq, .iface t2 z2] (oi := { dst := some 41, op := Go.Op.call { callee := Go.Callee.value (Go.Operand.func 83), args := #[Go.Operand.tmp 39, Go.Operand.tmp 40], argTypes := #[108, 108] }, type := 108, pos := "rope.go:83", after := #[{ on := 7, ground := Go.Ground.data }, { on := 8, ground := Go.Ground.data }], guard := none }) rfl rfl (by kernel_rfl) (fun W hW => by kernel_rfl) (fun W hlz hW => IH.out _ _ (hT.later (show Ltr w8 W from hW)) (hq.later (show Ltr w8 W from hW)) (hy.later (show Ltr w8 W from hW))) (by rintro W e w' ⟨v1, rfl, hL13, s1, hv1, k1, k2, k3, k4⟩; exact hL13) (fun _ _ h k => Ltr.trans h k) ?_
  rintro q13 e w13 hq13 hQ13 ⟨v1, rfl, hL13, s1, hv1, k1, k2, k3, k4⟩ hS13
  refine ⟨_, rfl, ?_⟩
  have hz13 := hL13.size
  have hy13 := hq13.size
  try simp only [pa, pn, pb, pc, pd]
  refine rm_pick1 (i := 10) (by kernel_rfl) ?_
  refine rm_callx (some 42) 105 #[vp, v1] (oi := { dst := some 42, op := Go.Op.call { callee := Go.Callee.value (Go.Operand.func 105), args := #[Go.Operand.tmp 35, Go.Operand.tmp 41], argTypes := #[108, 108] }, type := 108, pos := "rope.go:83", after := #[{ on := 3, ground := Go.Ground.data }, { on := 9, ground := Go.Ground.data }, { on := 9, ground := Go.Ground.chain }], guard := none }) rfl rfl (by kernel_rfl) (fun W hW => by kernel_rfl) (fun W hlz hW => level_any p s1 vp v1 _ (hT.later (show Ltr w8 W from hW)) (hp.later (show Ltr w8 W from hW)) (hv1.later hlz) op k1 (by rw [k2, List.length_append]; omega) (by omega) (by omega)) (by rintro W e w' ⟨v, rfl, hL14, s2, hv, m1, m2, m3, m4, m5⟩; exact hL14) (fun _ _ h k => Ltr.trans h k) ?_
  rintro q14 e w14 hq14 hQ14 ⟨v, rfl, hL14, s2, hv, m1, m2, m3, m4, m5⟩ hS14
  refine ⟨_, rfl, ?_⟩
  replace hv1 := (hv1.later hq14).later hL14
  have hz14 := hL14.size
  have hy14 := hq14.size
  try simp only [pa, pn, pb, pc, pd]
  refine rm_take 11 (some 4) (v) (oi := { dst := some 4, op := Go.Op.assign (Go.Operand.tmp 42), type := 108, pos := "rope.go:83", after := #[{ on := 10, ground := Go.Ground.data }, { on := 10, ground := Go.Ground.chain }, { on := 0, ground := Go.Ground.phase }, { on := 1, ground := Go.Ground.phase }, { on := 2, ground := Go.Ground.phase }, { on := 3, ground := Go.Ground.phase }, { on := 4, ground := Go.Ground.phase }, { on := 5, ground := Go.Ground.phase }, { on := 6, ground := Go.Ground.phase }, { on := 7, ground := Go.Ground.phase }, { on := 8, ground := Go.Ground.phase }, { on := 9, ground := Go.Ground.phase }, { on := 10, ground := Go.Ground.phase }], guard := none }) rfl rfl (by kernel_rfl) (by kernel_rfl) (by kernel_rfl) (by kernel_rfl) (fun W hW => by (kernel_rfl)) ?_
  try simp only [pa, pn, pb, pc, pd]
  refine rm_done (by kernel_rfl) (fun w15 hL15 hS15 => hgo.out _ _ ?_) _
  clear hgo K12
  replace hv1 := hv1.later hL15
  replace hv := hv.later hL15
  replace hT := hT.later (show Ltr w8 _ from hS15)
  replace hB := hB.later (show Ltr w8 _ from hS15)
  replace hp := hp.later (show Ltr w8 _ from hS15)
  replace hq := hq.later (show Ltr w8 _ from hS15)
  replace hy := hy.later (show Ltr w8 _ from hS15)
  replace hb := hb.later (show Ltr w8 _ from hS15)
  have hz15 := (show Ltr w8 _ from hS15).size
  have hy15 := hL15.size
  refine hKK11 _ _ ?_
  refine wp_ret ?_
  try simp only [Exit.then, Exit.inBlock]
  refine bp_ret (v := v) (res1 rfl (res_tmp (by kernel_rfl))) ?_
  exact ⟨_, rfl, hB, s2, hv, m1, by rw [m2, k2, Tr.b_fork, List.append_assoc], by omega, by omega⟩
set_option maxRecDepth 100000 in
set_option maxHeartbeats 8000000 in
theorem join_2 (x p q : Tr) (vx vy : Value) (w : World) (hT : Tabs w) (hx : Tree w x vx) (hy : Tree w (.fork p q) vy) (ox : x.ok) (oy : (Tr.fork p q).ok) (hm : x.bytes.length + p.bytes.length + q.bytes.length ≤ 200000000)
    (d1 : x.h + 2 ≤ (Tr.fork p q).h) (ih : ∀ vy w, Tabs w → Tree w x vx → Tree w p vy → Calls Tryd.prog 83 #[vx, vy] w (JoinP x p vx vy w)) :
    Calls Tryd.prog 83 #[vx, vy] w (JoinP x (.fork p q) vx vy w) := by
  have hB := Ltr.refl w
  obtain ⟨f1, x1, e1, c1⟩ := inv_height hx
  obtain ⟨f2, x2, e2, c2⟩ := inv_height hy
  have bx := Tr.h_le _ ox
  have by' := Tr.h_le _ oy
  rw [Tr.len_fork] at by'
  obtain ⟨op, oq, o1, o2⟩ := oy
  have hh := Tr.h_fork p q
  have IH := Lib.hid ih
  clear ih
  obtain ⟨a, vp, vq, rfl, hb, hp, hq⟩ := hy.fork_open
  obtain ⟨t2, z2, rfl⟩ := hx.iface
  go_enter Tryd.func83, Tryd.ntmps83
  have h4 := hT.four
  have hlt_hb := hb.lt
  refine wp_seq_k fun KK1 hKK1 => ?_
  refine rl_begin fun hgK hgo => ?_
  refine rl_take (some 4) (.nilIface) rfl (by kernel_rfl) (by kernel_rfl) ?_
  try simp only [pa, pn, pb, pc, pd]
  refine rl_nil ?_
  refine hgo.out _ _ ?_
  clear hgo hgK
  refine hKK1 _ _ ?_
  refine wp_seq_k fun KK2 hKK2 => ?_
  refine wp_block ?_
  refine wp_seq_k fun KK3 hKK3 => ?_
  refine rl_begin fun hgK hgo => ?_
  refine rl_take (some 15) (.iface t2 z2) rfl (by kernel_rfl) (by kernel_rfl) ?_
  try simp only [pa, pn, pb, pc, pd]
  refine rl_take (some 16) (.bool false) rfl (by kernel_rfl) (by kernel_rfl) ?_
  try simp only [pa, pn, pb, pc, pd]
  refine rl_take (some 14) (.bool false) rfl (by kernel_rfl) (by kernel_rfl) ?_
  try simp only [pa, pn, pb, pc, pd]
  refine rl_nil ?_
  refine hgo.out _ _ ?_
  clear hgo hgK
  refine hKK3 _ _ ?_
  refine wp_cond_false (by kernel_rfl) ?_
  refine wp_seq_k fun KK4 hKK4 => ?_
  refine rl_begin fun hgK hgo => ?_
  refine rl_take (some 19) (.iface 111 (.pointer (some ⟨a, 0, none⟩))) rfl (by kernel_rfl) (by kernel_rfl) ?_
  try simp only [pa, pn, pb, pc, pd]
  refine rl_take (some 20) (.bool false) rfl (by kernel_rfl) (by kernel_rfl) ?_
  try simp only [pa, pn, pb, pc, pd]
  refine rl_take (some 18) (.bool false) rfl (by kernel_rfl) (by kernel_rfl) ?_
  try simp only [pa, pn, pb, pc, pd]
  refine rl_nil ?_
  refine hgo.out _ _ ?_
  clear hgo hgK
  refine hKK4 _ _ ?_
  refine wp_cond_false (by kernel_rfl) ?_
  refine wp_skip ?_
  refine hKK2 _ _ ?_
  refine wp_seq_k fun KK5 hKK5 => ?_
  refine wp_seq_k fun KK6 hKK6 => ?_
  refine rl_begin fun hgK hgo => ?_
  refine rl_take (some 22) (.iface t2 z2) rfl (by kernel_rfl) (by kernel_rfl) ?_
  try simp only [pa, pn, pb, pc, pd]
  refine rl_call (some 23) f1 #[x1] rfl (by kernel_rfl) (by exact e1 _ _ _ _ rfl rfl) (c1 _ hB) ?_
  rintro e w7 ⟨rfl, hL7⟩
  refine ⟨_, rfl, ?_⟩
  replace hT := hT.later hL7
  replace hB := hB.later hL7
  replace hp := hp.later hL7
  replace hq := hq.later hL7
  replace hx := hx.later hL7
  replace hb := hb.later hL7
  have hz7 := hL7.size
  try simp only [pa, pn, pb, pc, pd]
  refine rl_take (some 24) (.iface 111 (.pointer (some ⟨a, 0, none⟩))) rfl (by kernel_rfl) (by kernel_rfl) ?_
  try simp only [pa, pn, pb, pc, pd]
  refine rl_call (some 25) f2 #[x2] rfl (by kernel_rfl) (by exact e2 _ _ _ _ rfl rfl) (c2 _ hB) ?_
  rintro e w8 ⟨rfl, hL8⟩
  refine ⟨_, rfl, ?_⟩
  replace hT := hT.later hL8
  replace hB := hB.later hL8
  replace hp := hp.later hL8
  replace hq := hq.later hL8
  replace hx := hx.later hL8
  replace hb := hb.later hL8
  have hz8 := hL8.size
  try simp only [pa, pn, pb, pc, pd]
  refine rl_take (some 26) (.int .i64 (((x.h : Int) : Int) - ((Tr.fork p q).h : Int))) rfl (by kernel_rfl) (by exact ex_arith (e := ((x.h : Int) : Int) - ((Tr.fork p q).h : Int)) (r := ((x.h : Int) : Int) - ((Tr.fork p q).h : Int)) (by kernel_rfl) (by omega) (by omega)) ?_
  try simp only [pa, pn, pb, pc, pd]
  refine rl_take (some 5) (.int .i64 (((x.h : Int) : Int) - ((Tr.fork p q).h : Int))) rfl (by kernel_rfl) (by kernel_rfl) ?_
  try simp only [pa, pn, pb, pc, pd]
  refine rl_nil ?_
  refine hgo.out _ _ ?_
  clear hgo hgK
  refine hKK6 _ _ ?_
  refine wp_block ?_
  refine wp_seq_k fun KK9 hKK9 => ?_
  refine rl_begin fun hgK hgo => ?_
  refine rl_take (some 28) (.int .i64 (((x.h : Int) : Int) - ((Tr.fork p q).h : Int))) rfl (by kernel_rfl) (by kernel_rfl) ?_
  try simp only [pa, pn, pb, pc, pd]
  refine rl_take (some 29) (.bool false) rfl (by kernel_rfl) (by exact ex_bool (c := ((((x.h : Int) : Int) - ((Tr.fork p q).h : Int)) : Int) > 1) (by kernel_rfl) ⟨fun q => (by cases q), fun q => absurd q (by omega)⟩) ?_
  try simp only [pa, pn, pb, pc, pd]
  refine rl_take (some 27) (.bool false) rfl (by kernel_rfl) (by kernel_rfl) ?_
  try simp only [pa, pn, pb, pc, pd]
  refine rl_nil ?_
  refine hgo.out _ _ ?_
  clear hgo hgK
  refine hKK9 _ _ ?_
  refine wp_cond_false (by kernel_rfl) ?_
  refine wp_seq_k fun KK10 hKK10 => ?_
  refine rl_begin fun hgK hgo => ?_
  refine rl_take (some 44) (.int .i64 (((x.h : Int) : Int) - ((Tr.fork p q).h : Int))) rfl (by kernel_rfl) (by kernel_rfl) ?_
  try simp only [pa, pn, pb, pc, pd]
  refine rl_take (some 45) (.bool true) rfl (by kernel_rfl) (by exact ex_bool (c := ((((x.h : Int) : Int) - ((Tr.fork p q).h : Int)) : Int) < (-1)) (by kernel_rfl) ⟨fun _ => by omega, fun _ => rfl⟩) ?_
  try simp only [pa, pn, pb, pc, pd]
  refine rl_take (some 43) (.bool true) rfl (by kernel_rfl) (by kernel_rfl) ?_
  try simp only [pa, pn, pb, pc, pd]
  refine rl_nil ?_
  refine hgo.out _ _ ?_
  clear hgo hgK
  refine hKK10 _ _ ?_
  refine wp_cond_true (by kernel_rfl) ?_
  refine wp_seq_k fun KK11 hKK11 => ?_
  refine rl_begin fun hgK hgo => ?_
  refine rl_take (some 46) (.iface 111 (.pointer (some ⟨a, 0, none⟩))) rfl (by kernel_rfl) (by kernel_rfl) ?_
  try simp only [pa, pn, pb, pc, pd]
  refine rl_take (some 47) (.pointer (some ⟨a, 0, none⟩)) rfl (by kernel_rfl) (by kernel_rfl) ?_
  try simp only [pa, pn, pb, pc, pd]
  refine rl_take (some 7) (.pointer (some ⟨a, 0, none⟩)) rfl (by kernel_rfl) (by kernel_rfl) ?_
  try simp only [pa, pn, pb, pc, pd]
  refine rl_nil ?_
  refine hgo.out _ _ ?_
  clear hgo hgK
  refine hKK11 _ _ ?_
  refine wp_seq_k fun KK12 hKK12 => ?_
  refine rm_begin (fun W => Ltr w8 W) (by kernel_rfl) (by exact bl_drew (bl_refl _)) fun K13 hgo w13 hE hS13 => ?_
  have hv13 : Ltr w8 w13 := by rw [hE]; exact bl_drew (bl_refl _)
  have hz13 := hv13.size
  clear hE hS13
  refine rm_take 0 (some 48) (.iface t2 z2) (oi := { dst := some 48, op := Go.Op.move (Go.Operand.tmp 0), type := 108, pos := "rope.go:86", after := #[], guard := none }) rfl rfl (by kernel_rfl) (by kernel_rfl) (by kernel_rfl) (by kernel_rfl) (fun W hW => by (kernel_rfl)) ?_
  try simp only [pa, pn, pb, pc, pd]
  refine rm_take 1 (some 49) (.pointer (some ⟨a, 0, none⟩)) (oi := { dst := some 49, op := Go.Op.move (Go.Operand.tmp 7), type := 111, pos := "rope.go:86", after := #[], guard := none }) rfl rfl (by kernel_rfl) (by kernel_rfl) (by kernel_rfl) (by kernel_rfl) (fun W hW => by (kernel_rfl)) ?_
  try simp only [pa, pn, pb, pc, pd]
  refine rm_take 2 (some 50) (.pointer (some ⟨a, 0, none⟩)) (oi := { dst := some 50, op := Go.Op.nilCheck (Go.Operand.tmp 49), type := 0, pos := "rope.go:86", after := #[{ on := 1, ground := Go.Ground.data }], guard := none }) rfl rfl (by kernel_rfl) (by kernel_rfl) (by kernel_rfl) (by kernel_rfl) (fun W hW => by (kernel_rfl)) ?_
  try simp only [pa, pn, pb, pc, pd]
  refine rm_take 3 (some 51) (.pointer (some ⟨a, 0, none⟩)) (oi := { dst := some 51, op := Go.Op.fieldAddr 115 (Go.Operand.tmp 50) 0, type := 0, pos := "rope.go:86", after := #[{ on := 2, ground := Go.Ground.data }], guard := none }) rfl rfl (by kernel_rfl) (by kernel_rfl) (by kernel_rfl) (by kernel_rfl) (fun W hW => by (kernel_rfl)) ?_
  try simp only [pa, pn, pb, pc, pd]
  refine rm_take 4 (some 52) (vp) (oi := { dst := some 52, op := Go.Op.load 108 (Go.Operand.tmp 51), type := 108, pos := "rope.go:86", after := #[{ on := 3, ground := Go.Ground.data }], guard := none }) rfl rfl (by kernel_rfl) (by kernel_rfl) (by kernel_rfl) (by kernel_rfl) (fun W hW => by (exact ld1 108 _ rfl a 0 rfl (fun _ => by kernel_rfl) _ ((hb.later hW).cell 0))) ?_
  try simp only [pa, pn, pb, pc, pd]
  refine rm_take 6 (some 54) (.pointer (some ⟨a, 0, none⟩)) (oi := { dst := some 54, op := Go.Op.move (Go.Operand.tmp 7), type := 111, pos := "rope.go:86", after := #[], guard := none }) rfl rfl (by kernel_rfl) (by kernel_rfl) (by kernel_rfl) (by kernel_rfl) (fun W hW => by (kernel_rfl)) ?_
  try simp only [pa, pn, pb, pc, pd]
  refine rm_take 7 (some 55) (.pointer (some ⟨a, 0, none⟩)) (oi := { dst := some 55, op := Go.Op.nilCheck (Go.Operand.tmp 54), type := 0, pos := "rope.go:86", after := #[{ on := 6, ground := Go.Ground.data }], guard := none }) rfl rfl (by kernel_rfl) (by kernel_rfl) (by kernel_rfl) (by kernel_rfl) (fun W hW => by (kernel_rfl)) ?_
  try simp only [pa, pn, pb, pc, pd]
  refine rm_take 8 (some 56) (.pointer (some ⟨a, 1, none⟩)) (oi := { dst := some 56, op := Go.Op.fieldAddr 115 (Go.Operand.tmp 55) 1, type := 0, pos := "rope.go:86", after := #[{ on := 7, ground := Go.Ground.data }], guard := none }) rfl rfl (by kernel_rfl) (by kernel_rfl) (by kernel_rfl) (by kernel_rfl) (fun W hW => by (kernel_rfl)) ?_
  try simp only [pa, pn, pb, pc, pd]
  refine rm_take 9 (some 57) (vq) (oi := { dst := some 57, op := Go.Op.load 108 (Go.Operand.tmp 56), type := 108, pos := "rope.go:86", after := #[{ on := 8, ground := Go.Ground.data }], guard := none }) rfl rfl (by kernel_rfl) (by kernel_rfl) (by kernel_rfl) (by kernel_rfl) (fun W hW => by (exact ld1 108 _ rfl a 1 rfl (fun _ => by kernel_rfl) _ ((hb.later hW).cell 1))) ?_
  try simp only [pa, pn, pb, pc, pd]
  refine rm_pick1 (i := 5) (by kernel_rfl) ?_
  refine rm_callx (some 53) 83 #[.iface t2 z2, vp] (oi := { dst := some 53, op := Go.Op.call { callee := Go.Callee.value (Go.Operand.func 83), args := #[Go.Operand.tmp 48, Go.Operand.tmp 52], argTypes := #[108, 108] }, type := 108, pos := "rope.go:86", after := #[{ on := 0, ground := Go.Ground.data }, { on := 4, ground := Go.Ground.data }], guard := none }) rfl rfl (by kernel_rfl) (fun W hW => by kernel_rfl) (fun W hlz hW => IH.out _ _ (hT.later (show Ltr w8 W from hW)) (hx.later (show Ltr w8 W from hW)) (hp.later (show Ltr w8 W from hW))) (by rintro W e w' ⟨v1, rfl, hL14, s1, hv1, k1, k2, k3, k4⟩; exact hL14) (fun _ _ h k => Ltr.trans h k) ?_
  rintro q14 e w14 hq14 hQ14 ⟨v1, rfl, hL14, s1, hv1, k1, k2, k3, k4⟩ hS14
  refine ⟨_, rfl, ?_⟩
  have hz14 := hL14.size
  have hy14 := hq14.size
  try simp only [pa, pn, pb, pc, pd]
  refine rm_pick1 (i := 10) (by kernel_rfl) ?_
  refine rm_callx (some 58) 105 #[v1, vq] (oi := { dst := some 58, op := Go.Op.call { callee := Go.Callee.value (Go.Operand.func 105), args := #[Go.Operand.tmp 53, Go.Operand.tmp 57], argTypes := #[108, 108] }, type := 108, pos := "rope.go:86", after := #[{ on := 5, ground := Go.Ground.data }, { on := 9, ground := Go.Ground.data }, { on := 5, ground := Go.Ground.chain }], guard := none }) rfl rfl (by kernel_rfl) (fun W hW => by kernel_rfl) (fun W hlz hW => level_any s1 q v1 vq _ (hT.later (show Ltr w8 W from hW)) (hv1.later hlz) (hq.later (show Ltr w8 W from hW)) k1 oq (by rw [k2, List.length_append]; omega) (by omega) (by omega)) (by rintro W e w' ⟨v, rfl, hL15, s2, hv, m1, m2, m3, m4, m5⟩; exact hL15) (fun _ _ h k => Ltr.trans h k) ?_
  rintro q15 e w15 hq15 hQ15 ⟨v, rfl, hL15, s2, hv, m1, m2, m3, m4, m5⟩ hS15
  refine ⟨_, rfl, ?_⟩
  replace hv1 := (hv1.later hq15).later hL15
  have hz15 := hL15.size
  have hy15 := hq15.size
  try simp only [pa, pn, pb, pc, pd]
  refine rm_take 11 (some 4) (v) (oi := { dst := some 4, op := Go.Op.assign (Go.Operand.tmp 58), type := 108, pos := "rope.go:86", after := #[{ on := 10, ground := Go.Ground.data }, { on := 10, ground := Go.Ground.chain }, { on := 0, ground := Go.Ground.phase }, { on := 1, ground := Go.Ground.phase }, { on := 2, ground := Go.Ground.phase }, { on := 3, ground := Go.Ground.phase }, { on := 4, ground := Go.Ground.phase }, { on := 5, ground := Go.Ground.phase }, { on := 6, ground := Go.Ground.phase }, { on := 7, ground := Go.Ground.phase }, { on := 8, ground := Go.Ground.phase }, { on := 9, ground := Go.Ground.phase }, { on := 10, ground := Go.Ground.phase }], guard := none }) rfl rfl (by kernel_rfl) (by kernel_rfl) (by kernel_rfl) (by kernel_rfl) (fun W hW => by (kernel_rfl)) ?_
  try simp only [pa, pn, pb, pc, pd]
  refine rm_done (by kernel_rfl) (fun w16 hL16 hS16 => hgo.out _ _ ?_) _
  clear hgo K13
  replace hv1 := hv1.later hL16
  replace hv := hv.later hL16
  replace hT := hT.later (show Ltr w8 _ from hS16)
  replace hB := hB.later (show Ltr w8 _ from hS16)
  replace hp := hp.later (show Ltr w8 _ from hS16)
  replace hq := hq.later (show Ltr w8 _ from hS16)
  replace hx := hx.later (show Ltr w8 _ from hS16)
  replace hb := hb.later (show Ltr w8 _ from hS16)
  have hz16 := (show Ltr w8 _ from hS16).size
  have hy16 := hL16.size
  refine hKK12 _ _ ?_
  refine wp_ret ?_
  try simp only [Exit.then, Exit.inBlock]
  refine bp_ret (v := v) (res1 rfl (res_tmp (by kernel_rfl))) ?_
  exact ⟨_, rfl, hB, s2, hv, m1, by rw [m2, k2, Tr.b_fork, List.append_assoc], by omega, by omega⟩
set_option maxRecDepth 100000 in
set_option maxHeartbeats 8000000 in
theorem join_tips (l m : List UInt8) (vx vy : Value) (w : World) (hT : Tabs w) (hx : Tree w (.tip l) vx) (hy : Tree w (.tip m) vy) (ox : (Tr.tip l).ok) (oy : (Tr.tip m).ok) (hm : l.length + m.length ≤ 200000000) :
    Calls Tryd.prog 83 #[vx, vy] w (JoinP (.tip l) (.tip m) vx vy w) := by
  have hB := Ltr.refl w
  have nx := hx.n
  have ny := hy.n
  obtain ⟨a, rfl, ha⟩ := hx.tip_open
  obtain ⟨b, rfl, hb⟩ := hy.tip_open
  clear hx hy
  have la := Blk.lt ha
  have lb := Blk.lt hb
  obtain ⟨o1, o2⟩ := ox
  obtain ⟨o3, o4⟩ := oy
  go_enter Tryd.func83, Tryd.ntmps83
  have h4 := hT.four
  refine wp_seq_k fun KK1 hKK1 => ?_
  refine rl_begin fun hgK hgo => ?_
  refine rl_take (some 4) (.nilIface) rfl (by kernel_rfl) (by kernel_rfl) ?_
  try simp only [pa, pn, pb, pc, pd]
  refine rl_nil ?_
  refine hgo.out _ _ ?_
  clear hgo hgK
  refine hKK1 _ _ ?_
  refine wp_seq_k fun KK2 hKK2 => ?_
  refine wp_block ?_
  refine wp_seq_k fun KK3 hKK3 => ?_
  refine rl_begin fun hgK hgo => ?_
  refine rl_take (some 15) (.iface 118 (.agg #[.pointer (some ⟨a, 0, none⟩)])) rfl (by kernel_rfl) (by kernel_rfl) ?_
  try simp only [pa, pn, pb, pc, pd]
  refine rl_take (some 16) (.bool false) rfl (by kernel_rfl) (by kernel_rfl) ?_
  try simp only [pa, pn, pb, pc, pd]
  refine rl_take (some 14) (.bool false) rfl (by kernel_rfl) (by kernel_rfl) ?_
  try simp only [pa, pn, pb, pc, pd]
  refine rl_nil ?_
  refine hgo.out _ _ ?_
  clear hgo hgK
  refine hKK3 _ _ ?_
  refine wp_cond_false (by kernel_rfl) ?_
  refine wp_seq_k fun KK4 hKK4 => ?_
  refine rl_begin fun hgK hgo => ?_
  refine rl_take (some 19) (.iface 118 (.agg #[.pointer (some ⟨b, 0, none⟩)])) rfl (by kernel_rfl) (by kernel_rfl) ?_
  try simp only [pa, pn, pb, pc, pd]
  refine rl_take (some 20) (.bool false) rfl (by kernel_rfl) (by kernel_rfl) ?_
  try simp only [pa, pn, pb, pc, pd]
  refine rl_take (some 18) (.bool false) rfl (by kernel_rfl) (by kernel_rfl) ?_
  try simp only [pa, pn, pb, pc, pd]
  refine rl_nil ?_
  refine hgo.out _ _ ?_
  clear hgo hgK
  refine hKK4 _ _ ?_
  refine wp_cond_false (by kernel_rfl) ?_
  refine wp_skip ?_
  refine hKK2 _ _ ?_
  refine wp_seq_k fun KK5 hKK5 => ?_
  refine wp_seq_k fun KK6 hKK6 => ?_
  refine rl_begin fun hgK hgo => ?_
  refine rl_take (some 22) (.iface 118 (.agg #[.pointer (some ⟨a, 0, none⟩)])) rfl (by kernel_rfl) (by kernel_rfl) ?_
  try simp only [pa, pn, pb, pc, pd]
  refine rl_call (some 23) 160 #[(.agg #[.pointer (some ⟨a, 0, none⟩)])] rfl (by kernel_rfl) (by kernel_rfl) (theight_any _ _) ?_
  rintro e w7 ⟨rfl, hL7⟩
  refine ⟨_, rfl, ?_⟩
  replace hT := hT.later hL7
  replace hB := hB.later hL7
  replace ha := ha.later hL7
  replace hb := hb.later hL7
  replace nx := nx.later hL7
  replace ny := ny.later hL7
  have hz7 := hL7.size
  try simp only [pa, pn, pb, pc, pd]
  refine rl_take (some 24) (.iface 118 (.agg #[.pointer (some ⟨b, 0, none⟩)])) rfl (by kernel_rfl) (by kernel_rfl) ?_
  try simp only [pa, pn, pb, pc, pd]
  refine rl_call (some 25) 160 #[(.agg #[.pointer (some ⟨b, 0, none⟩)])] rfl (by kernel_rfl) (by kernel_rfl) (theight_any _ _) ?_
  rintro e w8 ⟨rfl, hL8⟩
  refine ⟨_, rfl, ?_⟩
  replace hT := hT.later hL8
  replace hB := hB.later hL8
  replace ha := ha.later hL8
  replace hb := hb.later hL8
  replace nx := nx.later hL8
  replace ny := ny.later hL8
  have hz8 := hL8.size
  try simp only [pa, pn, pb, pc, pd]
  refine rl_take (some 26) (.int .i64 ((1 : Int) - 1)) rfl (by kernel_rfl) (by exact ex_arith (e := (1 : Int) - 1) (r := (1 : Int) - 1) (by kernel_rfl) (by omega) (by omega)) ?_
  try simp only [pa, pn, pb, pc, pd]
  refine rl_take (some 5) (.int .i64 ((1 : Int) - 1)) rfl (by kernel_rfl) (by kernel_rfl) ?_
  try simp only [pa, pn, pb, pc, pd]
  refine rl_nil ?_
  refine hgo.out _ _ ?_
  clear hgo hgK
  refine hKK6 _ _ ?_
  refine wp_block ?_
  refine wp_seq_k fun KK9 hKK9 => ?_
  refine rl_begin fun hgK hgo => ?_
  refine rl_take (some 28) (.int .i64 ((1 : Int) - 1)) rfl (by kernel_rfl) (by kernel_rfl) ?_
  try simp only [pa, pn, pb, pc, pd]
  refine rl_take (some 29) (.bool false) rfl (by kernel_rfl) (by exact ex_bool (c := (((1 : Int) - 1) : Int) > 1) (by kernel_rfl) ⟨fun q => (by cases q), fun q => absurd q (by omega)⟩) ?_
  try simp only [pa, pn, pb, pc, pd]
  refine rl_take (some 27) (.bool false) rfl (by kernel_rfl) (by kernel_rfl) ?_
  try simp only [pa, pn, pb, pc, pd]
  refine rl_nil ?_
  refine hgo.out _ _ ?_
  clear hgo hgK
  refine hKK9 _ _ ?_
  refine wp_cond_false (by kernel_rfl) ?_
  refine wp_seq_k fun KK10 hKK10 => ?_
  refine rl_begin fun hgK hgo => ?_
  refine rl_take (some 44) (.int .i64 ((1 : Int) - 1)) rfl (by kernel_rfl) (by kernel_rfl) ?_
  try simp only [pa, pn, pb, pc, pd]
  refine rl_take (some 45) (.bool false) rfl (by kernel_rfl) (by exact ex_bool (c := (((1 : Int) - 1) : Int) < (-1)) (by kernel_rfl) ⟨fun q => (by cases q), fun q => absurd q (by omega)⟩) ?_
  try simp only [pa, pn, pb, pc, pd]
  refine rl_take (some 43) (.bool false) rfl (by kernel_rfl) (by kernel_rfl) ?_
  try simp only [pa, pn, pb, pc, pd]
  refine rl_nil ?_
  refine hgo.out _ _ ?_
  clear hgo hgK
  refine hKK10 _ _ ?_
  refine wp_cond_false (by kernel_rfl) ?_
  refine wp_skip ?_
  refine hKK5 _ _ ?_
  refine wp_seq_k fun KK11 hKK11 => ?_
  refine rl_begin fun hgK hgo => ?_
  refine rl_take (some 60) (.iface 118 (.agg #[.pointer (some ⟨a, 0, none⟩)])) rfl (by kernel_rfl) (by kernel_rfl) ?_
  try simp only [pa, pn, pb, pc, pd]
  refine rl_take (some 61) (.tuple #[.agg #[.pointer (some ⟨a, 0, none⟩)], .bool true]) rfl (by kernel_rfl) (by kernel_rfl) ?_
  try simp only [pa, pn, pb, pc, pd]
  refine rl_take (some 59) (.tuple #[.agg #[.pointer (some ⟨a, 0, none⟩)], .bool true]) rfl (by kernel_rfl) (by kernel_rfl) ?_
  try simp only [pa, pn, pb, pc, pd]
  refine rl_take (some 62) (.agg #[.pointer (some ⟨a, 0, none⟩)]) rfl (by kernel_rfl) (by kernel_rfl) ?_
  try simp only [pa, pn, pb, pc, pd]
  refine rl_take (some 63) (.bool true) rfl (by kernel_rfl) (by kernel_rfl) ?_
  try simp only [pa, pn, pb, pc, pd]
  refine rl_alloc (some 8) 118 #[.pointer none] rfl (by kernel_rfl) (fun W => by kernel_rfl) fun p12 w12 hL12 hp12 hb12 => ?_
  replace hT := hT.later hL12
  replace hB := hB.later hL12
  replace ha := ha.later hL12
  replace hb := hb.later hL12
  replace nx := nx.later hL12
  replace ny := ny.later hL12
  have hz12 := hL12.size
  have hlt12 := hb12.lt
  try simp only [pa, pn, pb, pc, pd]
  refine rl_store p12 #[.pointer (some ⟨a, 0, none⟩)] rfl rfl (by kernel_rfl) rfl rfl (by kernel_rfl) hb12 rfl (by kernel_rfl) fun w13 hU13 hn13 => ?_
  have hz13 := hU13.size
  replace hT := hT.upd hU13 (by omega)
  replace hB := hB.upd hU13 (by omega)
  replace ha := ha.upd hU13 (by omega)
  replace hb := hb.upd hU13 (by omega)
  replace nx := nx.upd hU13 (by omega)
  replace ny := ny.upd hU13 (by omega)
  clear hb12
  have hb12 := hn13
  clear hn13
  try simp only [pa, pn, pb, pc, pd]
  refine rl_take (some 9) (.bool true) rfl (by kernel_rfl) (by kernel_rfl) ?_
  try simp only [pa, pn, pb, pc, pd]
  refine rl_nil ?_
  refine hgo.out _ _ ?_
  clear hgo hgK
  refine hKK11 _ _ ?_
  refine wp_seq_k fun KK14 hKK14 => ?_
  refine rl_begin fun hgK hgo => ?_
  refine rl_take (some 65) (.iface 118 (.agg #[.pointer (some ⟨b, 0, none⟩)])) rfl (by kernel_rfl) (by kernel_rfl) ?_
  try simp only [pa, pn, pb, pc, pd]
  refine rl_take (some 66) (.tuple #[.agg #[.pointer (some ⟨b, 0, none⟩)], .bool true]) rfl (by kernel_rfl) (by kernel_rfl) ?_
  try simp only [pa, pn, pb, pc, pd]
  refine rl_take (some 64) (.tuple #[.agg #[.pointer (some ⟨b, 0, none⟩)], .bool true]) rfl (by kernel_rfl) (by kernel_rfl) ?_
  try simp only [pa, pn, pb, pc, pd]
  refine rl_take (some 67) (.agg #[.pointer (some ⟨b, 0, none⟩)]) rfl (by kernel_rfl) (by kernel_rfl) ?_
  try simp only [pa, pn, pb, pc, pd]
  refine rl_take (some 68) (.bool true) rfl (by kernel_rfl) (by kernel_rfl) ?_
  try simp only [pa, pn, pb, pc, pd]
  refine rl_alloc (some 10) 118 #[.pointer none] rfl (by kernel_rfl) (fun W => by kernel_rfl) fun p15 w15 hL15 hp15 hb15 => ?_
  replace hT := hT.later hL15
  replace hB := hB.later hL15
  replace ha := ha.later hL15
  replace hb := hb.later hL15
  replace nx := nx.later hL15
  replace ny := ny.later hL15
  replace hb12 := hb12.later hL15
  have hz15 := hL15.size
  have hlt15 := hb15.lt
  try simp only [pa, pn, pb, pc, pd]
  refine rl_store p15 #[.pointer (some ⟨b, 0, none⟩)] rfl rfl (by kernel_rfl) rfl rfl (by kernel_rfl) hb15 rfl (by kernel_rfl) fun w16 hU16 hn16 => ?_
  have hz16 := hU16.size
  replace hT := hT.upd hU16 (by omega)
  replace hB := hB.upd hU16 (by omega)
  replace ha := ha.upd hU16 (by omega)
  replace hb := hb.upd hU16 (by omega)
  replace nx := nx.upd hU16 (by omega)
  replace ny := ny.upd hU16 (by omega)
  replace hb12 := hb12.upd hU16 (by omega)
  clear hb15
  have hb15 := hn16
  clear hn16
  try simp only [pa, pn, pb, pc, pd]
  refine rl_take (some 11) (.bool true) rfl (by kernel_rfl) (by kernel_rfl) ?_
  try simp only [pa, pn, pb, pc, pd]
  refine rl_nil ?_
  refine hgo.out _ _ ?_
  clear hgo hgK
  refine hKK14 _ _ ?_
  refine wp_seq_k fun KK17 hKK17 => ?_
  refine wp_seq_k fun KK18 hKK18 => ?_
  refine rl_begin fun hgK hgo => ?_
  refine rl_take (some 69) (.bool true) rfl (by kernel_rfl) (by kernel_rfl) ?_
  try simp only [pa, pn, pb, pc, pd]
  refine rl_take (some 70) (.bool true) rfl (by kernel_rfl) (by kernel_rfl) ?_
  try simp only [pa, pn, pb, pc, pd]
  refine rl_take (some 71) (.bool true) rfl (by kernel_rfl) (by kernel_rfl) ?_
  try simp only [pa, pn, pb, pc, pd]
  refine rl_take (some 72) (.bool true) rfl (by kernel_rfl) (by kernel_rfl) ?_
  try simp only [pa, pn, pb, pc, pd]
  refine rl_take (some 73) (.bool true) rfl (by kernel_rfl) (by kernel_rfl) ?_
  try simp only [pa, pn, pb, pc, pd]
  refine rl_take (some 74) (.iface 118 (.agg #[.pointer (some ⟨a, 0, none⟩)])) rfl (by kernel_rfl) (by kernel_rfl) ?_
  try simp only [pa, pn, pb, pc, pd]
  refine rl_call (some 75) 161 #[(.agg #[.pointer (some ⟨a, 0, none⟩)])] rfl (by kernel_rfl) (by kernel_rfl) (tsize_any a l _ ha) ?_
  rintro e w19 ⟨rfl, hL19⟩
  refine ⟨_, rfl, ?_⟩
  replace hT := hT.later hL19
  replace hB := hB.later hL19
  replace ha := ha.later hL19
  replace hb := hb.later hL19
  replace nx := nx.later hL19
  replace ny := ny.later hL19
  replace hb12 := hb12.later hL19
  replace hb15 := hb15.later hL19
  have hz19 := hL19.size
  try simp only [pa, pn, pb, pc, pd]
  refine rl_take (some 76) (.iface 118 (.agg #[.pointer (some ⟨b, 0, none⟩)])) rfl (by kernel_rfl) (by kernel_rfl) ?_
  try simp only [pa, pn, pb, pc, pd]
  refine rl_call (some 77) 161 #[(.agg #[.pointer (some ⟨b, 0, none⟩)])] rfl (by kernel_rfl) (by kernel_rfl) (tsize_any b m _ hb) ?_
  rintro e w20 ⟨rfl, hL20⟩
  refine ⟨_, rfl, ?_⟩
  replace hT := hT.later hL20
  replace hB := hB.later hL20
  replace ha := ha.later hL20
  replace hb := hb.later hL20
  replace nx := nx.later hL20
  replace ny := ny.later hL20
  replace hb12 := hb12.later hL20
  replace hb15 := hb15.later hL20
  have hz20 := hL20.size
  try simp only [pa, pn, pb, pc, pd]
  refine rl_take (some 78) (.int .i64 ((l.length : Int) + m.length)) rfl (by kernel_rfl) (by exact ex_arith (e := (l.length : Int) + m.length) (r := (l.length : Int) + m.length) (by kernel_rfl) (by omega) (by omega)) ?_
  try simp only [pa, pn, pb, pc, pd]
  by_cases hc : l.length + m.length ≤ 4096
  · refine rl_take (some 79) (.bool true) rfl (by kernel_rfl) (by exact ex_bool (c := (((l.length : Int) + m.length) : Int) ≤ 4096) (by kernel_rfl) ⟨fun _ => by omega, fun _ => rfl⟩) ?_
    try simp only [pa, pn, pb, pc, pd]
    refine rl_take (some 80) (.bool true) rfl (by kernel_rfl) (by kernel_rfl) ?_
    try simp only [pa, pn, pb, pc, pd]
    refine rl_nil ?_
    refine hgo.out _ _ ?_
    clear hgo hgK
    refine hKK18 _ _ ?_
    refine wp_cond_true (by kernel_rfl) ?_
    refine wp_seq_k fun KK21 hKK21 => ?_
    refine rl_begin fun hgK hgo => ?_
    refine rl_take (some 82) (.pointer (some ⟨p12, 0, none⟩)) rfl (by kernel_rfl) (by kernel_rfl) ?_
    try simp only [pa, pn, pb, pc, pd]
    refine rl_take (some 83) (.pointer (some ⟨a, 0, none⟩)) rfl (by kernel_rfl) (by exact ld1 116 _ rfl p12 0 rfl (fun _ => by kernel_rfl) _ (hb12.cell 0)) ?_
    try simp only [pa, pn, pb, pc, pd]
    refine rl_take (some 84) (.pointer (some ⟨p15, 0, none⟩)) rfl (by kernel_rfl) (by kernel_rfl) ?_
    try simp only [pa, pn, pb, pc, pd]
    refine rl_take (some 85) (.pointer (some ⟨b, 0, none⟩)) rfl (by kernel_rfl) (by exact ld1 116 _ rfl p15 0 rfl (fun _ => by kernel_rfl) _ (hb15.cell 0)) ?_
    try simp only [pa, pn, pb, pc, pd]
    refine rl_call (some 86) 106 #[.pointer (some ⟨a, 0, none⟩), .pointer (some ⟨b, 0, none⟩)] rfl (by kernel_rfl) (by kernel_rfl) (LJoin_any a b l m hc _ hT ha hb) ?_
    rintro e w22 ⟨p, rfl, hL22, hp⟩
    refine ⟨_, rfl, ?_⟩
    replace hT := hT.later hL22
    replace hB := hB.later hL22
    replace ha := ha.later hL22
    replace hb := hb.later hL22
    replace nx := nx.later hL22
    replace ny := ny.later hL22
    replace hb12 := hb12.later hL22
    replace hb15 := hb15.later hL22
    have hz22 := hL22.size
    try simp only [pa, pn, pb, pc, pd]
    refine rl_take (some 81) (.tuple #[.pointer (some ⟨p, 0, none⟩), .int .i64 0]) rfl (by kernel_rfl) (by kernel_rfl) ?_
    try simp only [pa, pn, pb, pc, pd]
    refine rl_take (some 87) (.pointer (some ⟨p, 0, none⟩)) rfl (by kernel_rfl) (by kernel_rfl) ?_
    try simp only [pa, pn, pb, pc, pd]
    refine rl_take (some 88) (.int .i64 0) rfl (by kernel_rfl) (by kernel_rfl) ?_
    try simp only [pa, pn, pb, pc, pd]
    refine rl_take (some 12) (.pointer (some ⟨p, 0, none⟩)) rfl (by kernel_rfl) (by kernel_rfl) ?_
    try simp only [pa, pn, pb, pc, pd]
    refine rl_take (some 13) (.int .i64 0) rfl (by kernel_rfl) (by kernel_rfl) ?_
    try simp only [pa, pn, pb, pc, pd]
    refine rl_nil ?_
    refine hgo.out _ _ ?_
    clear hgo hgK
    refine hKK21 _ _ ?_
    refine wp_seq_k fun KK23 hKK23 => ?_
    refine rl_begin fun hgK hgo => ?_
    refine rl_take (some 89) (.int .i64 0) rfl (by kernel_rfl) (by kernel_rfl) ?_
    try simp only [pa, pn, pb, pc, pd]
    refine rl_take (some 90) (.bool true) rfl (by kernel_rfl) (by exact ex_beq (x := 0) (y := 0) (by kernel_rfl) ⟨fun _ => by omega, fun _ => rfl⟩) ?_
    try simp only [pa, pn, pb, pc, pd]
    refine rl_nil ?_
    refine hgo.out _ _ ?_
    clear hgo hgK
    refine hKK23 _ _ ?_
    refine wp_cond_true (by kernel_rfl) ?_
    refine wp_seq_k fun KK24 hKK24 => ?_
    refine rl_begin fun hgK hgo => ?_
    refine rl_take (some 91) (.pointer (some ⟨p, 0, none⟩)) rfl (by kernel_rfl) (by kernel_rfl) ?_
    try simp only [pa, pn, pb, pc, pd]
    refine rl_take (some 92) (.agg #[.pointer (some ⟨p, 0, none⟩)]) rfl (by kernel_rfl) (by kernel_rfl) ?_
    try simp only [pa, pn, pb, pc, pd]
    refine rl_take (some 93) (.iface 118 (.agg #[.pointer (some ⟨p, 0, none⟩)])) rfl (by kernel_rfl) (by kernel_rfl) ?_
    try simp only [pa, pn, pb, pc, pd]
    refine rl_take (some 4) (.iface 118 (.agg #[.pointer (some ⟨p, 0, none⟩)])) rfl (by kernel_rfl) (by kernel_rfl) ?_
    try simp only [pa, pn, pb, pc, pd]
    refine rl_nil ?_
    refine hgo.out _ _ ?_
    clear hgo hgK
    refine hKK24 _ _ ?_
    refine wp_ret ?_
    try simp only [Exit.then, Exit.inBlock]
    refine bp_ret (v := .iface 118 (.agg #[.pointer (some ⟨p, 0, none⟩)])) (res1 rfl (res_tmp (by kernel_rfl))) ?_
    exact ⟨_, rfl, hB, .tip (l ++ m), Tree.tip_mk hp, ⟨by rw [List.length_append]; omega, by rw [List.length_append]; omega⟩, rfl, by simp [Tr.h], by simp [Tr.h]⟩
  · refine rl_take (some 79) (.bool false) rfl (by kernel_rfl) (by exact ex_bool (c := (((l.length : Int) + m.length) : Int) ≤ 4096) (by kernel_rfl) ⟨fun q => (by cases q), fun q => absurd q (by omega)⟩) ?_
    try simp only [pa, pn, pb, pc, pd]
    refine rl_take (some 80) (.bool false) rfl (by kernel_rfl) (by kernel_rfl) ?_
    try simp only [pa, pn, pb, pc, pd]
    refine rl_nil ?_
    refine hgo.out _ _ ?_
    clear hgo hgK
    refine hKK18 _ _ ?_
    refine wp_cond_false (by kernel_rfl) ?_
    refine wp_skip ?_
    refine hKK17 _ _ ?_
    refine wp_seq_k fun KK25 hKK25 => ?_
    refine rl_begin fun hgK hgo => ?_
    refine rl_take (some 94) (.iface 118 (.agg #[.pointer (some ⟨a, 0, none⟩)])) rfl (by kernel_rfl) (by kernel_rfl) ?_
    try simp only [pa, pn, pb, pc, pd]
    refine rl_take (some 95) (.iface 118 (.agg #[.pointer (some ⟨b, 0, none⟩)])) rfl (by kernel_rfl) (by kernel_rfl) ?_
    try simp only [pa, pn, pb, pc, pd]
    refine rl_call (some 96) 107 #[.iface 118 (.agg #[.pointer (some ⟨a, 0, none⟩)]), .iface 118 (.agg #[.pointer (some ⟨b, 0, none⟩)])] rfl (by kernel_rfl) (by kernel_rfl) (pair_any (.tip l) (.tip m) _ _ _ hT nx.tree ny.tree (by simp only [Tr.bytes]; omega) (by simp [Tr.h]) (by simp [Tr.h])) ?_
    rintro e w26 ⟨v, rfl, hL26, hv⟩
    refine ⟨_, rfl, ?_⟩
    replace hT := hT.later hL26
    replace hB := hB.later hL26
    replace ha := ha.later hL26
    replace hb := hb.later hL26
    replace nx := nx.later hL26
    replace ny := ny.later hL26
    replace hb12 := hb12.later hL26
    replace hb15 := hb15.later hL26
    have hz26 := hL26.size
    try simp only [pa, pn, pb, pc, pd]
    refine rl_take (some 4) (v) rfl (by kernel_rfl) (by kernel_rfl) ?_
    try simp only [pa, pn, pb, pc, pd]
    refine rl_nil ?_
    refine hgo.out _ _ ?_
    clear hgo hgK
    refine hKK25 _ _ ?_
    refine wp_ret ?_
    try simp only [Exit.then, Exit.inBlock]
    refine bp_ret (v := v) (res1 rfl (res_tmp (by kernel_rfl))) ?_
    exact ⟨_, rfl, hB, .fork (.tip l) (.tip m), hv, ⟨⟨o1, o2⟩, ⟨o3, o4⟩, by simp [Tr.h], by simp [Tr.h]⟩, rfl, by simp [Tr.h], by simp [Tr.h]⟩
end Go.Proofs.YtliphfgiaioebaaDoor
