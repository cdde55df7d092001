/-
  Package rope: trees, in plain and in memory; the nodes' methods.
-/
import Derived.Test.YtliphfgiaioebaaDoorLeaf
namespace Go.Proofs.YtliphfgiaioebaaDoor
set_option linter.unusedVariables false
set_option linter.unusedSimpArgs false
open Go.RowKit

theorem ex_max2 {o : Oper} {ρ : Operand → Value} {x y : Operand} {ats : Array TypeId} {a b r : Int} {w : World} (ho : o.op = .call { callee := .builtin .max, args := #[x, y], argTypes := ats }) (hx : ρ x = .int .i64 a) (hy : ρ y = .int .i64 b) (hr : max a b = r) :
    (execOp ρ o).run Tryd.prog w = .ok (.value (.int .i64 r)) w := by
  have h : (if b > a then b else a) = r := by rw [← hr]; omega
  unfold execOp
  simp only [ho]
  subst h
  go_simp
theorem ex_min2 {o : Oper} {ρ : Operand → Value} {x y : Operand} {ats : Array TypeId} {a b r : Int} {w : World} (ho : o.op = .call { callee := .builtin .min, args := #[x, y], argTypes := ats }) (hx : ρ x = .int .i64 a) (hy : ρ y = .int .i64 b) (hr : min a b = r) :
    (execOp ρ o).run Tryd.prog w = .ok (.value (.int .i64 r)) w := by
  have h : (if b < a then b else a) = r := by rw [← hr]; omega
  unfold execOp
  simp only [ho]
  subst h
  go_simp

/-! ### trees -/
inductive Tr where
  | tip (l : List UInt8) : Tr
  | fork (x y : Tr) : Tr
namespace Tr
def bytes : Tr → List UInt8
  | tip l => l
  | fork x y => x.bytes ++ y.bytes
def h : Tr → Nat
  | tip _ => 1
  | fork x y => 1 + max x.h y.h
def ok : Tr → Prop
  | tip l => 0 < l.length ∧ l.length ≤ 4096
  | fork x y => x.ok ∧ y.ok ∧ x.h ≤ y.h + 1 ∧ y.h ≤ x.h + 1
theorem h_pos : ∀ t : Tr, 1 ≤ t.h
  | tip _ => Nat.le_refl _
  | fork x y => by simp only [h]; omega
theorem len_pos : ∀ t : Tr, t.ok → 0 < t.bytes.length
  | tip l, h => h.1
  | fork x y, h => by have := len_pos x h.1; simp only [bytes, List.length_append]; omega
theorem h_le : ∀ t : Tr, t.ok → t.h ≤ t.bytes.length
  | tip l, h => h.1
  | fork x y, h => by
    have h1 := h_le x h.1; have h2 := h_le y h.2.1
    have h3 := len_pos x h.1; have h4 := len_pos y h.2.1
    simp only [Tr.h, bytes, List.length_append]; omega
end Tr
/-- a tree in memory, its blocks below n -/
def TreeIn (n : Nat) (w : World) : Tr → Value → Prop
  | .tip l, v => ∃ b, v = .iface 118 (.agg #[.pointer (some ⟨b, 0, none⟩)]) ∧ b < n ∧ LeafAt w b l
  | .fork x y, v => ∃ b vx vy, v = .iface 111 (.pointer (some ⟨b, 0, none⟩)) ∧ b < n ∧
      Blk w b 115 #[vx, vy, .int .i64 (x.bytes ++ y.bytes).length, .int .i64 ((1 + max x.h y.h : Nat) : Int), .int .i64 (x.bytes ++ y.bytes).length, .int .i64 (runesN (x.bytes ++ y.bytes)), .int .i64 (unitsN (x.bytes ++ y.bytes)), .int .i64 (endsN (x.bytes ++ y.bytes)), .string (bs (headOf (x.bytes ++ y.bytes))), .string (bs (tailOf (x.bytes ++ y.bytes)))] ∧ TreeIn n w x vx ∧ TreeIn n w y vy
theorem TreeIn.below {n m : Nat} {w w' : World} (hm : n ≤ m) (hb : Below n w w') : ∀ {t : Tr} {v : Value}, TreeIn n w t v → TreeIn m w' t v
  | .tip l, v, ⟨b, e, h1, h2⟩ => ⟨b, e, by omega, h2.belowN hb h1⟩
  | .fork x y, v, ⟨b, vx, vy, e, h1, h2, h3, h4⟩ => ⟨b, vx, vy, e, by omega, h2.belowN hb h1, h3.below hm hb, h4.below hm hb⟩
theorem TreeIn.upd {n g : Nat} {w w' : World} (hu : Upd g w w') (hg : n ≤ g) : ∀ {t : Tr} {v : Value}, TreeIn n w t v → TreeIn n w' t v
  | .tip l, v, ⟨b, e, h1, h2⟩ => ⟨b, e, h1, Blk.upd h2 hu (by omega)⟩
  | .fork x y, v, ⟨b, vx, vy, e, h1, h2, h3, h4⟩ => ⟨b, vx, vy, e, h1, Blk.upd h2 hu (by omega), h3.upd hu hg, h4.upd hu hg⟩
theorem TreeIn.iface {n : Nat} {w : World} : ∀ {t : Tr} {v : Value}, TreeIn n w t v → ∃ ty x, v = .iface ty x
  | .tip l, v, ⟨b, e, _⟩ => ⟨_, _, e⟩
  | .fork x y, v, ⟨b, vx, vy, e, _⟩ => ⟨_, _, e⟩
def Tree (w : World) (t : Tr) (v : Value) : Prop := TreeIn w.heap.size w t v
theorem Tree.later {w w' : World} {t : Tr} {v : Value} (h : Tree w t v) (hl : Ltr w w') : Tree w' t v := TreeIn.below hl.size hl h
theorem Tree.upd {w w' : World} {g : Nat} {t : Tr} {v : Value} {n : Nat} (h : TreeIn n w t v) (hu : Upd g w w') (hg : n ≤ g) : TreeIn n w' t v := h.upd hu hg
theorem TreeIn.later {n : Nat} {w w' : World} {t : Tr} {v : Value} (h : TreeIn n w t v) (hl : Ltr w w') (hn : n ≤ w.heap.size) : TreeIn n w' t v := h.below (Nat.le_refl _) (Below.mono hl hn)
theorem TreeIn.tree {n : Nat} {w : World} {t : Tr} {v : Value} (h : TreeIn n w t v) (hn : n ≤ w.heap.size) : Tree w t v := TreeIn.below hn (Below.refl _ _) h
theorem Tree.iface {w : World} {t : Tr} {v : Value} (h : Tree w t v) : ∃ ty x, v = .iface ty x := TreeIn.iface h
theorem Tree.fork_open {w : World} {x y : Tr} {v : Value} (h : Tree w (.fork x y) v) : ∃ b vx vy, v = .iface 111 (.pointer (some ⟨b, 0, none⟩)) ∧
    Blk w b 115 #[vx, vy, .int .i64 (x.bytes ++ y.bytes).length, .int .i64 ((1 + max x.h y.h : Nat) : Int), .int .i64 (x.bytes ++ y.bytes).length, .int .i64 (runesN (x.bytes ++ y.bytes)), .int .i64 (unitsN (x.bytes ++ y.bytes)), .int .i64 (endsN (x.bytes ++ y.bytes)), .string (bs (headOf (x.bytes ++ y.bytes))), .string (bs (tailOf (x.bytes ++ y.bytes)))] ∧ Tree w x vx ∧ Tree w y vy :=
  let ⟨b, vx, vy, e, _, h2, h3, h4⟩ := h; ⟨b, vx, vy, e, h2, h3, h4⟩
theorem Tree.tip_open {w : World} {l : List UInt8} {v : Value} (h : Tree w (.tip l) v) : ∃ b, v = .iface 118 (.agg #[.pointer (some ⟨b, 0, none⟩)]) ∧ LeafAt w b l :=
  let ⟨b, e, _, h2⟩ := h; ⟨b, e, h2⟩
theorem Tree.tip_mk {w : World} {l : List UInt8} {b : Nat} (h : LeafAt w b l) : Tree w (.tip l) (.iface 118 (.agg #[.pointer (some ⟨b, 0, none⟩)])) := ⟨b, rfl, Blk.lt h, h⟩
theorem Tree.fork_mk {w : World} {x y : Tr} {b : Nat} {vx vy : Value} (h : Blk w b 115 #[vx, vy, .int .i64 (x.bytes ++ y.bytes).length, .int .i64 ((1 + max x.h y.h : Nat) : Int), .int .i64 (x.bytes ++ y.bytes).length, .int .i64 (runesN (x.bytes ++ y.bytes)), .int .i64 (unitsN (x.bytes ++ y.bytes)), .int .i64 (endsN (x.bytes ++ y.bytes)), .string (bs (headOf (x.bytes ++ y.bytes))), .string (bs (tailOf (x.bytes ++ y.bytes)))])
    (hx : Tree w x vx) (hy : Tree w y vy) : Tree w (.fork x y) (.iface 111 (.pointer (some ⟨b, 0, none⟩))) := ⟨b, vx, vy, rfl, Blk.lt h, h, hx, hy⟩
/-- a node, or none -/
def Node (w : World) (l : List UInt8) (v : Value) : Prop := (l = [] ∧ v = .nilIface) ∨ ∃ t : Tr, t.ok ∧ t.bytes = l ∧ Tree w t v
theorem Node.later {w w' : World} {l : List UInt8} {v : Value} (h : Node w l v) (hl : Ltr w w') : Node w' l v := h.imp id fun ⟨t, h1, h2, h3⟩ => ⟨t, h1, h2, h3.later hl⟩

/-! ### the nodes' methods -/
set_option maxRecDepth 100000 in
theorem tsize_any (b : Nat) (l : List UInt8) (w : World) (hb : LeafAt w b l) :
    Calls Tryd.prog 161 #[.agg #[.pointer (some ⟨b, 0, none⟩)]] w fun e w' => e = .returned (.int .i64 l.length) ∧ Ltr w w' := by
  have hB := Ltr.refl w
  go_enter Tryd.func161, Tryd.ntmps161
  refine wp_seq_k fun KK1 hKK1 => ?_
  refine rl_begin fun hgK hgo => ?_
  refine rl_alloc (some 1) 118 #[.pointer (some ⟨b, 0, none⟩)] rfl (by kernel_rfl) (fun W => by kernel_rfl) fun p2 w2 hL2 hp2 hb2 => ?_
  replace hB := hB.later hL2
  replace hb := hb.later hL2
  have hz2 := hL2.size
  have hlt2 := hb2.lt
  try simp only [pa, pn, pb, pc, pd]
  refine rl_take (some 2) (.int .i64 0) rfl (by kernel_rfl) (by kernel_rfl) ?_
  try simp only [pa, pn, pb, pc, pd]
  refine rl_nil ?_
  refine hgo.out _ _ ?_
  clear hgo hgK
  refine hKK1 _ _ ?_
  refine wp_seq_k fun KK3 hKK3 => ?_
  refine rl_begin fun hgK hgo => ?_
  refine rl_take (some 3) (.pointer (some ⟨p2, 0, none⟩)) rfl (by kernel_rfl) (by kernel_rfl) ?_
  try simp only [pa, pn, pb, pc, pd]
  refine rl_take (some 4) (.pointer (some ⟨b, 0, none⟩)) rfl (by kernel_rfl) (by exact ld1 116 _ rfl p2 0 rfl (fun _ => by kernel_rfl) _ (hb2.cell 0)) ?_
  try simp only [pa, pn, pb, pc, pd]
  refine rl_call (some 5) 103 #[.pointer (some ⟨b, 0, none⟩)] rfl (by kernel_rfl) (by kernel_rfl) (LLen_any b l _ hb) ?_
  rintro e w4 ⟨rfl, hL4⟩
  refine ⟨_, rfl, ?_⟩
  replace hB := hB.later hL4
  replace hb := hb.later hL4
  replace hb2 := hb2.later hL4
  have hz4 := hL4.size
  try simp only [pa, pn, pb, pc, pd]
  refine rl_take (some 2) (.int .i64 l.length) rfl (by kernel_rfl) (by kernel_rfl) ?_
  try simp only [pa, pn, pb, pc, pd]
  refine rl_nil ?_
  refine hgo.out _ _ ?_
  clear hgo hgK
  refine hKK3 _ _ ?_
  refine wp_ret ?_
  try simp only [Exit.then, Exit.inBlock]
  refine bp_ret (v := .int .i64 l.length) (res1 rfl (res_tmp (by kernel_rfl))) ?_
  exact ⟨rfl, hB⟩
set_option maxRecDepth 100000 in
theorem tweld_any (b : Nat) (l : List UInt8) (w : World) (hb : LeafAt w b l) :
    Calls Tryd.prog 162 #[.agg #[.pointer (some ⟨b, 0, none⟩)]] w fun e w' => e = .returned (wv l) ∧ Ltr w w' := by
  have hB := Ltr.refl w
  unfold LeafAt at hb
  go_enter Tryd.func162, Tryd.ntmps162
  have hlt_hb := hb.lt
  refine wp_seq_k fun KK1 hKK1 => ?_
  refine rl_begin fun hgK hgo => ?_
  refine rl_alloc (some 1) 118 #[.pointer (some ⟨b, 0, none⟩)] rfl (by kernel_rfl) (fun W => by kernel_rfl) fun p2 w2 hL2 hp2 hb2 => ?_
  replace hB := hB.later hL2
  replace hb := hb.later hL2
  have hz2 := hL2.size
  have hlt2 := hb2.lt
  try simp only [pa, pn, pb, pc, pd]
  refine rl_alloc (some 2) 36 #[.int .i64 0, .int .i64 0, .int .i64 0, .int .i64 0, .string ⟨#[]⟩, .string ⟨#[]⟩] rfl (by kernel_rfl) (fun W => by kernel_rfl) fun p3 w3 hL3 hp3 hb3 => ?_
  replace hB := hB.later hL3
  replace hb := hb.later hL3
  replace hb2 := hb2.later hL3
  have hz3 := hL3.size
  have hlt3 := hb3.lt
  try simp only [pa, pn, pb, pc, pd]
  refine rl_nil ?_
  refine hgo.out _ _ ?_
  clear hgo hgK
  refine hKK1 _ _ ?_
  refine wp_seq_k fun KK4 hKK4 => ?_
  refine rl_begin fun hgK hgo => ?_
  refine rl_take (some 3) (.pointer (some ⟨p2, 0, none⟩)) rfl (by kernel_rfl) (by kernel_rfl) ?_
  try simp only [pa, pn, pb, pc, pd]
  refine rl_take (some 4) (.pointer (some ⟨b, 0, none⟩)) rfl (by kernel_rfl) (by exact ld1 116 _ rfl p2 0 rfl (fun _ => by kernel_rfl) _ (hb2.cell 0)) ?_
  try simp only [pa, pn, pb, pc, pd]
  refine rl_call (some 5) 163 #[.pointer (some ⟨b, 0, none⟩)] rfl (by kernel_rfl) (by kernel_rfl) (LWeld_any b l _ hb) ?_
  rintro e w5 ⟨rfl, hL5⟩
  refine ⟨_, rfl, ?_⟩
  replace hB := hB.later hL5
  replace hb := hb.later hL5
  replace hb2 := hb2.later hL5
  replace hb3 := hb3.later hL5
  have hz5 := hL5.size
  try simp only [pa, pn, pb, pc, pd]
  refine rl_store p3 #[.int .i64 l.length, .int .i64 (runesN l), .int .i64 (unitsN l), .int .i64 (endsN l), .string (bs (headOf l)), .string (bs (tailOf l))] rfl rfl (by kernel_rfl) rfl rfl (by kernel_rfl) hb3 rfl (by kernel_rfl) fun w6 hU6 hn6 => ?_
  have hz6 := hU6.size
  replace hB := hB.upd hU6 (by omega)
  replace hb := hb.upd hU6 (by omega)
  replace hb2 := hb2.upd hU6 (by omega)
  clear hb3
  have hb3 := hn6
  clear hn6
  try simp only [pa, pn, pb, pc, pd]
  refine rl_nil ?_
  refine hgo.out _ _ ?_
  clear hgo hgK
  refine hKK4 _ _ ?_
  refine wp_ret ?_
  try simp only [Exit.then, Exit.inBlock]
  refine bp_ret (v := .agg #[.int .i64 l.length, .int .i64 (runesN l), .int .i64 (unitsN l), .int .i64 (endsN l), .string (bs (headOf l)), .string (bs (tailOf l))]) (res1 rfl (res_cell (b := p3) (cs := [.int .i64 l.length, .int .i64 (runesN l), .int .i64 (unitsN l), .int .i64 (endsN l), .string (bs (headOf l)), .string (bs (tailOf l))]) (by kernel_rfl) (fun _ => by kernel_rfl) (by kernel_rfl) hb3)) ?_
  exact ⟨rfl, hB⟩

set_option maxRecDepth 100000 in
theorem theight_any (x : Option Addr) (w : World) :
    Calls Tryd.prog 160 #[.agg #[.pointer x]] w fun e w' => e = .returned (.int .i64 1) ∧ Ltr w w' := by
  have hB := Ltr.refl w
  go_enter Tryd.func160, Tryd.ntmps160
  refine wp_seq_k fun KK1 hKK1 => ?_
  refine rl_begin fun hgK hgo => ?_
  refine rl_alloc (some 1) 118 #[.pointer x] rfl (by kernel_rfl) (fun W => by kernel_rfl) fun p2 w2 hL2 hp2 hb2 => ?_
  replace hB := hB.later hL2
  have hz2 := hL2.size
  have hlt2 := hb2.lt
  try simp only [pa, pn, pb, pc, pd]
  refine rl_take (some 2) (.int .i64 0) rfl (by kernel_rfl) (by kernel_rfl) ?_
  try simp only [pa, pn, pb, pc, pd]
  refine rl_nil ?_
  refine hgo.out _ _ ?_
  clear hgo hgK
  refine hKK1 _ _ ?_
  refine wp_seq_k fun KK3 hKK3 => ?_
  refine rl_begin fun hgK hgo => ?_
  refine rl_take (some 2) (.int .i64 1) rfl (by kernel_rfl) (by kernel_rfl) ?_
  try simp only [pa, pn, pb, pc, pd]
  refine rl_nil ?_
  refine hgo.out _ _ ?_
  clear hgo hgK
  refine hKK3 _ _ ?_
  refine wp_ret ?_
  try simp only [Exit.then, Exit.inBlock]
  refine bp_ret (v := .int .i64 1) (res1 rfl (res_tmp (by kernel_rfl))) ?_
  exact ⟨rfl, hB⟩
set_option maxRecDepth 100000 in
theorem fsize_any (b : Nat) (vx vy : Value) (n h : Int) (l : List UInt8) (w : World) (hb : Blk w b 115 #[vx, vy, .int .i64 n, .int .i64 h, .int .i64 l.length, .int .i64 (runesN l), .int .i64 (unitsN l), .int .i64 (endsN l), .string (bs (headOf l)), .string (bs (tailOf l))]) :
    Calls Tryd.prog 158 #[.pointer (some ⟨b, 0, none⟩)] w fun e w' => e = .returned (.int .i64 n) ∧ Ltr w w' := by
  have hB := Ltr.refl w
  go_enter Tryd.func158, Tryd.ntmps158
  have hlt_hb := hb.lt
  refine wp_seq_k fun KK1 hKK1 => ?_
  refine rl_begin fun hgK hgo => ?_
  refine rl_take (some 2) (.int .i64 0) rfl (by kernel_rfl) (by kernel_rfl) ?_
  try simp only [pa, pn, pb, pc, pd]
  refine rl_nil ?_
  refine hgo.out _ _ ?_
  clear hgo hgK
  refine hKK1 _ _ ?_
  refine wp_seq_k fun KK2 hKK2 => ?_
  refine rl_begin fun hgK hgo => ?_
  refine rl_take (some 3) (.pointer (some ⟨b, 0, none⟩)) rfl (by kernel_rfl) (by kernel_rfl) ?_
  try simp only [pa, pn, pb, pc, pd]
  refine rl_take (some 4) (.pointer (some ⟨b, 0, none⟩)) rfl (by kernel_rfl) (by kernel_rfl) ?_
  try simp only [pa, pn, pb, pc, pd]
  refine rl_take (some 5) (.pointer (some ⟨b, 2, none⟩)) rfl (by kernel_rfl) (by kernel_rfl) ?_
  try simp only [pa, pn, pb, pc, pd]
  refine rl_take (some 6) (.int .i64 n) rfl (by kernel_rfl) (by exact ld1 3 _ rfl b 2 rfl (fun _ => by kernel_rfl) _ (hb.cell 2)) ?_
  try simp only [pa, pn, pb, pc, pd]
  refine rl_take (some 2) (.int .i64 n) rfl (by kernel_rfl) (by kernel_rfl) ?_
  try simp only [pa, pn, pb, pc, pd]
  refine rl_nil ?_
  refine hgo.out _ _ ?_
  clear hgo hgK
  refine hKK2 _ _ ?_
  refine wp_ret ?_
  try simp only [Exit.then, Exit.inBlock]
  refine bp_ret (v := .int .i64 n) (res1 rfl (res_tmp (by kernel_rfl))) ?_
  exact ⟨rfl, hB⟩
set_option maxRecDepth 100000 in
theorem fweld_any (b : Nat) (vx vy : Value) (n h : Int) (l : List UInt8) (w : World) (hb : Blk w b 115 #[vx, vy, .int .i64 n, .int .i64 h, .int .i64 l.length, .int .i64 (runesN l), .int .i64 (unitsN l), .int .i64 (endsN l), .string (bs (headOf l)), .string (bs (tailOf l))]) :
    Calls Tryd.prog 159 #[.pointer (some ⟨b, 0, none⟩)] w fun e w' => e = .returned (wv l) ∧ Ltr w w' := by
  have hB := Ltr.refl w
  go_enter Tryd.func159, Tryd.ntmps159
  have hlt_hb := hb.lt
  refine wp_seq_k fun KK1 hKK1 => ?_
  refine rl_begin fun hgK hgo => ?_
  refine rl_alloc (some 2) 36 #[.int .i64 0, .int .i64 0, .int .i64 0, .int .i64 0, .string ⟨#[]⟩, .string ⟨#[]⟩] rfl (by kernel_rfl) (fun W => by kernel_rfl) fun p2 w2 hL2 hp2 hb2 => ?_
  replace hB := hB.later hL2
  replace hb := hb.later hL2
  have hz2 := hL2.size
  have hlt2 := hb2.lt
  try simp only [pa, pn, pb, pc, pd]
  refine rl_nil ?_
  refine hgo.out _ _ ?_
  clear hgo hgK
  refine hKK1 _ _ ?_
  refine wp_seq_k fun KK3 hKK3 => ?_
  refine rl_begin fun hgK hgo => ?_
  refine rl_take (some 3) (.pointer (some ⟨b, 0, none⟩)) rfl (by kernel_rfl) (by kernel_rfl) ?_
  try simp only [pa, pn, pb, pc, pd]
  refine rl_take (some 4) (.pointer (some ⟨b, 0, none⟩)) rfl (by kernel_rfl) (by kernel_rfl) ?_
  try simp only [pa, pn, pb, pc, pd]
  refine rl_take (some 5) (.pointer (some ⟨b, 4, none⟩)) rfl (by kernel_rfl) (by kernel_rfl) ?_
  try simp only [pa, pn, pb, pc, pd]
  refine rl_take (some 6) (.agg #[.int .i64 l.length, .int .i64 (runesN l), .int .i64 (unitsN l), .int .i64 (endsN l), .string (bs (headOf l)), .string (bs (tailOf l))]) rfl (by kernel_rfl) (by exact ldN 36 _ rfl b 4 rfl (fun _ => by kernel_rfl) [vx, vy, .int .i64 n, .int .i64 h] [.int .i64 l.length, .int .i64 (runesN l), .int .i64 (unitsN l), .int .i64 (endsN l), .string (bs (headOf l)), .string (bs (tailOf l))] [] (by kernel_rfl) hb rfl rfl) ?_
  try simp only [pa, pn, pb, pc, pd]
  refine rl_store p2 #[.int .i64 l.length, .int .i64 (runesN l), .int .i64 (unitsN l), .int .i64 (endsN l), .string (bs (headOf l)), .string (bs (tailOf l))] rfl rfl (by kernel_rfl) rfl rfl (by kernel_rfl) hb2 rfl (by kernel_rfl) fun w4 hU4 hn4 => ?_
  have hz4 := hU4.size
  replace hB := hB.upd hU4 (by omega)
  replace hb := hb.upd hU4 (by omega)
  clear hb2
  have hb2 := hn4
  clear hn4
  try simp only [pa, pn, pb, pc, pd]
  refine rl_nil ?_
  refine hgo.out _ _ ?_
  clear hgo hgK
  refine hKK3 _ _ ?_
  refine wp_ret ?_
  try simp only [Exit.then, Exit.inBlock]
  refine bp_ret (v := .agg #[.int .i64 l.length, .int .i64 (runesN l), .int .i64 (unitsN l), .int .i64 (endsN l), .string (bs (headOf l)), .string (bs (tailOf l))]) (res1 rfl (res_cell (b := p2) (cs := [.int .i64 l.length, .int .i64 (runesN l), .int .i64 (unitsN l), .int .i64 (endsN l), .string (bs (headOf l)), .string (bs (tailOf l))]) (by kernel_rfl) (fun _ => by kernel_rfl) (by kernel_rfl) hb2)) ?_
  exact ⟨rfl, hB⟩
set_option maxRecDepth 100000 in
theorem fheight_any (b : Nat) (vx vy : Value) (n h : Int) (l : List UInt8) (w : World) (hb : Blk w b 115 #[vx, vy, .int .i64 n, .int .i64 h, .int .i64 l.length, .int .i64 (runesN l), .int .i64 (unitsN l), .int .i64 (endsN l), .string (bs (headOf l)), .string (bs (tailOf l))]) :
    Calls Tryd.prog 157 #[.pointer (some ⟨b, 0, none⟩)] w fun e w' => e = .returned (.int .i64 h) ∧ Ltr w w' := by
  have hB := Ltr.refl w
  go_enter Tryd.func157, Tryd.ntmps157
  have hlt_hb := hb.lt
  refine wp_seq_k fun KK1 hKK1 => ?_
  refine rl_begin fun hgK hgo => ?_
  refine rl_take (some 2) (.int .i64 0) rfl (by kernel_rfl) (by kernel_rfl) ?_
  try simp only [pa, pn, pb, pc, pd]
  refine rl_nil ?_
  refine hgo.out _ _ ?_
  clear hgo hgK
  refine hKK1 _ _ ?_
  refine wp_seq_k fun KK2 hKK2 => ?_
  refine rl_begin fun hgK hgo => ?_
  refine rl_take (some 3) (.pointer (some ⟨b, 0, none⟩)) rfl (by kernel_rfl) (by kernel_rfl) ?_
  try simp only [pa, pn, pb, pc, pd]
  refine rl_take (some 4) (.pointer (some ⟨b, 0, none⟩)) rfl (by kernel_rfl) (by kernel_rfl) ?_
  try simp only [pa, pn, pb, pc, pd]
  refine rl_take (some 5) (.pointer (some ⟨b, 3, none⟩)) rfl (by kernel_rfl) (by kernel_rfl) ?_
  try simp only [pa, pn, pb, pc, pd]
  refine rl_take (some 6) (.int .i64 h) rfl (by kernel_rfl) (by exact ld1 3 _ rfl b 3 rfl (fun _ => by kernel_rfl) _ (hb.cell 3)) ?_
  try simp only [pa, pn, pb, pc, pd]
  refine rl_take (some 2) (.int .i64 h) rfl (by kernel_rfl) (by kernel_rfl) ?_
  try simp only [pa, pn, pb, pc, pd]
  refine rl_nil ?_
  refine hgo.out _ _ ?_
  clear hgo hgK
  refine hKK2 _ _ ?_
  refine wp_ret ?_
  try simp only [Exit.then, Exit.inBlock]
  refine bp_ret (v := .int .i64 h) (res1 rfl (res_tmp (by kernel_rfl))) ?_
  exact ⟨rfl, hB⟩

/-! ### a method called on a node -/
/-- what a call of a method on this value enters -/
def Enters (v : Value) (m : String) (f : FuncId) (x : Value) : Prop :=
  ∀ (o : Oper) (ρ : Operand → Value) (r : Operand) (w : World), o.op = .call { callee := .invoke r m, args := #[], argTypes := #[] } → ρ r = v → (execOp ρ o).run Tryd.prog w = .ok (.enter f #[x]) w
theorem enters_resolve {o : Oper} {ρ : Operand → Value} {r : Operand} {m : String} {v : Value} {w : World} (ho : o.op = .call { callee := .invoke r m, args := #[], argTypes := #[] }) (hr : ρ r = v) :
    (execOp ρ o).run Tryd.prog w = (invoke (.fn (.method m) #[]) #[v]).run Tryd.prog w := by
  have h : resolve ρ { callee := .invoke r m, args := #[], argTypes := #[] } o.type = pure { target := .fn (.method m) #[], args := #[v] } := by
    unfold resolve; simp [hr]
  unfold execOp
  simp only [ho, h, Sem.run_bind, Sem.run_pure, Result.andThen_ok]
theorem inv_size {w : World} {t : Tr} {v : Value} (h : Tree w t v) : ∃ f x, Enters v "galley/rope.size" f x ∧ ∀ W, Ltr w W → Calls Tryd.prog f #[x] W fun e w' => e = .returned (.int .i64 t.bytes.length) ∧ Ltr W w' := by
  cases t with
  | tip l =>
    obtain ⟨b, rfl, hl⟩ := h.tip_open
    exact ⟨161, .agg #[.pointer (some ⟨b, 0, none⟩)], fun o ρ r w ho hr => by (rw [enters_resolve ho hr]; kernel_rfl), fun W hW => tsize_any b l W (hl.later hW)⟩
  | fork x y =>
    obtain ⟨b, vx, vy, rfl, hb, hx, hy⟩ := h.fork_open
    exact ⟨158, .pointer (some ⟨b, 0, none⟩), fun o ρ r w ho hr => by (rw [enters_resolve ho hr]; kernel_rfl), fun W hW => fsize_any b vx vy _ _ _ W (hb.later hW)⟩
theorem inv_height {w : World} {t : Tr} {v : Value} (h : Tree w t v) : ∃ f x, Enters v "galley/rope.height" f x ∧ ∀ W, Ltr w W → Calls Tryd.prog f #[x] W fun e w' => e = .returned (.int .i64 (t.h : Int)) ∧ Ltr W w' := by
  cases t with
  | tip l =>
    obtain ⟨b, rfl, hl⟩ := h.tip_open
    exact ⟨160, .agg #[.pointer (some ⟨b, 0, none⟩)], fun o ρ r w ho hr => by (rw [enters_resolve ho hr]; kernel_rfl), fun W hW => theight_any _ W⟩
  | fork x y =>
    obtain ⟨b, vx, vy, rfl, hb, hx, hy⟩ := h.fork_open
    exact ⟨157, .pointer (some ⟨b, 0, none⟩), fun o ρ r w ho hr => by (rw [enters_resolve ho hr]; kernel_rfl), fun W hW => fheight_any b vx vy _ _ _ W (hb.later hW)⟩
theorem inv_weld {w : World} {t : Tr} {v : Value} (h : Tree w t v) : ∃ f x, Enters v "galley/rope.weld" f x ∧ ∀ W, Ltr w W → Calls Tryd.prog f #[x] W fun e w' => e = .returned (wv t.bytes) ∧ Ltr W w' := by
  cases t with
  | tip l =>
    obtain ⟨b, rfl, hl⟩ := h.tip_open
    exact ⟨162, .agg #[.pointer (some ⟨b, 0, none⟩)], fun o ρ r w ho hr => by (rw [enters_resolve ho hr]; kernel_rfl), fun W hW => tweld_any b l W (hl.later hW)⟩
  | fork x y =>
    obtain ⟨b, vx, vy, rfl, hb, hx, hy⟩ := h.fork_open
    exact ⟨159, .pointer (some ⟨b, 0, none⟩), fun o ρ r w ho hr => by (rw [enters_resolve ho hr]; kernel_rfl), fun W hW => fweld_any b vx vy _ _ _ W (hb.later hW)⟩
end Go.Proofs.YtliphfgiaioebaaDoor
