/-
  Package leaf: made, Len, Weld, Bytes, place, Before, Split, Join.
-/
import Derived.Test.YtliphfgiaioebaaDoorWeld6
namespace Go.Proofs.YtliphfgiaioebaaDoor
set_option linter.unusedVariables false
set_option linter.unusedSimpArgs false
open Go.RowKit

theorem Of_wv (A : Option Addr) (c : Nat) (l : List UInt8) (w : World) (hT : Tabs w) (hA : BytesAt w A l) (hc : l.length ≤ c) (hm : l.length ≤ 268435456) :
    Calls Tryd.prog 60 #[.slice A l.length c] w fun e w' => e = .returned (wv l) ∧ Ltr w w' := by
  have := Of_any A c l w hT hA hc hm
  rwa [weldOf_wv] at this
/-- a leaf in memory -/
def LeafAt (w : World) (b : Nat) (l : List UInt8) : Prop := Blk w b 153 #[.string (bs l), .int .i64 l.length, .int .i64 (runesN l), .int .i64 (unitsN l), .int .i64 (endsN l), .string (bs (headOf l)), .string (bs (tailOf l))]
theorem LeafAt.later {w w' : World} {b : Nat} {l : List UInt8} (h : LeafAt w b l) (hl : Ltr w w') : LeafAt w' b l := Blk.later h hl

/-! ### strings -/
theorem ex_conv_new {o : Oper} {ρ : Operand → Value} (x : Operand) (ho : o.op = .convert 9 41 x) (l : List UInt8) (hx : ρ x = .string (bs l)) (w : World) :
    ∃ v w', (execOp ρ o).run Tryd.prog w = .ok (.value v) w' ∧ ∃ A c, v = .slice A l.length c ∧ Ltr w w' ∧ BytesAt w' A l ∧ l.length ≤ c := by
  refine ⟨_, _, ?_, _, grownCap w l.length 0 5, rfl, ?_, conv_at w 5 l, ?_⟩
  · unfold execOp
    simp only [ho, hx, Sem.run_bind, conv_to w l, Result.andThen_ok]
    rfl
  · exact bl_bytes (bl_refl _)
  · exact grownCap_ge _ _ _ _
theorem ex_conv_str {o : Oper} {ρ : Operand → Value} (x : Operand) (ho : o.op = .convert 41 9 x) (A : Option Addr) (c : Nat) (l : List UInt8) (hx : ρ x = .slice A l.length c) {w : World} (hA : BytesAt w A l) :
    (execOp ρ o).run Tryd.prog w = .ok (.value (.string (bs l))) w := by
  have h : (convert 41 9 (.slice A l.length c)).run Tryd.prog w = .ok (.string (bs l)) w := by
    by_cases h0 : l.length = 0
    · obtain rfl : l = [] := List.eq_nil_of_length_eq_zero h0
      exact conv_empty w A c
    · obtain ⟨b, off, rfl, hcell⟩ := hA (by omega)
      exact conv_bytes w b off _ c l rfl hcell
  unfold execOp
  simp only [ho, hx, Sem.run_bind, h, Result.andThen_ok]
  rfl
theorem ex_str_cut {o : Oper} {ρ : Operand → Value} {ty : TypeId} {x : Operand} {y z : Option Operand} (l : List UInt8) (lo hi : Nat) (ho : o.op = .slice ty x y z none) (hx : ρ x = .string (bs l))
    (hy : y.map ρ = some (.int .i64 (lo : Int)) ∨ (y = none ∧ lo = 0)) (hz : z.map ρ = some (.int .i64 (hi : Int)) ∨ (z = none ∧ hi = l.length)) (hu : Tryd.prog.underlying ty = some .string) (h1 : lo ≤ hi) (h2 : hi ≤ l.length) (hm : l.length ≤ 9223372036854775807) (w : World) :
    (execOp ρ o).run Tryd.prog w = .ok (.value (.string (bs ((l.take hi).drop lo)))) w := by
  have hs := bs_size l
  have he := bs_extract l lo hi
  have a1 : (0 : Int) ≤ (lo : Int) := by omega
  have a2 : (0 : Int) ≤ (hi : Int) := by omega
  have a3 : (lo : Int) ≤ (hi : Int) := by omega
  have a4 : (hi : Int) ≤ (l.length : Int) := by omega
  unfold execOp
  rw [← he]
  generalize bs l = B at *
  clear he
  rcases y with _ | y <;> rcases z with _ | z
  · obtain rfl : lo = 0 := by simpa using hy
    obtain rfl : hi = l.length := by simpa using hz
    simp only [ho, hx, Option.map]
    go_simp
  · obtain rfl : lo = 0 := by simpa using hy
    have hz' : ρ z = .int .i64 hi := by simpa using hz
    simp only [ho, hx, hz', Option.map]
    go_simp
  · obtain rfl : hi = l.length := by simpa using hz
    have hy' : ρ y = .int .i64 lo := by simpa using hy
    simp only [ho, hx, hy', Option.map]
    go_simp
  · have hy' : ρ y = .int .i64 lo := by simpa using hy
    have hz' : ρ z = .int .i64 hi := by simpa using hz
    simp only [ho, hx, hy', hz', Option.map]
    go_simp

theorem ex_str_drop {o : Oper} {ρ : Operand → Value} {ty : TypeId} {x y : Operand} (l : List UInt8) (lo : Nat) (ho : o.op = .slice ty x (some y) none none) (hx : ρ x = .string (bs l))
    (hy : ρ y = .int .i64 (lo : Int)) (hu : Tryd.prog.underlying ty = some .string) (h1 : lo ≤ l.length) (hm : l.length ≤ 9223372036854775807) (w : World) :
    (execOp ρ o).run Tryd.prog w = .ok (.value (.string (bs (l.drop lo)))) w := by
  have := ex_str_cut l lo l.length ho hx (.inl (by rw [Option.map, hy])) (.inr ⟨rfl, rfl⟩) hu h1 (Nat.le_refl _) hm w
  rwa [List.take_of_length_le (Nat.le_refl _)] at this
theorem ex_str_take {o : Oper} {ρ : Operand → Value} {ty : TypeId} {x y : Operand} (l : List UInt8) (hi : Nat) (ho : o.op = .slice ty x none (some y) none) (hx : ρ x = .string (bs l))
    (hy : ρ y = .int .i64 (hi : Int)) (hu : Tryd.prog.underlying ty = some .string) (h1 : hi ≤ l.length) (hm : l.length ≤ 9223372036854775807) (w : World) :
    (execOp ρ o).run Tryd.prog w = .ok (.value (.string (bs (l.take hi)))) w := by
  have := ex_str_cut l 0 hi ho hx (.inr ⟨rfl, rfl⟩) (.inl (by rw [Option.map, hy])) hu (by omega) h1 hm w
  rwa [List.drop_zero] at this
theorem ex_str_add {o : Oper} {ρ : Operand → Value} {ty ty2 : TypeId} {x y : Operand} (a b : List UInt8) (ho : o.op = .binOp .add ty x y ty2) (hx : ρ x = .string (bs a)) (hy : ρ y = .string (bs b)) (hm : a.length + b.length ≤ 9223372036854775807) (w : World) :
    (execOp ρ o).run Tryd.prog w = .ok (.value (.string (bs (a ++ b)))) w := by
  have ha := bs_size a
  have hb := bs_size b
  have he := bs_append a b
  have h1 : (bs a).size + (bs b).size ≤ 9223372036854775807 := by omega
  unfold execOp
  rw [← he]
  generalize bs a = A at *
  generalize bs b = B at *
  clear he ha hb hm
  simp only [ho, hx, hy]
  go_simp

/-! ### the walks -/
set_option maxRecDepth 100000 in
set_option maxHeartbeats 4000000 in
theorem made_any (l : List UInt8) (hm : l.length ≤ 268435456) (w : World) (hT : Tabs w) :
    Calls Tryd.prog 102 #[.string (bs l)] w fun e w' => ∃ b, e = .returned (.pointer (some ⟨b, 0, none⟩)) ∧ Ltr w w' ∧ LeafAt w' b l ∧ w.heap.size ≤ b := by
  have hB := Ltr.refl w
  go_enter Tryd.func102, Tryd.ntmps102
  have h4 := hT.four
  refine wp_seq_k fun KK1 hKK1 => ?_
  refine rl_begin fun hgK hgo => ?_
  refine rl_take (some 2) (.pointer none) rfl (by kernel_rfl) (by kernel_rfl) ?_
  try simp only [pa, pn, pb, pc, pd]
  refine rl_nil ?_
  refine hgo.out _ _ ?_
  clear hgo hgK
  refine hKK1 _ _ ?_
  refine wp_seq_k fun KK2 hKK2 => ?_
  refine rl_begin fun hgK hgo => ?_
  refine rl_take (some 3) (.string (bs l)) rfl (by kernel_rfl) (by kernel_rfl) ?_
  try simp only [pa, pn, pb, pc, pd]
  refine rl_take (some 4) (.string (bs l)) rfl (by kernel_rfl) (by kernel_rfl) ?_
  try simp only [pa, pn, pb, pc, pd]
  refine rl_new (some 5) rfl (by kernel_rfl) (ex_conv_new _ rfl l rfl _) ?_
  rintro v3 w3 ⟨A1, c1, rfl, hL3, hA, hc⟩
  replace hT := hT.later hL3
  replace hB := hB.later hL3
  have hz3 := hL3.size
  try simp only [pa, pn, pb, pc, pd]
  refine rl_call (some 6) 60 #[.slice A1 l.length c1] rfl (by kernel_rfl) (by kernel_rfl) (Of_wv _ _ l _ hT hA hc hm) ?_
  rintro e w4 ⟨rfl, hL4⟩
  refine ⟨_, rfl, ?_⟩
  replace hT := hT.later hL4
  replace hB := hB.later hL4
  replace hA := hA.later hL4
  have hz4 := hL4.size
  try simp only [pa, pn, pb, pc, pd]
  refine rl_take (some 7) (.agg #[.string (bs l), .int .i64 l.length, .int .i64 (runesN l), .int .i64 (unitsN l), .int .i64 (endsN l), .string (bs (headOf l)), .string (bs (tailOf l))]) rfl (by kernel_rfl) (by kernel_rfl) ?_
  try simp only [pa, pn, pb, pc, pd]
  refine rl_alloc (some 8) 153 #[.string (bs l), .int .i64 l.length, .int .i64 (runesN l), .int .i64 (unitsN l), .int .i64 (endsN l), .string (bs (headOf l)), .string (bs (tailOf l))] rfl (by kernel_rfl) (fun W => by kernel_rfl) fun q w5 hL5 hp5 hq => ?_
  replace hT := hT.later hL5
  replace hB := hB.later hL5
  replace hA := hA.later hL5
  have hz5 := hL5.size
  have hlt5 := hq.lt
  try simp only [pa, pn, pb, pc, pd]
  refine rl_take (some 2) (.pointer (some ⟨q, 0, none⟩)) rfl (by kernel_rfl) (by kernel_rfl) ?_
  try simp only [pa, pn, pb, pc, pd]
  refine rl_nil ?_
  refine hgo.out _ _ ?_
  clear hgo hgK
  refine hKK2 _ _ ?_
  refine wp_ret ?_
  try simp only [Exit.then, Exit.inBlock]
  refine bp_ret (v := .pointer (some ⟨q, 0, none⟩)) (res1 rfl (res_tmp (by kernel_rfl))) ?_
  exact ⟨_, rfl, hB, hq, by omega⟩

set_option maxRecDepth 100000 in
set_option maxHeartbeats 4000000 in
theorem LLen_any (b : Nat) (l : List UInt8) (w : World) (hb : LeafAt w b l) :
    Calls Tryd.prog 103 #[.pointer (some ⟨b, 0, none⟩)] w fun e w' => e = .returned (.int .i64 l.length) ∧ Ltr w w' := by
  have hB := Ltr.refl w
  unfold LeafAt at hb
  go_enter Tryd.func103, Tryd.ntmps103
  have hlt_hb := hb.lt
  refine wp_seq_k fun KK1 hKK1 => ?_
  refine rl_begin fun hgK hgo => ?_
  refine rl_take (some 2) (.int .i64 0) rfl (by kernel_rfl) (by kernel_rfl) ?_
  try simp only [pa, pn, pb, pc, pd]
  refine rl_nil ?_
  refine hgo.out _ _ ?_
  clear hgo hgK
  refine hKK1 _ _ ?_
  refine wp_seq_k fun KK2 hKK2 => ?_
  refine wp_seq_k fun KK3 hKK3 => ?_
  refine rl_begin fun hgK hgo => ?_
  refine rl_take (some 3) (.pointer (some ⟨b, 0, none⟩)) rfl (by kernel_rfl) (by kernel_rfl) ?_
  try simp only [pa, pn, pb, pc, pd]
  refine rl_take (some 4) (.bool false) rfl (by kernel_rfl) (by kernel_rfl) ?_
  try simp only [pa, pn, pb, pc, pd]
  refine rl_nil ?_
  refine hgo.out _ _ ?_
  clear hgo hgK
  refine hKK3 _ _ ?_
  refine wp_cond_false (by kernel_rfl) ?_
  refine wp_skip ?_
  refine hKK2 _ _ ?_
  refine wp_seq_k fun KK4 hKK4 => ?_
  refine rl_begin fun hgK hgo => ?_
  refine rl_take (some 5) (.pointer (some ⟨b, 0, none⟩)) rfl (by kernel_rfl) (by kernel_rfl) ?_
  try simp only [pa, pn, pb, pc, pd]
  refine rl_take (some 6) (.pointer (some ⟨b, 0, none⟩)) rfl (by kernel_rfl) (by kernel_rfl) ?_
  try simp only [pa, pn, pb, pc, pd]
  refine rl_take (some 7) (.pointer (some ⟨b, 0, none⟩)) rfl (by kernel_rfl) (by kernel_rfl) ?_
  try simp only [pa, pn, pb, pc, pd]
  refine rl_take (some 8) (.string (bs l)) rfl (by kernel_rfl) (by exact ld1 9 _ rfl b 0 rfl (fun _ => by kernel_rfl) _ (hb.cell 0)) ?_
  try simp only [pa, pn, pb, pc, pd]
  refine rl_take (some 9) (.int .i64 l.length) rfl (by kernel_rfl) (by exact ex_len_bs (by kernel_rfl)) ?_
  try simp only [pa, pn, pb, pc, pd]
  refine rl_take (some 2) (.int .i64 l.length) rfl (by kernel_rfl) (by kernel_rfl) ?_
  try simp only [pa, pn, pb, pc, pd]
  refine rl_nil ?_
  refine hgo.out _ _ ?_
  clear hgo hgK
  refine hKK4 _ _ ?_
  refine wp_ret ?_
  try simp only [Exit.then, Exit.inBlock]
  refine bp_ret (v := .int .i64 l.length) (res1 rfl (res_tmp (by kernel_rfl))) ?_
  exact ⟨rfl, hB⟩

set_option maxRecDepth 100000 in
set_option maxHeartbeats 4000000 in
theorem LWeld_any (b : Nat) (l : List UInt8) (w : World) (hb : LeafAt w b l) :
    Calls Tryd.prog 163 #[.pointer (some ⟨b, 0, none⟩)] w fun e w' => e = .returned (wv l) ∧ Ltr w w' := by
  have hB := Ltr.refl w
  unfold LeafAt at hb
  go_enter Tryd.func163, Tryd.ntmps163
  have hlt_hb := hb.lt
  refine wp_seq_k fun KK1 hKK1 => ?_
  refine rl_begin fun hgK hgo => ?_
  refine rl_alloc (some 2) 36 #[.int .i64 0, .int .i64 0, .int .i64 0, .int .i64 0, .string ⟨#[]⟩, .string ⟨#[]⟩] rfl (by kernel_rfl) (fun W => by kernel_rfl) fun p2 w2 hL2 hp2 hb2 => ?_
  replace hB := hB.later hL2
  replace hb := hb.later hL2
  have hz2 := hL2.size
  have hlt2 := hb2.lt
  try simp only [pa, pn, pb, pc, pd]
  refine rl_nil ?_
  refine hgo.out _ _ ?_
  clear hgo hgK
  refine hKK1 _ _ ?_
  refine wp_seq_k fun KK3 hKK3 => ?_
  refine wp_seq_k fun KK4 hKK4 => ?_
  refine rl_begin fun hgK hgo => ?_
  refine rl_take (some 3) (.pointer (some ⟨b, 0, none⟩)) rfl (by kernel_rfl) (by kernel_rfl) ?_
  try simp only [pa, pn, pb, pc, pd]
  refine rl_take (some 4) (.bool false) rfl (by kernel_rfl) (by kernel_rfl) ?_
  try simp only [pa, pn, pb, pc, pd]
  refine rl_nil ?_
  refine hgo.out _ _ ?_
  clear hgo hgK
  refine hKK4 _ _ ?_
  refine wp_cond_false (by kernel_rfl) ?_
  refine wp_skip ?_
  refine hKK3 _ _ ?_
  refine wp_seq_k fun KK5 hKK5 => ?_
  refine rl_begin fun hgK hgo => ?_
  refine rl_take (some 6) (.pointer (some ⟨b, 0, none⟩)) rfl (by kernel_rfl) (by kernel_rfl) ?_
  try simp only [pa, pn, pb, pc, pd]
  refine rl_take (some 7) (.pointer (some ⟨b, 0, none⟩)) rfl (by kernel_rfl) (by kernel_rfl) ?_
  try simp only [pa, pn, pb, pc, pd]
  refine rl_take (some 8) (.pointer (some ⟨b, 1, none⟩)) rfl (by kernel_rfl) (by kernel_rfl) ?_
  try simp only [pa, pn, pb, pc, pd]
  refine rl_take (some 9) (.agg #[.int .i64 l.length, .int .i64 (runesN l), .int .i64 (unitsN l), .int .i64 (endsN l), .string (bs (headOf l)), .string (bs (tailOf l))]) rfl (by kernel_rfl) (by exact ldN 36 _ rfl b 1 rfl (fun _ => by kernel_rfl) [.string (bs l)] [.int .i64 l.length, .int .i64 (runesN l), .int .i64 (unitsN l), .int .i64 (endsN l), .string (bs (headOf l)), .string (bs (tailOf l))] [] (by kernel_rfl) hb rfl rfl) ?_
  try simp only [pa, pn, pb, pc, pd]
  refine rl_store p2 #[.int .i64 l.length, .int .i64 (runesN l), .int .i64 (unitsN l), .int .i64 (endsN l), .string (bs (headOf l)), .string (bs (tailOf l))] rfl rfl (by kernel_rfl) rfl rfl (by kernel_rfl) hb2 rfl (by kernel_rfl) fun w6 hU6 hn6 => ?_
  have hz6 := hU6.size
  replace hB := hB.upd hU6 (by omega)
  replace hb := hb.upd hU6 (by omega)
  clear hb2
  have hb2 := hn6
  clear hn6
  try simp only [pa, pn, pb, pc, pd]
  refine rl_nil ?_
  refine hgo.out _ _ ?_
  clear hgo hgK
  refine hKK5 _ _ ?_
  refine wp_ret ?_
  try simp only [Exit.then, Exit.inBlock]
  refine bp_ret (v := .agg #[.int .i64 l.length, .int .i64 (runesN l), .int .i64 (unitsN l), .int .i64 (endsN l), .string (bs (headOf l)), .string (bs (tailOf l))]) (res1 rfl (res_cell (b := p2) (cs := [.int .i64 l.length, .int .i64 (runesN l), .int .i64 (unitsN l), .int .i64 (endsN l), .string (bs (headOf l)), .string (bs (tailOf l))]) (by kernel_rfl) (fun _ => by kernel_rfl) (by kernel_rfl) hb2)) ?_
  exact ⟨rfl, hB⟩

set_option maxRecDepth 100000 in
set_option maxHeartbeats 4000000 in
theorem LBytes_any (b : Nat) (l : List UInt8) (w : World) (hb : LeafAt w b l) :
    Calls Tryd.prog 100 #[.pointer (some ⟨b, 0, none⟩)] w fun e w' => ∃ A c, e = .returned (.slice A l.length c) ∧ Ltr w w' ∧ BytesAt w' A l ∧ l.length ≤ c := by
  have hB := Ltr.refl w
  unfold LeafAt at hb
  go_enter Tryd.func100, Tryd.ntmps100
  have hlt_hb := hb.lt
  refine wp_seq_k fun KK1 hKK1 => ?_
  refine rl_begin fun hgK hgo => ?_
  refine rl_take (some 2) (.slice none 0 0) rfl (by kernel_rfl) (by kernel_rfl) ?_
  try simp only [pa, pn, pb, pc, pd]
  refine rl_nil ?_
  refine hgo.out _ _ ?_
  clear hgo hgK
  refine hKK1 _ _ ?_
  refine wp_seq_k fun KK2 hKK2 => ?_
  refine wp_seq_k fun KK3 hKK3 => ?_
  refine rl_begin fun hgK hgo => ?_
  refine rl_take (some 3) (.pointer (some ⟨b, 0, none⟩)) rfl (by kernel_rfl) (by kernel_rfl) ?_
  try simp only [pa, pn, pb, pc, pd]
  refine rl_take (some 4) (.bool false) rfl (by kernel_rfl) (by kernel_rfl) ?_
  try simp only [pa, pn, pb, pc, pd]
  refine rl_nil ?_
  refine hgo.out _ _ ?_
  clear hgo hgK
  refine hKK3 _ _ ?_
  refine wp_cond_false (by kernel_rfl) ?_
  refine wp_skip ?_
  refine hKK2 _ _ ?_
  refine wp_seq_k fun KK4 hKK4 => ?_
  refine rl_begin fun hgK hgo => ?_
  refine rl_take (some 5) (.pointer (some ⟨b, 0, none⟩)) rfl (by kernel_rfl) (by kernel_rfl) ?_
  try simp only [pa, pn, pb, pc, pd]
  refine rl_take (some 6) (.pointer (some ⟨b, 0, none⟩)) rfl (by kernel_rfl) (by kernel_rfl) ?_
  try simp only [pa, pn, pb, pc, pd]
  refine rl_take (some 7) (.pointer (some ⟨b, 0, none⟩)) rfl (by kernel_rfl) (by kernel_rfl) ?_
  try simp only [pa, pn, pb, pc, pd]
  refine rl_take (some 8) (.string (bs l)) rfl (by kernel_rfl) (by exact ld1 9 _ rfl b 0 rfl (fun _ => by kernel_rfl) _ (hb.cell 0)) ?_
  try simp only [pa, pn, pb, pc, pd]
  refine rl_new (some 9) rfl (by kernel_rfl) (ex_conv_new _ rfl l rfl _) ?_
  rintro v5 w5 ⟨A1, c1, rfl, hL5, hA, hc⟩
  replace hB := hB.later hL5
  replace hb := hb.later hL5
  have hz5 := hL5.size
  try simp only [pa, pn, pb, pc, pd]
  refine rl_take (some 2) (.slice A1 l.length c1) rfl (by kernel_rfl) (by kernel_rfl) ?_
  try simp only [pa, pn, pb, pc, pd]
  refine rl_nil ?_
  refine hgo.out _ _ ?_
  clear hgo hgK
  refine hKK4 _ _ ?_
  refine wp_ret ?_
  try simp only [Exit.then, Exit.inBlock]
  refine bp_ret (v := .slice A1 l.length c1) (res1 rfl (res_tmp (by kernel_rfl))) ?_
  exact ⟨_, _, rfl, hB, hA, hc⟩

set_option maxRecDepth 100000 in
set_option maxHeartbeats 4000000 in
theorem Lplace_any (b : Nat) (l : List UInt8) (n : Nat) (hn : n ≤ l.length) (w : World) (hb : LeafAt w b l) :
    Calls Tryd.prog 92 #[.pointer (some ⟨b, 0, none⟩), .int .i64 n] w fun e w' => e = .returned (.int .i64 0) ∧ Ltr w w' := by
  have hB := Ltr.refl w
  unfold LeafAt at hb
  go_enter Tryd.func92, Tryd.ntmps92
  have hlt_hb := hb.lt
  refine wp_seq_k fun KK1 hKK1 => ?_
  refine rl_begin fun hgK hgo => ?_
  refine rl_take (some 4) (.int .i64 0) rfl (by kernel_rfl) (by kernel_rfl) ?_
  try simp only [pa, pn, pb, pc, pd]
  refine rl_nil ?_
  refine hgo.out _ _ ?_
  clear hgo hgK
  refine hKK1 _ _ ?_
  refine wp_seq_k fun KK2 hKK2 => ?_
  refine wp_block ?_
  refine wp_seq_k fun KK3 hKK3 => ?_
  refine rl_begin fun hgK hgo => ?_
  refine rl_take (some 6) (.pointer (some ⟨b, 0, none⟩)) rfl (by kernel_rfl) (by kernel_rfl) ?_
  try simp only [pa, pn, pb, pc, pd]
  refine rl_take (some 7) (.bool false) rfl (by kernel_rfl) (by kernel_rfl) ?_
  try simp only [pa, pn, pb, pc, pd]
  refine rl_take (some 5) (.bool false) rfl (by kernel_rfl) (by kernel_rfl) ?_
  try simp only [pa, pn, pb, pc, pd]
  refine rl_nil ?_
  refine hgo.out _ _ ?_
  clear hgo hgK
  refine hKK3 _ _ ?_
  refine wp_cond_false (by kernel_rfl) ?_
  refine wp_seq_k fun KK4 hKK4 => ?_
  refine rl_begin fun hgK hgo => ?_
  refine rl_take (some 9) (.int .i64 n) rfl (by kernel_rfl) (by kernel_rfl) ?_
  try simp only [pa, pn, pb, pc, pd]
  refine rl_take (some 10) (.bool false) rfl (by kernel_rfl) (by exact ex_bool (c := (n : Int) < 0) (by kernel_rfl) ⟨fun q => (by cases q), fun q => absurd q (by omega)⟩) ?_
  try simp only [pa, pn, pb, pc, pd]
  refine rl_take (some 11) (.bool false) rfl (by kernel_rfl) (by kernel_rfl) ?_
  try simp only [pa, pn, pb, pc, pd]
  refine rl_take (some 12) (.int .i64 n) rfl (by kernel_rfl) (by kernel_rfl) ?_
  try simp only [pa, pn, pb, pc, pd]
  refine rl_take (some 13) (.pointer (some ⟨b, 0, none⟩)) rfl (by kernel_rfl) (by kernel_rfl) ?_
  try simp only [pa, pn, pb, pc, pd]
  refine rl_take (some 14) (.pointer (some ⟨b, 0, none⟩)) rfl (by kernel_rfl) (by kernel_rfl) ?_
  try simp only [pa, pn, pb, pc, pd]
  refine rl_take (some 15) (.pointer (some ⟨b, 0, none⟩)) rfl (by kernel_rfl) (by kernel_rfl) ?_
  try simp only [pa, pn, pb, pc, pd]
  refine rl_take (some 16) (.string (bs l)) rfl (by kernel_rfl) (by exact ld1 9 _ rfl b 0 rfl (fun _ => by kernel_rfl) _ (hb.cell 0)) ?_
  try simp only [pa, pn, pb, pc, pd]
  refine rl_take (some 17) (.int .i64 l.length) rfl (by kernel_rfl) (by exact ex_len_bs (by kernel_rfl)) ?_
  try simp only [pa, pn, pb, pc, pd]
  refine rl_take (some 18) (.bool false) rfl (by kernel_rfl) (by exact ex_bool (c := (n : Int) > l.length) (by kernel_rfl) ⟨fun q => (by cases q), fun q => absurd q (by omega)⟩) ?_
  try simp only [pa, pn, pb, pc, pd]
  refine rl_take (some 19) (.bool false) rfl (by kernel_rfl) (by kernel_rfl) ?_
  try simp only [pa, pn, pb, pc, pd]
  refine rl_take (some 8) (.bool false) rfl (by kernel_rfl) (by kernel_rfl) ?_
  try simp only [pa, pn, pb, pc, pd]
  refine rl_nil ?_
  refine hgo.out _ _ ?_
  clear hgo hgK
  refine hKK4 _ _ ?_
  refine wp_cond_false (by kernel_rfl) ?_
  refine wp_skip ?_
  refine hKK2 _ _ ?_
  refine wp_seq_k fun KK5 hKK5 => ?_
  refine rl_begin fun hgK hgo => ?_
  refine rl_take (some 4) (.int .i64 0) rfl (by kernel_rfl) (by kernel_rfl) ?_
  try simp only [pa, pn, pb, pc, pd]
  refine rl_nil ?_
  refine hgo.out _ _ ?_
  clear hgo hgK
  refine hKK5 _ _ ?_
  refine wp_ret ?_
  try simp only [Exit.then, Exit.inBlock]
  refine bp_ret (v := .int .i64 0) (res1 rfl (res_tmp (by kernel_rfl))) ?_
  exact ⟨rfl, hB⟩

set_option maxRecDepth 100000 in
set_option maxHeartbeats 4000000 in
theorem LBefore_any (b : Nat) (l : List UInt8) (n : Nat) (hn : n ≤ l.length) (hm : l.length ≤ 268435456) (w : World) (hT : Tabs w) (hb : LeafAt w b l) :
    Calls Tryd.prog 62 #[.pointer (some ⟨b, 0, none⟩), .int .i64 n] w fun e w' => e = .returned (.tuple #[wv (l.take n), .int .i64 0]) ∧ Ltr w w' := by
  have hB := Ltr.refl w
  unfold LeafAt at hb
  have hlen : (l.take n).length ≤ 268435456 := by rw [List.length_take]; omega
  go_enter Tryd.func62, Tryd.ntmps62
  have h4 := hT.four
  have hlt_hb := hb.lt
  refine wp_seq_k fun KK1 hKK1 => ?_
  refine rl_begin fun hgK hgo => ?_
  refine rl_alloc (some 4) 36 #[.int .i64 0, .int .i64 0, .int .i64 0, .int .i64 0, .string ⟨#[]⟩, .string ⟨#[]⟩] rfl (by kernel_rfl) (fun W => by kernel_rfl) fun p2 w2 hL2 hp2 hb2 => ?_
  replace hT := hT.later hL2
  replace hB := hB.later hL2
  replace hb := hb.later hL2
  have hz2 := hL2.size
  have hlt2 := hb2.lt
  try simp only [pa, pn, pb, pc, pd]
  refine rl_take (some 5) (.int .i64 0) rfl (by kernel_rfl) (by kernel_rfl) ?_
  try simp only [pa, pn, pb, pc, pd]
  refine rl_nil ?_
  refine hgo.out _ _ ?_
  clear hgo hgK
  refine hKK1 _ _ ?_
  refine wp_seq_k fun KK3 hKK3 => ?_
  refine wp_seq_k fun KK4 hKK4 => ?_
  refine rl_begin fun hgK hgo => ?_
  refine rl_take (some 7) (.pointer (some ⟨b, 0, none⟩)) rfl (by kernel_rfl) (by kernel_rfl) ?_
  try simp only [pa, pn, pb, pc, pd]
  refine rl_take (some 8) (.int .i64 n) rfl (by kernel_rfl) (by kernel_rfl) ?_
  try simp only [pa, pn, pb, pc, pd]
  refine rl_call (some 9) 92 #[.pointer (some ⟨b, 0, none⟩), .int .i64 n] rfl (by kernel_rfl) (by kernel_rfl) (Lplace_any b l n hn _ hb) ?_
  rintro e w5 ⟨rfl, hL5⟩
  refine ⟨_, rfl, ?_⟩
  replace hT := hT.later hL5
  replace hB := hB.later hL5
  replace hb := hb.later hL5
  replace hb2 := hb2.later hL5
  have hz5 := hL5.size
  try simp only [pa, pn, pb, pc, pd]
  refine rl_take (some 6) (.int .i64 0) rfl (by kernel_rfl) (by kernel_rfl) ?_
  try simp only [pa, pn, pb, pc, pd]
  refine rl_nil ?_
  refine hgo.out _ _ ?_
  clear hgo hgK
  refine hKK4 _ _ ?_
  refine wp_seq_k fun KK6 hKK6 => ?_
  refine rl_begin fun hgK hgo => ?_
  refine rl_take (some 10) (.int .i64 0) rfl (by kernel_rfl) (by kernel_rfl) ?_
  try simp only [pa, pn, pb, pc, pd]
  refine rl_take (some 11) (.bool false) rfl (by kernel_rfl) (by exact ex_bne (x := 0) (y := 0) (by kernel_rfl) ⟨fun q => (by cases q), fun q => absurd q (by omega)⟩) ?_
  try simp only [pa, pn, pb, pc, pd]
  refine rl_nil ?_
  refine hgo.out _ _ ?_
  clear hgo hgK
  refine hKK6 _ _ ?_
  refine wp_cond_false (by kernel_rfl) ?_
  refine wp_skip ?_
  refine hKK3 _ _ ?_
  refine wp_seq_k fun KK7 hKK7 => ?_
  refine rl_begin fun hgK hgo => ?_
  refine rl_take (some 14) (.pointer (some ⟨b, 0, none⟩)) rfl (by kernel_rfl) (by kernel_rfl) ?_
  try simp only [pa, pn, pb, pc, pd]
  refine rl_take (some 15) (.pointer (some ⟨b, 0, none⟩)) rfl (by kernel_rfl) (by kernel_rfl) ?_
  try simp only [pa, pn, pb, pc, pd]
  refine rl_take (some 16) (.pointer (some ⟨b, 0, none⟩)) rfl (by kernel_rfl) (by kernel_rfl) ?_
  try simp only [pa, pn, pb, pc, pd]
  refine rl_take (some 17) (.string (bs l)) rfl (by kernel_rfl) (by exact ld1 9 _ rfl b 0 rfl (fun _ => by kernel_rfl) _ (hb.cell 0)) ?_
  try simp only [pa, pn, pb, pc, pd]
  refine rl_take (some 18) (.int .i64 n) rfl (by kernel_rfl) (by kernel_rfl) ?_
  try simp only [pa, pn, pb, pc, pd]
  refine rl_take (some 19) (.string (bs (l.take n))) rfl (by kernel_rfl) (by exact ex_str_take l n rfl rfl rfl (by kernel_rfl) hn (by omega) _) ?_
  try simp only [pa, pn, pb, pc, pd]
  refine rl_new (some 20) rfl (by kernel_rfl) (ex_conv_new _ rfl (l.take n) rfl _) ?_
  rintro v8 w8 ⟨A1, c1, rfl, hL8, hA, hc⟩
  replace hT := hT.later hL8
  replace hB := hB.later hL8
  replace hb := hb.later hL8
  replace hb2 := hb2.later hL8
  have hz8 := hL8.size
  try simp only [pa, pn, pb, pc, pd]
  refine rl_call (some 21) 60 #[.slice A1 (l.take n).length c1] rfl (by kernel_rfl) (by kernel_rfl) (Of_wv _ _ (l.take n) _ hT hA hc hlen) ?_
  rintro e w9 ⟨rfl, hL9⟩
  refine ⟨_, rfl, ?_⟩
  replace hT := hT.later hL9
  replace hB := hB.later hL9
  replace hb := hb.later hL9
  replace hb2 := hb2.later hL9
  replace hA := hA.later hL9
  have hz9 := hL9.size
  clear hA
  try simp only [pa, pn, pb, pc, pd]
  refine rl_store p2 #[.int .i64 (l.take n).length, .int .i64 (runesN (l.take n)), .int .i64 (unitsN (l.take n)), .int .i64 (endsN (l.take n)), .string (bs (headOf (l.take n))), .string (bs (tailOf (l.take n)))] rfl rfl (by kernel_rfl) rfl rfl (by kernel_rfl) hb2 rfl (by kernel_rfl) fun w10 hU10 hn10 => ?_
  have hz10 := hU10.size
  replace hT := hT.upd hU10 (by omega)
  replace hB := hB.upd hU10 (by omega)
  replace hb := hb.upd hU10 (by omega)
  clear hb2
  have hb2 := hn10
  clear hn10
  try simp only [pa, pn, pb, pc, pd]
  refine rl_take (some 5) (.int .i64 0) rfl (by kernel_rfl) (by kernel_rfl) ?_
  try simp only [pa, pn, pb, pc, pd]
  refine rl_nil ?_
  refine hgo.out _ _ ?_
  clear hgo hgK
  refine hKK7 _ _ ?_
  refine wp_ret ?_
  try simp only [Exit.then, Exit.inBlock]
  refine bp_ret (v := .tuple #[.agg #[.int .i64 (l.take n).length, .int .i64 (runesN (l.take n)), .int .i64 (unitsN (l.take n)), .int .i64 (endsN (l.take n)), .string (bs (headOf (l.take n))), .string (bs (tailOf (l.take n)))], .int .i64 0]) (res2 rfl (res_cell (b := p2) (cs := [.int .i64 (l.take n).length, .int .i64 (runesN (l.take n)), .int .i64 (unitsN (l.take n)), .int .i64 (endsN (l.take n)), .string (bs (headOf (l.take n))), .string (bs (tailOf (l.take n)))]) (by kernel_rfl) (fun _ => by kernel_rfl) (by kernel_rfl) hb2) (res_tmp (by kernel_rfl))) ?_
  exact ⟨rfl, hB⟩

set_option maxRecDepth 100000 in
set_option maxHeartbeats 4000000 in
theorem LSplit_any (b : Nat) (l : List UInt8) (n : Nat) (hn : n ≤ l.length) (hm : l.length ≤ 268435456) (w : World) (hT : Tabs w) (hb : LeafAt w b l) :
    Calls Tryd.prog 104 #[.pointer (some ⟨b, 0, none⟩), .int .i64 n] w fun e w' => ∃ p q, e = .returned (.tuple #[.pointer (some ⟨p, 0, none⟩), .pointer (some ⟨q, 0, none⟩), .int .i64 0]) ∧ Ltr w w' ∧ LeafAt w' p (l.take n) ∧ LeafAt w' q (l.drop n) := by
  have hB := Ltr.refl w
  unfold LeafAt at hb
  have hl1 : (l.take n).length ≤ 268435456 := by rw [List.length_take]; omega
  have hl2 : (l.drop n).length ≤ 268435456 := by rw [List.length_drop]; omega
  go_enter Tryd.func104, Tryd.ntmps104
  have h4 := hT.four
  have hlt_hb := hb.lt
  refine wp_seq_k fun KK1 hKK1 => ?_
  refine rl_begin fun hgK hgo => ?_
  refine rl_take (some 4) (.pointer none) rfl (by kernel_rfl) (by kernel_rfl) ?_
  try simp only [pa, pn, pb, pc, pd]
  refine rl_take (some 5) (.pointer none) rfl (by kernel_rfl) (by kernel_rfl) ?_
  try simp only [pa, pn, pb, pc, pd]
  refine rl_take (some 6) (.int .i64 0) rfl (by kernel_rfl) (by kernel_rfl) ?_
  try simp only [pa, pn, pb, pc, pd]
  refine rl_nil ?_
  refine hgo.out _ _ ?_
  clear hgo hgK
  refine hKK1 _ _ ?_
  refine wp_seq_k fun KK2 hKK2 => ?_
  refine wp_seq_k fun KK3 hKK3 => ?_
  refine rl_begin fun hgK hgo => ?_
  refine rl_take (some 8) (.pointer (some ⟨b, 0, none⟩)) rfl (by kernel_rfl) (by kernel_rfl) ?_
  try simp only [pa, pn, pb, pc, pd]
  refine rl_take (some 9) (.int .i64 n) rfl (by kernel_rfl) (by kernel_rfl) ?_
  try simp only [pa, pn, pb, pc, pd]
  refine rl_call (some 10) 92 #[.pointer (some ⟨b, 0, none⟩), .int .i64 n] rfl (by kernel_rfl) (by kernel_rfl) (Lplace_any b l n hn _ hb) ?_
  rintro e w4 ⟨rfl, hL4⟩
  refine ⟨_, rfl, ?_⟩
  replace hT := hT.later hL4
  replace hB := hB.later hL4
  replace hb := hb.later hL4
  have hz4 := hL4.size
  try simp only [pa, pn, pb, pc, pd]
  refine rl_take (some 7) (.int .i64 0) rfl (by kernel_rfl) (by kernel_rfl) ?_
  try simp only [pa, pn, pb, pc, pd]
  refine rl_nil ?_
  refine hgo.out _ _ ?_
  clear hgo hgK
  refine hKK3 _ _ ?_
  refine wp_seq_k fun KK5 hKK5 => ?_
  refine rl_begin fun hgK hgo => ?_
  refine rl_take (some 11) (.int .i64 0) rfl (by kernel_rfl) (by kernel_rfl) ?_
  try simp only [pa, pn, pb, pc, pd]
  refine rl_take (some 12) (.bool false) rfl (by kernel_rfl) (by exact ex_bne (x := 0) (y := 0) (by kernel_rfl) ⟨fun q => (by cases q), fun q => absurd q (by omega)⟩) ?_
  try simp only [pa, pn, pb, pc, pd]
  refine rl_nil ?_
  refine hgo.out _ _ ?_
  clear hgo hgK
  refine hKK5 _ _ ?_
  refine wp_cond_false (by kernel_rfl) ?_
  refine wp_skip ?_
  refine hKK2 _ _ ?_
  refine wp_seq_k fun KK6 hKK6 => ?_
  refine rm_begin (fun W => Ltr w4 W) (by kernel_rfl) (by exact bl_drew (bl_refl _)) fun K7 hgo w7 hE hS7 => ?_
  have hv7 : Ltr w4 w7 := by rw [hE]; exact bl_drew (bl_refl _)
  have hz7 := hv7.size
  clear hE hS7
  refine rm_take 0 (some 14) (.pointer (some ⟨b, 0, none⟩)) (oi := { dst := some 14, op := Go.Op.move (Go.Operand.tmp 0), type := 116, pos := "leaf.go:99", after := #[], guard := none }) rfl rfl (by kernel_rfl) (by kernel_rfl) (by kernel_rfl) (by kernel_rfl) (fun W hW => by (kernel_rfl)) ?_
  try simp only [pa, pn, pb, pc, pd]
  refine rm_take 1 (some 15) (.pointer (some ⟨b, 0, none⟩)) (oi := { dst := some 15, op := Go.Op.nilCheck (Go.Operand.tmp 14), type := 0, pos := "leaf.go:99", after := #[{ on := 0, ground := Go.Ground.data }], guard := none }) rfl rfl (by kernel_rfl) (by kernel_rfl) (by kernel_rfl) (by kernel_rfl) (fun W hW => by (kernel_rfl)) ?_
  try simp only [pa, pn, pb, pc, pd]
  refine rm_take 2 (some 16) (.pointer (some ⟨b, 0, none⟩)) (oi := { dst := some 16, op := Go.Op.fieldAddr 153 (Go.Operand.tmp 15) 0, type := 0, pos := "leaf.go:99", after := #[{ on := 1, ground := Go.Ground.data }], guard := none }) rfl rfl (by kernel_rfl) (by kernel_rfl) (by kernel_rfl) (by kernel_rfl) (fun W hW => by (kernel_rfl)) ?_
  try simp only [pa, pn, pb, pc, pd]
  refine rm_take 3 (some 17) (.string (bs l)) (oi := { dst := some 17, op := Go.Op.load 9 (Go.Operand.tmp 16), type := 9, pos := "leaf.go:99", after := #[{ on := 2, ground := Go.Ground.data }], guard := none }) rfl rfl (by kernel_rfl) (by kernel_rfl) (by kernel_rfl) (by kernel_rfl) (fun W hW => by (exact ld1 9 _ rfl b 0 rfl (fun _ => by kernel_rfl) _ ((hb.later hW).cell 0))) ?_
  try simp only [pa, pn, pb, pc, pd]
  refine rm_take 4 (some 18) (.int .i64 n) (oi := { dst := some 18, op := Go.Op.move (Go.Operand.tmp 1), type := 3, pos := "leaf.go:99", after := #[], guard := none }) rfl rfl (by kernel_rfl) (by kernel_rfl) (by kernel_rfl) (by kernel_rfl) (fun W hW => by (kernel_rfl)) ?_
  try simp only [pa, pn, pb, pc, pd]
  refine rm_take 5 (some 19) (.string (bs (l.take n))) (oi := { dst := some 19, op := Go.Op.slice 9 (Go.Operand.tmp 17) none (some (Go.Operand.tmp 18)) none, type := 9, pos := "leaf.go:99", after := #[{ on := 3, ground := Go.Ground.data }, { on := 4, ground := Go.Ground.data }], guard := none }) rfl rfl (by kernel_rfl) (by kernel_rfl) (by kernel_rfl) (by kernel_rfl) (fun W hW => by (exact ex_str_take l n rfl rfl rfl (by kernel_rfl) hn (by omega) _)) ?_
  try simp only [pa, pn, pb, pc, pd]
  refine rm_take 7 (some 21) (.pointer (some ⟨b, 0, none⟩)) (oi := { dst := some 21, op := Go.Op.move (Go.Operand.tmp 0), type := 116, pos := "leaf.go:99", after := #[], guard := none }) rfl rfl (by kernel_rfl) (by kernel_rfl) (by kernel_rfl) (by kernel_rfl) (fun W hW => by (kernel_rfl)) ?_
  try simp only [pa, pn, pb, pc, pd]
  refine rm_take 8 (some 22) (.pointer (some ⟨b, 0, none⟩)) (oi := { dst := some 22, op := Go.Op.nilCheck (Go.Operand.tmp 21), type := 0, pos := "leaf.go:99", after := #[{ on := 7, ground := Go.Ground.data }], guard := none }) rfl rfl (by kernel_rfl) (by kernel_rfl) (by kernel_rfl) (by kernel_rfl) (fun W hW => by (kernel_rfl)) ?_
  try simp only [pa, pn, pb, pc, pd]
  refine rm_take 9 (some 23) (.pointer (some ⟨b, 0, none⟩)) (oi := { dst := some 23, op := Go.Op.fieldAddr 153 (Go.Operand.tmp 22) 0, type := 0, pos := "leaf.go:99", after := #[{ on := 8, ground := Go.Ground.data }], guard := none }) rfl rfl (by kernel_rfl) (by kernel_rfl) (by kernel_rfl) (by kernel_rfl) (fun W hW => by (kernel_rfl)) ?_
  try simp only [pa, pn, pb, pc, pd]
  refine rm_take 10 (some 24) (.string (bs l)) (oi := { dst := some 24, op := Go.Op.load 9 (Go.Operand.tmp 23), type := 9, pos := "leaf.go:99", after := #[{ on := 9, ground := Go.Ground.data }], guard := none }) rfl rfl (by kernel_rfl) (by kernel_rfl) (by kernel_rfl) (by kernel_rfl) (fun W hW => by (exact ld1 9 _ rfl b 0 rfl (fun _ => by kernel_rfl) _ ((hb.later hW).cell 0))) ?_
  try simp only [pa, pn, pb, pc, pd]
  refine rm_take 11 (some 25) (.int .i64 n) (oi := { dst := some 25, op := Go.Op.move (Go.Operand.tmp 1), type := 3, pos := "leaf.go:99", after := #[], guard := none }) rfl rfl (by kernel_rfl) (by kernel_rfl) (by kernel_rfl) (by kernel_rfl) (fun W hW => by (kernel_rfl)) ?_
  try simp only [pa, pn, pb, pc, pd]
  refine rm_take 12 (some 26) (.string (bs (l.drop n))) (oi := { dst := some 26, op := Go.Op.slice 9 (Go.Operand.tmp 24) (some (Go.Operand.tmp 25)) none none, type := 9, pos := "leaf.go:99", after := #[{ on := 10, ground := Go.Ground.data }, { on := 11, ground := Go.Ground.data }], guard := none }) rfl rfl (by kernel_rfl) (by kernel_rfl) (by kernel_rfl) (by kernel_rfl) (fun W hW => by (exact ex_str_drop l n rfl rfl rfl (by kernel_rfl) hn (by omega) _)) ?_
  try simp only [pa, pn, pb, pc, pd]
  refine rm_pick1 (i := 6) (by kernel_rfl) ?_
  refine rm_callx (some 20) 102 #[.string (bs (l.take n))] (oi := { dst := some 20, op := Go.Op.call { callee := Go.Callee.value (Go.Operand.func 102), args := #[Go.Operand.tmp 19], argTypes := #[9] }, type := 116, pos := "leaf.go:99", after := #[{ on := 5, ground := Go.Ground.data }], guard := none }) rfl rfl (by kernel_rfl) (fun W hW => by kernel_rfl) (fun W hlz hW => made_any (l.take n) hl1 W (hT.later (show Ltr w4 W from hW))) (by rintro W e w' ⟨p, rfl, hL8, hp, -⟩; exact hL8) (fun _ _ h k => Ltr.trans h k) ?_
  rintro q8 e w8 hq8 hQ8 ⟨p, rfl, hL8, hp, -⟩ hS8
  refine ⟨_, rfl, ?_⟩
  have hz8 := hL8.size
  have hy8 := hq8.size
  try simp only [pa, pn, pb, pc, pd]
  refine rm_pick1 (i := 13) (by kernel_rfl) ?_
  refine rm_callx (some 27) 102 #[.string (bs (l.drop n))] (oi := { dst := some 27, op := Go.Op.call { callee := Go.Callee.value (Go.Operand.func 102), args := #[Go.Operand.tmp 26], argTypes := #[9] }, type := 116, pos := "leaf.go:99", after := #[{ on := 12, ground := Go.Ground.data }, { on := 6, ground := Go.Ground.chain }], guard := none }) rfl rfl (by kernel_rfl) (fun W hW => by kernel_rfl) (fun W hlz hW => made_any (l.drop n) hl2 W (hT.later (show Ltr w4 W from hW))) (by rintro W e w' ⟨q, rfl, hL9, hq, -⟩; exact hL9) (fun _ _ h k => Ltr.trans h k) ?_
  rintro q9 e w9 hq9 hQ9 ⟨q, rfl, hL9, hq, -⟩ hS9
  refine ⟨_, rfl, ?_⟩
  replace hp := (hp.later hq9).later hL9
  have hz9 := hL9.size
  have hy9 := hq9.size
  try simp only [pa, pn, pb, pc, pd]
  refine rm_take 14 (some 4) (.pointer (some ⟨p, 0, none⟩)) (oi := { dst := some 4, op := Go.Op.assign (Go.Operand.tmp 20), type := 116, pos := "leaf.go:99", after := #[{ on := 6, ground := Go.Ground.data }, { on := 13, ground := Go.Ground.chain }, { on := 0, ground := Go.Ground.phase }, { on := 1, ground := Go.Ground.phase }, { on := 2, ground := Go.Ground.phase }, { on := 3, ground := Go.Ground.phase }, { on := 4, ground := Go.Ground.phase }, { on := 5, ground := Go.Ground.phase }, { on := 6, ground := Go.Ground.phase }, { on := 7, ground := Go.Ground.textOnly Go.Departure.lateStores }, { on := 8, ground := Go.Ground.textOnly Go.Departure.lateStores }, { on := 9, ground := Go.Ground.textOnly Go.Departure.lateStores }, { on := 10, ground := Go.Ground.textOnly Go.Departure.lateStores }, { on := 11, ground := Go.Ground.textOnly Go.Departure.lateStores }, { on := 12, ground := Go.Ground.textOnly Go.Departure.lateStoresUnsure }, { on := 13, ground := Go.Ground.textOnly Go.Departure.lateStoresUnsure }], guard := none }) rfl rfl (by kernel_rfl) (by kernel_rfl) (by kernel_rfl) (by kernel_rfl) (fun W hW => by (kernel_rfl)) ?_
  try simp only [pa, pn, pb, pc, pd]
  refine rm_take 15 (some 5) (.pointer (some ⟨q, 0, none⟩)) (oi := { dst := some 5, op := Go.Op.assign (Go.Operand.tmp 27), type := 116, pos := "leaf.go:99", after := #[{ on := 13, ground := Go.Ground.data }, { on := 14, ground := Go.Ground.chain }, { on := 0, ground := Go.Ground.phase }, { on := 1, ground := Go.Ground.phase }, { on := 2, ground := Go.Ground.phase }, { on := 3, ground := Go.Ground.phase }, { on := 4, ground := Go.Ground.phase }, { on := 5, ground := Go.Ground.phase }, { on := 6, ground := Go.Ground.phase }, { on := 7, ground := Go.Ground.phase }, { on := 8, ground := Go.Ground.phase }, { on := 9, ground := Go.Ground.phase }, { on := 10, ground := Go.Ground.phase }, { on := 11, ground := Go.Ground.phase }, { on := 12, ground := Go.Ground.phase }, { on := 13, ground := Go.Ground.phase }, { on := 14, ground := Go.Ground.phase }], guard := none }) rfl rfl (by kernel_rfl) (by kernel_rfl) (by kernel_rfl) (by kernel_rfl) (fun W hW => by (kernel_rfl)) ?_
  try simp only [pa, pn, pb, pc, pd]
  refine rm_take 16 (some 6) (.int .i64 0) (oi := { dst := some 6, op := Go.Op.assign (Go.Operand.const (Go.Value.int Go.IntKind.i64 0)), type := 50, pos := "leaf.go:99", after := #[{ on := 15, ground := Go.Ground.chain }, { on := 0, ground := Go.Ground.phase }, { on := 1, ground := Go.Ground.phase }, { on := 2, ground := Go.Ground.phase }, { on := 3, ground := Go.Ground.phase }, { on := 4, ground := Go.Ground.phase }, { on := 5, ground := Go.Ground.phase }, { on := 6, ground := Go.Ground.phase }, { on := 7, ground := Go.Ground.phase }, { on := 8, ground := Go.Ground.phase }, { on := 9, ground := Go.Ground.phase }, { on := 10, ground := Go.Ground.phase }, { on := 11, ground := Go.Ground.phase }, { on := 12, ground := Go.Ground.phase }, { on := 13, ground := Go.Ground.phase }, { on := 14, ground := Go.Ground.phase }, { on := 15, ground := Go.Ground.phase }], guard := none }) rfl rfl (by kernel_rfl) (by kernel_rfl) (by kernel_rfl) (by kernel_rfl) (fun W hW => by (kernel_rfl)) ?_
  try simp only [pa, pn, pb, pc, pd]
  refine rm_done (by kernel_rfl) (fun w10 hL10 hS10 => hgo.out _ _ ?_) _
  clear hgo K7
  replace hp := hp.later hL10
  replace hq := hq.later hL10
  replace hT := hT.later (show Ltr w4 _ from hS10)
  replace hB := hB.later (show Ltr w4 _ from hS10)
  replace hb := hb.later (show Ltr w4 _ from hS10)
  have hz10 := (show Ltr w4 _ from hS10).size
  have hy10 := hL10.size
  refine hKK6 _ _ ?_
  refine wp_ret ?_
  try simp only [Exit.then, Exit.inBlock]
  refine bp_ret (v := .tuple #[.pointer (some ⟨p, 0, none⟩), .pointer (some ⟨q, 0, none⟩), .int .i64 0]) (res3 rfl (res_tmp (by kernel_rfl)) (res_tmp (by kernel_rfl)) (res_tmp (by kernel_rfl))) ?_
  exact ⟨p, q, rfl, hB, hp, hq⟩

set_option maxRecDepth 100000 in
set_option maxHeartbeats 4000000 in
theorem LJoin_any (a b : Nat) (x y : List UInt8) (hxy : x.length + y.length ≤ 4096) (w : World) (hT : Tabs w) (ha : LeafAt w a x) (hb : LeafAt w b y) :
    Calls Tryd.prog 106 #[.pointer (some ⟨a, 0, none⟩), .pointer (some ⟨b, 0, none⟩)] w fun e w' => ∃ p, e = .returned (.tuple #[.pointer (some ⟨p, 0, none⟩), .int .i64 0]) ∧ Ltr w w' ∧ LeafAt w' p (x ++ y) := by
  have hB := Ltr.refl w
  unfold LeafAt at ha hb
  have hlen : (x ++ y).length ≤ 268435456 := by rw [List.length_append]; omega
  go_enter Tryd.func106, Tryd.ntmps106
  have h4 := hT.four
  have hlt_ha := ha.lt
  have hlt_hb := hb.lt
  refine wp_seq_k fun KK1 hKK1 => ?_
  refine rl_begin fun hgK hgo => ?_
  refine rl_take (some 4) (.pointer none) rfl (by kernel_rfl) (by kernel_rfl) ?_
  try simp only [pa, pn, pb, pc, pd]
  refine rl_take (some 5) (.int .i64 0) rfl (by kernel_rfl) (by kernel_rfl) ?_
  try simp only [pa, pn, pb, pc, pd]
  refine rl_nil ?_
  refine hgo.out _ _ ?_
  clear hgo hgK
  refine hKK1 _ _ ?_
  refine wp_seq_k fun KK2 hKK2 => ?_
  refine wp_block ?_
  refine wp_seq_k fun KK3 hKK3 => ?_
  refine rl_begin fun hgK hgo => ?_
  refine rl_take (some 7) (.pointer (some ⟨a, 0, none⟩)) rfl (by kernel_rfl) (by kernel_rfl) ?_
  try simp only [pa, pn, pb, pc, pd]
  refine rl_take (some 8) (.bool false) rfl (by kernel_rfl) (by kernel_rfl) ?_
  try simp only [pa, pn, pb, pc, pd]
  refine rl_take (some 9) (.bool false) rfl (by kernel_rfl) (by kernel_rfl) ?_
  try simp only [pa, pn, pb, pc, pd]
  refine rl_take (some 10) (.pointer (some ⟨b, 0, none⟩)) rfl (by kernel_rfl) (by kernel_rfl) ?_
  try simp only [pa, pn, pb, pc, pd]
  refine rl_take (some 11) (.bool false) rfl (by kernel_rfl) (by kernel_rfl) ?_
  try simp only [pa, pn, pb, pc, pd]
  refine rl_take (some 12) (.bool false) rfl (by kernel_rfl) (by kernel_rfl) ?_
  try simp only [pa, pn, pb, pc, pd]
  refine rl_take (some 6) (.bool false) rfl (by kernel_rfl) (by kernel_rfl) ?_
  try simp only [pa, pn, pb, pc, pd]
  refine rl_nil ?_
  refine hgo.out _ _ ?_
  clear hgo hgK
  refine hKK3 _ _ ?_
  refine wp_cond_false (by kernel_rfl) ?_
  refine wp_seq_k fun KK4 hKK4 => ?_
  refine rl_begin fun hgK hgo => ?_
  refine rl_take (some 14) (.pointer (some ⟨a, 0, none⟩)) rfl (by kernel_rfl) (by kernel_rfl) ?_
  try simp only [pa, pn, pb, pc, pd]
  refine rl_call (some 15) 103 #[.pointer (some ⟨a, 0, none⟩)] rfl (by kernel_rfl) (by kernel_rfl) (LLen_any a x _ ha) ?_
  rintro e w5 ⟨rfl, hL5⟩
  refine ⟨_, rfl, ?_⟩
  replace hT := hT.later hL5
  replace hB := hB.later hL5
  replace ha := ha.later hL5
  replace hb := hb.later hL5
  have hz5 := hL5.size
  try simp only [pa, pn, pb, pc, pd]
  refine rl_take (some 16) (.pointer (some ⟨b, 0, none⟩)) rfl (by kernel_rfl) (by kernel_rfl) ?_
  try simp only [pa, pn, pb, pc, pd]
  refine rl_call (some 17) 103 #[.pointer (some ⟨b, 0, none⟩)] rfl (by kernel_rfl) (by kernel_rfl) (LLen_any b y _ hb) ?_
  rintro e w6 ⟨rfl, hL6⟩
  refine ⟨_, rfl, ?_⟩
  replace hT := hT.later hL6
  replace hB := hB.later hL6
  replace ha := ha.later hL6
  replace hb := hb.later hL6
  have hz6 := hL6.size
  try simp only [pa, pn, pb, pc, pd]
  refine rl_take (some 18) (.int .i64 ((x.length : Int) + y.length)) rfl (by kernel_rfl) (by exact ex_arith (e := (x.length : Int) + y.length) (r := (x.length : Int) + y.length) (by kernel_rfl) (by omega) (by omega)) ?_
  try simp only [pa, pn, pb, pc, pd]
  refine rl_take (some 19) (.bool false) rfl (by kernel_rfl) (by exact ex_bool (c := (((x.length : Int) + y.length) : Int) > 4096) (by kernel_rfl) ⟨fun q => (by cases q), fun q => absurd q (by omega)⟩) ?_
  try simp only [pa, pn, pb, pc, pd]
  refine rl_take (some 13) (.bool false) rfl (by kernel_rfl) (by kernel_rfl) ?_
  try simp only [pa, pn, pb, pc, pd]
  refine rl_nil ?_
  refine hgo.out _ _ ?_
  clear hgo hgK
  refine hKK4 _ _ ?_
  refine wp_cond_false (by kernel_rfl) ?_
  refine wp_skip ?_
  refine hKK2 _ _ ?_
  refine wp_seq_k fun KK7 hKK7 => ?_
  refine rm_begin (fun W => Ltr w6 W) (by kernel_rfl) (by exact bl_drew (bl_refl _)) fun K8 hgo w8 hE hS8 => ?_
  have hv8 : Ltr w6 w8 := by rw [hE]; exact bl_drew (bl_refl _)
  have hz8 := hv8.size
  clear hE hS8
  refine rm_take 0 (some 20) (.pointer (some ⟨a, 0, none⟩)) (oi := { dst := some 20, op := Go.Op.move (Go.Operand.tmp 0), type := 116, pos := "leaf.go:110", after := #[], guard := none }) rfl rfl (by kernel_rfl) (by kernel_rfl) (by kernel_rfl) (by kernel_rfl) (fun W hW => by (kernel_rfl)) ?_
  try simp only [pa, pn, pb, pc, pd]
  refine rm_take 1 (some 21) (.pointer (some ⟨a, 0, none⟩)) (oi := { dst := some 21, op := Go.Op.nilCheck (Go.Operand.tmp 20), type := 0, pos := "leaf.go:110", after := #[{ on := 0, ground := Go.Ground.data }], guard := none }) rfl rfl (by kernel_rfl) (by kernel_rfl) (by kernel_rfl) (by kernel_rfl) (fun W hW => by (kernel_rfl)) ?_
  try simp only [pa, pn, pb, pc, pd]
  refine rm_take 2 (some 22) (.pointer (some ⟨a, 0, none⟩)) (oi := { dst := some 22, op := Go.Op.fieldAddr 153 (Go.Operand.tmp 21) 0, type := 0, pos := "leaf.go:110", after := #[{ on := 1, ground := Go.Ground.data }], guard := none }) rfl rfl (by kernel_rfl) (by kernel_rfl) (by kernel_rfl) (by kernel_rfl) (fun W hW => by (kernel_rfl)) ?_
  try simp only [pa, pn, pb, pc, pd]
  refine rm_take 3 (some 23) (.string (bs x)) (oi := { dst := some 23, op := Go.Op.load 9 (Go.Operand.tmp 22), type := 9, pos := "leaf.go:110", after := #[{ on := 2, ground := Go.Ground.data }], guard := none }) rfl rfl (by kernel_rfl) (by kernel_rfl) (by kernel_rfl) (by kernel_rfl) (fun W hW => by (exact ld1 9 _ rfl a 0 rfl (fun _ => by kernel_rfl) _ ((ha.later hW).cell 0))) ?_
  try simp only [pa, pn, pb, pc, pd]
  refine rm_take 4 (some 24) (.pointer (some ⟨b, 0, none⟩)) (oi := { dst := some 24, op := Go.Op.move (Go.Operand.tmp 1), type := 116, pos := "leaf.go:110", after := #[], guard := none }) rfl rfl (by kernel_rfl) (by kernel_rfl) (by kernel_rfl) (by kernel_rfl) (fun W hW => by (kernel_rfl)) ?_
  try simp only [pa, pn, pb, pc, pd]
  refine rm_take 5 (some 25) (.pointer (some ⟨b, 0, none⟩)) (oi := { dst := some 25, op := Go.Op.nilCheck (Go.Operand.tmp 24), type := 0, pos := "leaf.go:110", after := #[{ on := 4, ground := Go.Ground.data }], guard := none }) rfl rfl (by kernel_rfl) (by kernel_rfl) (by kernel_rfl) (by kernel_rfl) (fun W hW => by (kernel_rfl)) ?_
  try simp only [pa, pn, pb, pc, pd]
  refine rm_take 6 (some 26) (.pointer (some ⟨b, 0, none⟩)) (oi := { dst := some 26, op := Go.Op.fieldAddr 153 (Go.Operand.tmp 25) 0, type := 0, pos := "leaf.go:110", after := #[{ on := 5, ground := Go.Ground.data }], guard := none }) rfl rfl (by kernel_rfl) (by kernel_rfl) (by kernel_rfl) (by kernel_rfl) (fun W hW => by (kernel_rfl)) ?_
  try simp only [pa, pn, pb, pc, pd]
  refine rm_take 7 (some 27) (.string (bs y)) (oi := { dst := some 27, op := Go.Op.load 9 (Go.Operand.tmp 26), type := 9, pos := "leaf.go:110", after := #[{ on := 6, ground := Go.Ground.data }], guard := none }) rfl rfl (by kernel_rfl) (by kernel_rfl) (by kernel_rfl) (by kernel_rfl) (fun W hW => by (exact ld1 9 _ rfl b 0 rfl (fun _ => by kernel_rfl) _ ((hb.later hW).cell 0))) ?_
  try simp only [pa, pn, pb, pc, pd]
  refine rm_take 8 (some 28) (.string (bs (x ++ y))) (oi := { dst := some 28, op := Go.Op.binOp Go.BinOp.add 9 (Go.Operand.tmp 23) (Go.Operand.tmp 27) 9, type := 9, pos := "leaf.go:110", after := #[{ on := 3, ground := Go.Ground.data }, { on := 7, ground := Go.Ground.data }], guard := none }) rfl rfl (by kernel_rfl) (by kernel_rfl) (by kernel_rfl) (by kernel_rfl) (fun W hW => by (exact ex_str_add x y rfl rfl rfl (by omega) _)) ?_
  try simp only [pa, pn, pb, pc, pd]
  refine rm_pick1 (i := 9) (by kernel_rfl) ?_
  refine rm_callx (some 29) 102 #[.string (bs (x ++ y))] (oi := { dst := some 29, op := Go.Op.call { callee := Go.Callee.value (Go.Operand.func 102), args := #[Go.Operand.tmp 28], argTypes := #[9] }, type := 116, pos := "leaf.go:110", after := #[{ on := 8, ground := Go.Ground.data }], guard := none }) rfl rfl (by kernel_rfl) (fun W hW => by kernel_rfl) (fun W hlz hW => made_any (x ++ y) hlen W (hT.later (show Ltr w6 W from hW))) (by rintro W e w' ⟨p, rfl, hL9, hp, -⟩; exact hL9) (fun _ _ h k => Ltr.trans h k) ?_
  rintro q9 e w9 hq9 hQ9 ⟨p, rfl, hL9, hp, -⟩ hS9
  refine ⟨_, rfl, ?_⟩
  have hz9 := hL9.size
  have hy9 := hq9.size
  try simp only [pa, pn, pb, pc, pd]
  refine rm_take 10 (some 4) (.pointer (some ⟨p, 0, none⟩)) (oi := { dst := some 4, op := Go.Op.assign (Go.Operand.tmp 29), type := 116, pos := "leaf.go:110", after := #[{ on := 9, ground := Go.Ground.data }, { on := 9, ground := Go.Ground.chain }, { on := 0, ground := Go.Ground.phase }, { on := 1, ground := Go.Ground.phase }, { on := 2, ground := Go.Ground.phase }, { on := 3, ground := Go.Ground.phase }, { on := 4, ground := Go.Ground.phase }, { on := 5, ground := Go.Ground.phase }, { on := 6, ground := Go.Ground.phase }, { on := 7, ground := Go.Ground.phase }, { on := 8, ground := Go.Ground.phase }, { on := 9, ground := Go.Ground.phase }], guard := none }) rfl rfl (by kernel_rfl) (by kernel_rfl) (by kernel_rfl) (by kernel_rfl) (fun W hW => by (kernel_rfl)) ?_
  try simp only [pa, pn, pb, pc, pd]
  refine rm_take 11 (some 5) (.int .i64 0) (oi := { dst := some 5, op := Go.Op.assign (Go.Operand.const (Go.Value.int Go.IntKind.i64 0)), type := 50, pos := "leaf.go:110", after := #[{ on := 10, ground := Go.Ground.chain }, { on := 0, ground := Go.Ground.phase }, { on := 1, ground := Go.Ground.phase }, { on := 2, ground := Go.Ground.phase }, { on := 3, ground := Go.Ground.phase }, { on := 4, ground := Go.Ground.phase }, { on := 5, ground := Go.Ground.phase }, { on := 6, ground := Go.Ground.phase }, { on := 7, ground := Go.Ground.phase }, { on := 8, ground := Go.Ground.phase }, { on := 9, ground := Go.Ground.phase }, { on := 10, ground := Go.Ground.phase }], guard := none }) rfl rfl (by kernel_rfl) (by kernel_rfl) (by kernel_rfl) (by kernel_rfl) (fun W hW => by (kernel_rfl)) ?_
  try simp only [pa, pn, pb, pc, pd]
  refine rm_done (by kernel_rfl) (fun w10 hL10 hS10 => hgo.out _ _ ?_) _
  clear hgo K8
  replace hp := hp.later hL10
  replace hT := hT.later (show Ltr w6 _ from hS10)
  replace hB := hB.later (show Ltr w6 _ from hS10)
  replace ha := ha.later (show Ltr w6 _ from hS10)
  replace hb := hb.later (show Ltr w6 _ from hS10)
  have hz10 := (show Ltr w6 _ from hS10).size
  have hy10 := hL10.size
  refine hKK7 _ _ ?_
  refine wp_ret ?_
  try simp only [Exit.then, Exit.inBlock]
  refine bp_ret (v := .tuple #[.pointer (some ⟨p, 0, none⟩), .int .i64 0]) (res2 rfl (res_tmp (by kernel_rfl)) (res_tmp (by kernel_rfl))) ?_
  exact ⟨p, rfl, hB, hp⟩
end Go.Proofs.YtliphfgiaioebaaDoor
