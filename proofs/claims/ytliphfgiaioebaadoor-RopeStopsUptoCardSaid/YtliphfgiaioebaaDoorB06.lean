/-
  Package leaf: made, Len, Weld, Bytes, place, Before, Split, Join.
  Package rope: trees, in plain and in memory; the nodes' methods.
-/
import Derived.Test.YtliphfgiaioebaaDoorB05
namespace Go.Proofs.YtliphfgiaioebaaDoor
set_option linter.unusedVariables false
set_option linter.unusedSimpArgs false
open Go.RowKit

theorem Of_wv (A : Option Addr) (c : Nat) (l : List UInt8) (w : World) (hT : Tabs w) (hA : BytesAt w A l) (hc : l.length ≤ c) (hm : l.length ≤ 268435456) :
    Calls Tryd.prog 60 #[.slice A l.length c] w fun e w' => e = .returned (wv l) ∧ Ltr w w' := by
  have := Of_any A c l w hT hA hc hm
  rwa [weldOf_wv] at this
/-- a leaf in memory -/
def LeafAt (w : World) (b : Nat) (l : List UInt8) : Prop := Blk w b 153 #[.string (bs l), .int .i64 l.length, .int .i64 (runesN l), .int .i64 (unitsN l), .int .i64 (endsN l), .string (bs (headOf l)), .string (bs (tailOf l))]
theorem LeafAt.later {w w' : World} {b : Nat} {l : List UInt8} (h : LeafAt w b l) (hl : Ltr w w') : LeafAt w' b l := Blk.later h hl

/-! ### strings -/
theorem ex_conv_new {o : Oper} {ρ : Operand → Value} (x : Operand) (ho : o.op = .convert 9 41 x) (l : List UInt8) (hx : ρ x = .string (bs l)) (w : World) :
    ∃ v w', (execOp ρ o).run Tryd.prog w = .ok (.value v) w' ∧ ∃ A c, v = .slice A l.length c ∧ Ltr w w' ∧ BytesAt w' A l ∧ l.length ≤ c := by
  refine ⟨_, _, ?_, _, grownCap w l.length 0 5, rfl, ?_, conv_at w 5 l, ?_⟩
  · unfold execOp
    simp only [ho, hx, Sem.run_bind, conv_to w l, Result.andThen_ok]
    rfl
  · exact bl_bytes (bl_refl _)
  · exact grownCap_ge _ _ _ _
theorem ex_conv_str {o : Oper} {ρ : Operand → Value} (x : Operand) (ho : o.op = .convert 41 9 x) (A : Option Addr) (c : Nat) (l : List UInt8) (hx : ρ x = .slice A l.length c) {w : World} (hA : BytesAt w A l) :
    (execOp ρ o).run Tryd.prog w = .ok (.value (.string (bs l))) w := by
  have h : (convert 41 9 (.slice A l.length c)).run Tryd.prog w = .ok (.string (bs l)) w := by
    by_cases h0 : l.length = 0
    · obtain rfl : l = [] := List.eq_nil_of_length_eq_zero h0
      exact conv_empty w A c
    · obtain ⟨b, off, rfl, hcell⟩ := hA (by omega)
      exact conv_bytes w b off _ c l rfl hcell
  unfold execOp
  simp only [ho, hx, Sem.run_bind, h, Result.andThen_ok]
  rfl
theorem ex_str_cut {o : Oper} {ρ : Operand → Value} {ty : TypeId} {x : Operand} {y z : Option Operand} (l : List UInt8) (lo hi : Nat) (ho : o.op = .slice ty x y z none) (hx : ρ x = .string (bs l))
    (hy : y.map ρ = some (.int .i64 (lo : Int)) ∨ (y = none ∧ lo = 0)) (hz : z.map ρ = some (.int .i64 (hi : Int)) ∨ (z = none ∧ hi = l.length)) (hu : Tryd.prog.underlying ty = some .string) (h1 : lo ≤ hi) (h2 : hi ≤ l.length) (hm : l.length ≤ 9223372036854775807) (w : World) :
    (execOp ρ o).run Tryd.prog w = .ok (.value (.string (bs ((l.take hi).drop lo)))) w := by
  have hs := bs_size l
  have he := bs_extract l lo hi
  have a1 : (0 : Int) ≤ (lo : Int) := by omega
  have a2 : (0 : Int) ≤ (hi : Int) := by omega
  have a3 : (lo : Int) ≤ (hi : Int) := by omega
  have a4 : (hi : Int) ≤ (l.length : Int) := by omega
  unfold execOp
  rw [← he]
  generalize bs l = B at *
  clear he
  rcases y with _ | y <;> rcases z with _ | z
  · obtain rfl : lo = 0 := by simpa using hy
    obtain rfl : hi = l.length := by simpa using hz
    simp only [ho, hx, Option.map]
    go_simp
  · obtain rfl : lo = 0 := by simpa using hy
    have hz' : ρ z = .int .i64 hi := by simpa using hz
    simp only [ho, hx, hz', Option.map]
    go_simp
  · obtain rfl : hi = l.length := by simpa using hz
    have hy' : ρ y = .int .i64 lo := by simpa using hy
    simp only [ho, hx, hy', Option.map]
    go_simp
  · have hy' : ρ y = .int .i64 lo := by simpa using hy
    have hz' : ρ z = .int .i64 hi := by simpa using hz
    simp only [ho, hx, hy', hz', Option.map]
    go_simp

theorem ex_str_drop {o : Oper} {ρ : Operand → Value} {ty : TypeId} {x y : Operand} (l : List UInt8) (lo : Nat) (ho : o.op = .slice ty x (some y) none none) (hx : ρ x = .string (bs l))
    (hy : ρ y = .int .i64 (lo : Int)) (hu : Tryd.prog.underlying ty = some .string) (h1 : lo ≤ l.length) (hm : l.length ≤ 9223372036854775807) (w : World) :
    (execOp ρ o).run Tryd.prog w = .ok (.value (.string (bs (l.drop lo)))) w := by
  have := ex_str_cut l lo l.length ho hx (.inl (by rw [Option.map, hy])) (.inr ⟨rfl, rfl⟩) hu h1 (Nat.le_refl _) hm w
  rwa [List.take_of_length_le (Nat.le_refl _)] at this
theorem ex_str_take {o : Oper} {ρ : Operand → Value} {ty : TypeId} {x y : Operand} (l : List UInt8) (hi : Nat) (ho : o.op = .slice ty x none (some y) none) (hx : ρ x = .string (bs l))
    (hy : ρ y = .int .i64 (hi : Int)) (hu : Tryd.prog.underlying ty = some .string) (h1 : hi ≤ l.length) (hm : l.length ≤ 9223372036854775807) (w : World) :
    (execOp ρ o).run Tryd.prog w = .ok (.value (.string (bs (l.take hi)))) w := by
  have := ex_str_cut l 0 hi ho hx (.inr ⟨rfl, rfl⟩) (.inl (by rw [Option.map, hy])) hu (by omega) h1 hm w
  rwa [List.drop_zero] at this
theorem ex_str_add {o : Oper} {ρ : Operand → Value} {ty ty2 : TypeId} {x y : Operand} (a b : List UInt8) (ho : o.op = .binOp .add ty x y ty2) (hx : ρ x = .string (bs a)) (hy : ρ y = .string (bs b)) (hm : a.length + b.length ≤ 9223372036854775807) (w : World) :
    (execOp ρ o).run Tryd.prog w = .ok (.value (.string (bs (a ++ b)))) w := by
  have ha := bs_size a
  have hb := bs_size b
  have he := bs_append a b
  have h1 : (bs a).size + (bs b).size ≤ 9223372036854775807 := by omega
  unfold execOp
  rw [← he]
  generalize bs a = A at *
  generalize bs b = B at *
  clear he ha hb hm
  simp only [ho, hx, hy]
  go_simp

/-! ### the walks -/
set_option maxRecDepth 100000 in
set_option maxHeartbeats 4000000 in
theorem made_any (l : List UInt8) (hm : l.length ≤ 268435456) (w : World) (hT : Tabs w) :
    Calls Tryd.prog 102 #[.string (bs l)] w fun e w' => ∃ b, e = .returned (.pointer (some ⟨b, 0, none⟩)) ∧ Ltr w w' ∧ LeafAt w' b l ∧ w.heap.size ≤ b := by
  have hB := Ltr.refl w
  go_enter Tryd.func102, Tryd.ntmps102
  have h4 := hT.four
  refine wp_seq_k fun KK1 hKK1 => rl_begin fun hgK hgo => tk 2 (.pointer none) ?_
  simp only [pp]
  refine rl_end hgo <| hKK1 _ _ <| wp_seq_k fun KK2 hKK2 => rl_begin fun hgK hgo => tk 3 (.string (bs l)) <| tk 4 (.string (bs l)) ?_
  simp only [pp]
  refine rl_new (some 5) rfl (by kernel_rfl) (ex_conv_new _ rfl l rfl _) ?_
  rintro v3 w3 ⟨A1, c1, rfl, hL3, hA, hc⟩
  have hz3 := hL3.size
  try simp only [pp]
  replace hT := hT.later hL3
  refine rl_call (some 6) 60 #[.slice A1 l.length c1] rfl (by kernel_rfl) (by kernel_rfl) (Of_wv _ _ l _ hT hA hc hm) ?_
  rintro e w4 ⟨rfl, hL4⟩
  refine ⟨_, rfl, ?_⟩
  have hz4 := hL4.size
  try simp only [pp]
  refine tk 7 (.agg #[.string (bs l), .int .i64 l.length, .int .i64 (runesN l), .int .i64 (unitsN l), .int .i64 (endsN l), .string (bs (headOf l)), .string (bs (tailOf l))]) ?_
  simp only [pp]
  refine rl_alloc (some 8) 153 #[.string (bs l), .int .i64 l.length, .int .i64 (runesN l), .int .i64 (unitsN l), .int .i64 (endsN l), .string (bs (headOf l)), .string (bs (tailOf l))] rfl (by kernel_rfl) (fun W => by kernel_rfl) fun q w5 hL5 hp5 hq => ?_
  have hz5 := hL5.size
  have hlt5 := hq.lt
  try simp only [pp]
  refine tk 2 (.pointer (some ⟨q, 0, none⟩)) ?_
  simp only [pp]
  refine rl_end hgo <| hKK2 _ _ ?_
  refine wp_ret ?_
  try simp only [Exit.then, Exit.inBlock]
  refine bp_ret (v := .pointer (some ⟨q, 0, none⟩)) (res1 rfl (res_tmp (by kernel_rfl))) ?_
  replace hB := ((hB.later hL3).later hL4).later hL5
  exact ⟨_, rfl, hB, hq, by omega⟩

set_option maxRecDepth 100000 in
set_option maxHeartbeats 4000000 in
theorem LLen_any (b : Nat) (l : List UInt8) (w : World) (hb : LeafAt w b l) :
    Calls Tryd.prog 103 #[.pointer (some ⟨b, 0, none⟩)] w fun e w' => e = .returned (.int .i64 l.length) ∧ Ltr w w' := by
  have hB := Ltr.refl w
  unfold LeafAt at hb
  go_enter Tryd.func103, Tryd.ntmps103
  have hlt_hb := hb.lt
  refine wp_seq_k fun KK1 hKK1 => rl_begin fun hgK hgo => tk 2 (.int .i64 0) ?_
  simp only [pp]
  refine rl_end hgo <| hKK1 _ _ <| wp_seq_k fun KK2 hKK2 => wp_seq_k fun KK3 hKK3 => rl_begin fun hgK hgo => tk 3 (.pointer (some ⟨b, 0, none⟩)) <| tk 4 (.bool false) ?_
  simp only [pp]
  refine rl_end hgo <| hKK3 _ _ <| wp_cond_false (by kernel_rfl) <| wp_skip <| hKK2 _ _ <| wp_seq_k fun KK4 hKK4 => rl_begin fun hgK hgo => tk 5 (.pointer (some ⟨b, 0, none⟩)) <| tk 6 (.pointer (some ⟨b, 0, none⟩)) <| tk 7 (.pointer (some ⟨b, 0, none⟩)) ?_
  simp only [pp]
  refine tx 8 (.string (bs l)) (by exact ld 9 b 0 (hb.cell 0)) ?_
  simp only [pp]
  refine tx 9 (.int .i64 l.length) (by exact ex_len_bs (by kernel_rfl)) <| tk 2 (.int .i64 l.length) ?_
  simp only [pp]
  refine rl_end hgo <| hKK4 _ _ ?_
  refine wp_ret ?_
  try simp only [Exit.then, Exit.inBlock]
  refine bp_ret (v := .int .i64 l.length) (res1 rfl (res_tmp (by kernel_rfl))) ?_
  exact ⟨rfl, hB⟩

set_option maxRecDepth 100000 in
set_option maxHeartbeats 4000000 in
theorem LWeld_any (b : Nat) (l : List UInt8) (w : World) (hb : LeafAt w b l) :
    Calls Tryd.prog 163 #[.pointer (some ⟨b, 0, none⟩)] w fun e w' => e = .returned (wv l) ∧ Ltr w w' := by
  have hB := Ltr.refl w
  unfold LeafAt at hb
  go_enter Tryd.func163, Tryd.ntmps163
  have hlt_hb := hb.lt
  refine wp_seq_k fun KK1 hKK1 => rl_begin fun hgK hgo => ?_
  refine rl_alloc (some 2) 36 #[.int .i64 0, .int .i64 0, .int .i64 0, .int .i64 0, .string ⟨#[]⟩, .string ⟨#[]⟩] rfl (by kernel_rfl) (fun W => by kernel_rfl) fun p2 w2 hL2 hp2 hb2 => ?_
  have hz2 := hL2.size
  have hlt2 := hb2.lt
  try simp only [pp]
  refine rl_end hgo <| hKK1 _ _ <| wp_seq_k fun KK3 hKK3 => wp_seq_k fun KK4 hKK4 => rl_begin fun hgK hgo => tk 3 (.pointer (some ⟨b, 0, none⟩)) <| tk 4 (.bool false) ?_
  simp only [pp]
  refine rl_end hgo <| hKK4 _ _ <| wp_cond_false (by kernel_rfl) <| wp_skip <| hKK3 _ _ <| wp_seq_k fun KK5 hKK5 => rl_begin fun hgK hgo => tk 6 (.pointer (some ⟨b, 0, none⟩)) <| tk 7 (.pointer (some ⟨b, 0, none⟩)) <| tk 8 (.pointer (some ⟨b, 1, none⟩)) ?_
  simp only [pp]
  replace hb := hb.later hL2
  refine tx 9 (.agg #[.int .i64 l.length, .int .i64 (runesN l), .int .i64 (unitsN l), .int .i64 (endsN l), .string (bs (headOf l)), .string (bs (tailOf l))]) (by exact ldN 36 _ rfl b 1 rfl (fun _ => by kernel_rfl) [.string (bs l)] [.int .i64 l.length, .int .i64 (runesN l), .int .i64 (unitsN l), .int .i64 (endsN l), .string (bs (headOf l)), .string (bs (tailOf l))] [] (by kernel_rfl) hb rfl rfl) ?_
  simp only [pp]
  refine rl_store p2 #[.int .i64 l.length, .int .i64 (runesN l), .int .i64 (unitsN l), .int .i64 (endsN l), .string (bs (headOf l)), .string (bs (tailOf l))] rfl rfl (by kernel_rfl) rfl rfl (by kernel_rfl) hb2 rfl (by kernel_rfl) fun w6 hU6 hn6 => ?_
  have hz6 := hU6.size
  replace hB := hB.later hL2
  replace hB := hB.upd hU6 (by omega)
  replace hb := hb.upd hU6 (by omega)
  clear hb2
  have hb2 := hn6
  clear hn6
  try simp only [pp]
  refine rl_end hgo <| hKK5 _ _ ?_
  refine wp_ret ?_
  try simp only [Exit.then, Exit.inBlock]
  refine bp_ret (v := .agg #[.int .i64 l.length, .int .i64 (runesN l), .int .i64 (unitsN l), .int .i64 (endsN l), .string (bs (headOf l)), .string (bs (tailOf l))]) (res1 rfl (res_cell (b := p2) (cs := [.int .i64 l.length, .int .i64 (runesN l), .int .i64 (unitsN l), .int .i64 (endsN l), .string (bs (headOf l)), .string (bs (tailOf l))]) (by kernel_rfl) (fun _ => by kernel_rfl) (by kernel_rfl) hb2)) ?_
  exact ⟨rfl, hB⟩

set_option maxRecDepth 100000 in
set_option maxHeartbeats 4000000 in
theorem LBytes_any (b : Nat) (l : List UInt8) (w : World) (hb : LeafAt w b l) :
    Calls Tryd.prog 100 #[.pointer (some ⟨b, 0, none⟩)] w fun e w' => ∃ A c, e = .returned (.slice A l.length c) ∧ Ltr w w' ∧ BytesAt w' A l ∧ l.length ≤ c := by
  have hB := Ltr.refl w
  unfold LeafAt at hb
  go_enter Tryd.func100, Tryd.ntmps100
  have hlt_hb := hb.lt
  refine wp_seq_k fun KK1 hKK1 => rl_begin fun hgK hgo => tk 2 (.slice none 0 0) ?_
  simp only [pp]
  refine rl_end hgo <| hKK1 _ _ <| wp_seq_k fun KK2 hKK2 => wp_seq_k fun KK3 hKK3 => rl_begin fun hgK hgo => tk 3 (.pointer (some ⟨b, 0, none⟩)) <| tk 4 (.bool false) ?_
  simp only [pp]
  refine rl_end hgo <| hKK3 _ _ <| wp_cond_false (by kernel_rfl) <| wp_skip <| hKK2 _ _ <| wp_seq_k fun KK4 hKK4 => rl_begin fun hgK hgo => tk 5 (.pointer (some ⟨b, 0, none⟩)) <| tk 6 (.pointer (some ⟨b, 0, none⟩)) <| tk 7 (.pointer (some ⟨b, 0, none⟩)) ?_
  simp only [pp]
  refine tx 8 (.string (bs l)) (by exact ld 9 b 0 (hb.cell 0)) ?_
  simp only [pp]
  refine rl_new (some 9) rfl (by kernel_rfl) (ex_conv_new _ rfl l rfl _) ?_
  rintro v5 w5 ⟨A1, c1, rfl, hL5, hA, hc⟩
  have hz5 := hL5.size
  try simp only [pp]
  refine tk 2 (.slice A1 l.length c1) ?_
  simp only [pp]
  refine rl_end hgo <| hKK4 _ _ ?_
  refine wp_ret ?_
  try simp only [Exit.then, Exit.inBlock]
  refine bp_ret (v := .slice A1 l.length c1) (res1 rfl (res_tmp (by kernel_rfl))) ?_
  replace hB := hB.later hL5
  exact ⟨_, _, rfl, hB, hA, hc⟩

set_option maxRecDepth 100000 in
set_option maxHeartbeats 4000000 in
theorem Lplace_any (b : Nat) (l : List UInt8) (n : Nat) (hn : n ≤ l.length) (w : World) (hb : LeafAt w b l) :
    Calls Tryd.prog 92 #[.pointer (some ⟨b, 0, none⟩), .int .i64 n] w fun e w' => e = .returned (.int .i64 0) ∧ Ltr w w' := by
  have hB := Ltr.refl w
  unfold LeafAt at hb
  go_enter Tryd.func92, Tryd.ntmps92
  have hlt_hb := hb.lt
  refine wp_seq_k fun KK1 hKK1 => rl_begin fun hgK hgo => tk 4 (.int .i64 0) ?_
  simp only [pp]
  refine rl_end hgo <| hKK1 _ _ <| wp_seq_k fun KK2 hKK2 => wp_block <| wp_seq_k fun KK3 hKK3 => rl_begin fun hgK hgo => tk 6 (.pointer (some ⟨b, 0, none⟩)) <| tk 7 (.bool false) <| tk 5 (.bool false) ?_
  simp only [pp]
  refine rl_end hgo <| hKK3 _ _ <| wp_cond_false (by kernel_rfl) <| wp_seq_k fun KK4 hKK4 => rl_begin fun hgK hgo => tk 9 (.int .i64 n) ?_
  simp only [pp]
  refine tx 10 (.bool false) (by exact ebf (c := (n : Int) < 0) (by omega)) <| tk 11 (.bool false) <| tk 12 (.int .i64 n) <| tk 13 (.pointer (some ⟨b, 0, none⟩)) <| tk 14 (.pointer (some ⟨b, 0, none⟩)) <| tk 15 (.pointer (some ⟨b, 0, none⟩)) ?_
  simp only [pp]
  refine tx 16 (.string (bs l)) (by exact ld 9 b 0 (hb.cell 0)) ?_
  simp only [pp]
  refine tx 17 (.int .i64 l.length) (by exact ex_len_bs (by kernel_rfl)) ?_
  simp only [pp]
  refine tx 18 (.bool false) (by exact ebf (c := (n : Int) > l.length) (by omega)) <| tk 19 (.bool false) <| tk 8 (.bool false) ?_
  simp only [pp]
  refine rl_end hgo <| hKK4 _ _ <| wp_cond_false (by kernel_rfl) <| wp_skip <| hKK2 _ _ <| wp_seq_k fun KK5 hKK5 => rl_begin fun hgK hgo => tk 4 (.int .i64 0) ?_
  simp only [pp]
  refine rl_end hgo <| hKK5 _ _ ?_
  refine wp_ret ?_
  try simp only [Exit.then, Exit.inBlock]
  refine bp_ret (v := .int .i64 0) (res1 rfl (res_tmp (by kernel_rfl))) ?_
  exact ⟨rfl, hB⟩

set_option maxRecDepth 100000 in
set_option maxHeartbeats 4000000 in
theorem LBefore_any (b : Nat) (l : List UInt8) (n : Nat) (hn : n ≤ l.length) (hm : l.length ≤ 268435456) (w : World) (hT : Tabs w) (hb : LeafAt w b l) :
    Calls Tryd.prog 62 #[.pointer (some ⟨b, 0, none⟩), .int .i64 n] w fun e w' => e = .returned (.tuple #[wv (l.take n), .int .i64 0]) ∧ Ltr w w' := by
  have hB := Ltr.refl w
  unfold LeafAt at hb
  have hlen : (l.take n).length ≤ 268435456 := by rw [List.length_take]; omega
  go_enter Tryd.func62, Tryd.ntmps62
  have h4 := hT.four
  have hlt_hb := hb.lt
  refine wp_seq_k fun KK1 hKK1 => rl_begin fun hgK hgo => ?_
  refine rl_alloc (some 4) 36 #[.int .i64 0, .int .i64 0, .int .i64 0, .int .i64 0, .string ⟨#[]⟩, .string ⟨#[]⟩] rfl (by kernel_rfl) (fun W => by kernel_rfl) fun p2 w2 hL2 hp2 hb2 => ?_
  have hz2 := hL2.size
  have hlt2 := hb2.lt
  try simp only [pp]
  refine tk 5 (.int .i64 0) ?_
  simp only [pp]
  refine rl_end hgo <| hKK1 _ _ <| wp_seq_k fun KK3 hKK3 => wp_seq_k fun KK4 hKK4 => rl_begin fun hgK hgo => tk 7 (.pointer (some ⟨b, 0, none⟩)) <| tk 8 (.int .i64 n) ?_
  simp only [pp]
  replace hb := hb.later hL2
  refine rl_call (some 9) 92 #[.pointer (some ⟨b, 0, none⟩), .int .i64 n] rfl (by kernel_rfl) (by kernel_rfl) (Lplace_any b l n hn _ hb) ?_
  rintro e w5 ⟨rfl, hL5⟩
  refine ⟨_, rfl, ?_⟩
  have hz5 := hL5.size
  try simp only [pp]
  refine tk 6 (.int .i64 0) ?_
  simp only [pp]
  refine rl_end hgo <| hKK4 _ _ <| wp_seq_k fun KK6 hKK6 => rl_begin fun hgK hgo => tk 10 (.int .i64 0) ?_
  simp only [pp]
  refine tx 11 (.bool false) (by exact nef (x := 0) (y := 0) (by omega)) ?_
  simp only [pp]
  refine rl_end hgo <| hKK6 _ _ <| wp_cond_false (by kernel_rfl) <| wp_skip <| hKK3 _ _ <| wp_seq_k fun KK7 hKK7 => rl_begin fun hgK hgo => tk 14 (.pointer (some ⟨b, 0, none⟩)) <| tk 15 (.pointer (some ⟨b, 0, none⟩)) <| tk 16 (.pointer (some ⟨b, 0, none⟩)) ?_
  simp only [pp]
  replace hb := hb.later hL5
  refine tx 17 (.string (bs l)) (by exact ld 9 b 0 (hb.cell 0)) <| tk 18 (.int .i64 n) ?_
  simp only [pp]
  refine tx 19 (.string (bs (l.take n))) (by exact ex_str_take l n rfl rfl rfl (by kernel_rfl) hn (by omega) _) ?_
  simp only [pp]
  refine rl_new (some 20) rfl (by kernel_rfl) (ex_conv_new _ rfl (l.take n) rfl _) ?_
  rintro v8 w8 ⟨A1, c1, rfl, hL8, hA, hc⟩
  have hz8 := hL8.size
  try simp only [pp]
  replace hT := ((hT.later hL2).later hL5).later hL8
  refine rl_call (some 21) 60 #[.slice A1 (l.take n).length c1] rfl (by kernel_rfl) (by kernel_rfl) (Of_wv _ _ (l.take n) _ hT hA hc hlen) ?_
  rintro e w9 ⟨rfl, hL9⟩
  refine ⟨_, rfl, ?_⟩
  have hz9 := hL9.size
  clear hA
  try simp only [pp]
  replace hb2 := ((hb2.later hL5).later hL8).later hL9
  refine rl_store p2 #[.int .i64 (l.take n).length, .int .i64 (runesN (l.take n)), .int .i64 (unitsN (l.take n)), .int .i64 (endsN (l.take n)), .string (bs (headOf (l.take n))), .string (bs (tailOf (l.take n)))] rfl rfl (by kernel_rfl) rfl rfl (by kernel_rfl) hb2 rfl (by kernel_rfl) fun w10 hU10 hn10 => ?_
  have hz10 := hU10.size
  replace hT := hT.later hL9
  replace hT := hT.upd hU10 (by omega)
  replace hB := (((hB.later hL2).later hL5).later hL8).later hL9
  replace hB := hB.upd hU10 (by omega)
  replace hb := (hb.later hL8).later hL9
  replace hb := hb.upd hU10 (by omega)
  clear hb2
  have hb2 := hn10
  clear hn10
  try simp only [pp]
  refine tk 5 (.int .i64 0) ?_
  simp only [pp]
  refine rl_end hgo <| hKK7 _ _ ?_
  refine wp_ret ?_
  try simp only [Exit.then, Exit.inBlock]
  refine bp_ret (v := .tuple #[.agg #[.int .i64 (l.take n).length, .int .i64 (runesN (l.take n)), .int .i64 (unitsN (l.take n)), .int .i64 (endsN (l.take n)), .string (bs (headOf (l.take n))), .string (bs (tailOf (l.take n)))], .int .i64 0]) (res2 rfl (res_cell (b := p2) (cs := [.int .i64 (l.take n).length, .int .i64 (runesN (l.take n)), .int .i64 (unitsN (l.take n)), .int .i64 (endsN (l.take n)), .string (bs (headOf (l.take n))), .string (bs (tailOf (l.take n)))]) (by kernel_rfl) (fun _ => by kernel_rfl) (by kernel_rfl) hb2) (res_tmp (by kernel_rfl))) ?_
  exact ⟨rfl, hB⟩

set_option maxRecDepth 100000 in
set_option maxHeartbeats 4000000 in
theorem LSplit_any (b : Nat) (l : List UInt8) (n : Nat) (hn : n ≤ l.length) (hm : l.length ≤ 268435456) (w : World) (hT : Tabs w) (hb : LeafAt w b l) :
    Calls Tryd.prog 104 #[.pointer (some ⟨b, 0, none⟩), .int .i64 n] w fun e w' => ∃ p q, e = .returned (.tuple #[.pointer (some ⟨p, 0, none⟩), .pointer (some ⟨q, 0, none⟩), .int .i64 0]) ∧ Ltr w w' ∧ LeafAt w' p (l.take n) ∧ LeafAt w' q (l.drop n) := by
  have hB := Ltr.refl w
  unfold LeafAt at hb
  have hl1 : (l.take n).length ≤ 268435456 := by rw [List.length_take]; omega
  have hl2 : (l.drop n).length ≤ 268435456 := by rw [List.length_drop]; omega
  go_enter Tryd.func104, Tryd.ntmps104
  have h4 := hT.four
  have hlt_hb := hb.lt
  refine wp_seq_k fun KK1 hKK1 => rl_begin fun hgK hgo => tk 4 (.pointer none) <| tk 5 (.pointer none) <| tk 6 (.int .i64 0) ?_
  simp only [pp]
  refine rl_end hgo <| hKK1 _ _ <| wp_seq_k fun KK2 hKK2 => wp_seq_k fun KK3 hKK3 => rl_begin fun hgK hgo => tk 8 (.pointer (some ⟨b, 0, none⟩)) <| tk 9 (.int .i64 n) ?_
  simp only [pp]
  refine rl_call (some 10) 92 #[.pointer (some ⟨b, 0, none⟩), .int .i64 n] rfl (by kernel_rfl) (by kernel_rfl) (Lplace_any b l n hn _ hb) ?_
  rintro e w4 ⟨rfl, hL4⟩
  refine ⟨_, rfl, ?_⟩
  have hz4 := hL4.size
  try simp only [pp]
  refine tk 7 (.int .i64 0) ?_
  simp only [pp]
  refine rl_end hgo <| hKK3 _ _ <| wp_seq_k fun KK5 hKK5 => rl_begin fun hgK hgo => tk 11 (.int .i64 0) ?_
  simp only [pp]
  refine tx 12 (.bool false) (by exact nef (x := 0) (y := 0) (by omega)) ?_
  simp only [pp]
  refine rl_end hgo <| hKK5 _ _ <| wp_cond_false (by kernel_rfl) <| wp_skip <| hKK2 _ _ <| wp_seq_k fun KK6 hKK6 => ?_
  refine rm_begin (fun W => Ltr w4 W) (by kernel_rfl) (by exact bl_drew (bl_refl _)) fun K7 hgo w7 hE hS7 => ?_
  have hv7 : Ltr w4 w7 := by rw [hE]; exact bl_drew (bl_refl _)
  have hz7 := hv7.size
  clear hE hS7
  refine mk 0 14 (.pointer (some ⟨b, 0, none⟩)) <| mk 1 15 (.pointer (some ⟨b, 0, none⟩)) <| mk 2 16 (.pointer (some ⟨b, 0, none⟩)) ?_
  try simp only [pp]
  replace hb := hb.later hL4
  refine mx 3 17 (.string (bs l)) rfl (fun W hW => by (exact ld 9 b 0 ((hb.later hW).cell 0))) <| mk 4 18 (.int .i64 n) ?_
  try simp only [pp]
  refine mx 5 19 (.string (bs (l.take n))) rfl (fun W hW => by (exact ex_str_take l n rfl rfl rfl (by kernel_rfl) hn (by omega) _)) <| mk 7 21 (.pointer (some ⟨b, 0, none⟩)) <| mk 8 22 (.pointer (some ⟨b, 0, none⟩)) <| mk 9 23 (.pointer (some ⟨b, 0, none⟩)) ?_
  try simp only [pp]
  refine mx 10 24 (.string (bs l)) rfl (fun W hW => by (exact ld 9 b 0 ((hb.later hW).cell 0))) <| mk 11 25 (.int .i64 n) ?_
  try simp only [pp]
  refine mx 12 26 (.string (bs (l.drop n))) rfl (fun W hW => by (exact ex_str_drop l n rfl rfl rfl (by kernel_rfl) hn (by omega) _)) ?_
  try simp only [pp]
  refine rm_pick1 (i := 6) (by kernel_rfl) ?_
  replace hT := hT.later hL4
  refine rm_callx (some 20) 102 #[.string (bs (l.take n))] rfl rfl (by kernel_rfl) (fun W hW => by kernel_rfl) (fun W hlz hW => made_any (l.take n) hl1 W (hT.later (show Ltr w4 W from hW))) (by rintro W e w' ⟨p, rfl, hL8, hp, -⟩; exact hL8) (fun _ _ h k => Ltr.trans h k) ?_
  rintro q8 e w8 hq8 hQ8 ⟨p, rfl, hL8, hp, -⟩ hS8
  refine ⟨_, rfl, ?_⟩
  have hz8 := hL8.size
  have hy8 := hq8.size
  try simp only [pp]
  refine rm_pick1 (i := 13) (by kernel_rfl) ?_
  refine rm_callx (some 27) 102 #[.string (bs (l.drop n))] rfl rfl (by kernel_rfl) (fun W hW => by kernel_rfl) (fun W hlz hW => made_any (l.drop n) hl2 W (hT.later (show Ltr w4 W from hW))) (by rintro W e w' ⟨q, rfl, hL9, hq, -⟩; exact hL9) (fun _ _ h k => Ltr.trans h k) ?_
  rintro q9 e w9 hq9 hQ9 ⟨q, rfl, hL9, hq, -⟩ hS9
  refine ⟨_, rfl, ?_⟩
  replace hp := (hp.later hq9).later hL9
  have hz9 := hL9.size
  have hy9 := hq9.size
  try simp only [pp]
  refine mk 14 4 (.pointer (some ⟨p, 0, none⟩)) <| mk 15 5 (.pointer (some ⟨q, 0, none⟩)) <| mk 16 6 (.int .i64 0) ?_
  try simp only [pp]
  refine rm_done (by kernel_rfl) (fun w10 hL10 hS10 => hgo.out _ _ ?_) _
  clear hgo K7
  have hz10 := (show Ltr w4 _ from hS10).size
  have hy10 := hL10.size
  refine hKK6 _ _ ?_
  refine wp_ret ?_
  try simp only [Exit.then, Exit.inBlock]
  refine bp_ret (v := .tuple #[.pointer (some ⟨p, 0, none⟩), .pointer (some ⟨q, 0, none⟩), .int .i64 0]) (res3 rfl (res_tmp (by kernel_rfl)) (res_tmp (by kernel_rfl)) (res_tmp (by kernel_rfl))) ?_
  replace hB := (hB.later hL4).later (show Ltr w4 _ from hS10)
  replace hp := hp.later hL10
  replace hq := hq.later hL10
  exact ⟨p, q, rfl, hB, hp, hq⟩

set_option maxRecDepth 100000 in
set_option maxHeartbeats 4000000 in
theorem LJoin_any (a b : Nat) (x y : List UInt8) (hxy : x.length + y.length ≤ 4096) (w : World) (hT : Tabs w) (ha : LeafAt w a x) (hb : LeafAt w b y) :
    Calls Tryd.prog 106 #[.pointer (some ⟨a, 0, none⟩), .pointer (some ⟨b, 0, none⟩)] w fun e w' => ∃ p, e = .returned (.tuple #[.pointer (some ⟨p, 0, none⟩), .int .i64 0]) ∧ Ltr w w' ∧ LeafAt w' p (x ++ y) := by
  have hB := Ltr.refl w
  unfold LeafAt at ha hb
  have hlen : (x ++ y).length ≤ 268435456 := by rw [List.length_append]; omega
  go_enter Tryd.func106, Tryd.ntmps106
  have h4 := hT.four
  have hlt_ha := ha.lt
  have hlt_hb := hb.lt
  refine wp_seq_k fun KK1 hKK1 => rl_begin fun hgK hgo => tk 4 (.pointer none) <| tk 5 (.int .i64 0) ?_
  simp only [pp]
  refine rl_end hgo <| hKK1 _ _ <| wp_seq_k fun KK2 hKK2 => wp_block <| wp_seq_k fun KK3 hKK3 => rl_begin fun hgK hgo => tk 7 (.pointer (some ⟨a, 0, none⟩)) <| tk 8 (.bool false) <| tk 9 (.bool false) <| tk 10 (.pointer (some ⟨b, 0, none⟩)) <| tk 11 (.bool false) <| tk 12 (.bool false) <| tk 6 (.bool false) ?_
  simp only [pp]
  refine rl_end hgo <| hKK3 _ _ <| wp_cond_false (by kernel_rfl) <| wp_seq_k fun KK4 hKK4 => rl_begin fun hgK hgo => tk 14 (.pointer (some ⟨a, 0, none⟩)) ?_
  simp only [pp]
  refine rl_call (some 15) 103 #[.pointer (some ⟨a, 0, none⟩)] rfl (by kernel_rfl) (by kernel_rfl) (LLen_any a x _ ha) ?_
  rintro e w5 ⟨rfl, hL5⟩
  refine ⟨_, rfl, ?_⟩
  have hz5 := hL5.size
  try simp only [pp]
  refine tk 16 (.pointer (some ⟨b, 0, none⟩)) ?_
  simp only [pp]
  replace hb := hb.later hL5
  refine rl_call (some 17) 103 #[.pointer (some ⟨b, 0, none⟩)] rfl (by kernel_rfl) (by kernel_rfl) (LLen_any b y _ hb) ?_
  rintro e w6 ⟨rfl, hL6⟩
  refine ⟨_, rfl, ?_⟩
  have hz6 := hL6.size
  try simp only [pp]
  refine tx 18 (.int .i64 ((x.length : Int) + y.length)) (by exact ex_arith (e := (x.length : Int) + y.length) (r := (x.length : Int) + y.length) (by kernel_rfl) (by omega) (by omega)) ?_
  simp only [pp]
  refine tx 19 (.bool false) (by exact ex_bool (c := (((x.length : Int) + y.length) : Int) > 4096) (by kernel_rfl) ⟨fun q => (by cases q), fun q => absurd q (by omega)⟩) <| tk 13 (.bool false) ?_
  simp only [pp]
  refine rl_end hgo <| hKK4 _ _ <| wp_cond_false (by kernel_rfl) <| wp_skip <| hKK2 _ _ <| wp_seq_k fun KK7 hKK7 => ?_
  refine rm_begin (fun W => Ltr w6 W) (by kernel_rfl) (by exact bl_drew (bl_refl _)) fun K8 hgo w8 hE hS8 => ?_
  have hv8 : Ltr w6 w8 := by rw [hE]; exact bl_drew (bl_refl _)
  have hz8 := hv8.size
  clear hE hS8
  refine mk 0 20 (.pointer (some ⟨a, 0, none⟩)) <| mk 1 21 (.pointer (some ⟨a, 0, none⟩)) <| mk 2 22 (.pointer (some ⟨a, 0, none⟩)) ?_
  try simp only [pp]
  replace ha := (ha.later hL5).later hL6
  refine mx 3 23 (.string (bs x)) rfl (fun W hW => by (exact ld 9 a 0 ((ha.later hW).cell 0))) <| mk 4 24 (.pointer (some ⟨b, 0, none⟩)) <| mk 5 25 (.pointer (some ⟨b, 0, none⟩)) <| mk 6 26 (.pointer (some ⟨b, 0, none⟩)) ?_
  try simp only [pp]
  replace hb := hb.later hL6
  refine mx 7 27 (.string (bs y)) rfl (fun W hW => by (exact ld 9 b 0 ((hb.later hW).cell 0))) ?_
  try simp only [pp]
  refine mx 8 28 (.string (bs (x ++ y))) rfl (fun W hW => by (exact ex_str_add x y rfl rfl rfl (by omega) _)) ?_
  try simp only [pp]
  refine rm_pick1 (i := 9) (by kernel_rfl) ?_
  replace hT := (hT.later hL5).later hL6
  refine rm_callx (some 29) 102 #[.string (bs (x ++ y))] rfl rfl (by kernel_rfl) (fun W hW => by kernel_rfl) (fun W hlz hW => made_any (x ++ y) hlen W (hT.later (show Ltr w6 W from hW))) (by rintro W e w' ⟨p, rfl, hL9, hp, -⟩; exact hL9) (fun _ _ h k => Ltr.trans h k) ?_
  rintro q9 e w9 hq9 hQ9 ⟨p, rfl, hL9, hp, -⟩ hS9
  refine ⟨_, rfl, ?_⟩
  have hz9 := hL9.size
  have hy9 := hq9.size
  try simp only [pp]
  refine mk 10 4 (.pointer (some ⟨p, 0, none⟩)) <| mk 11 5 (.int .i64 0) ?_
  try simp only [pp]
  refine rm_done (by kernel_rfl) (fun w10 hL10 hS10 => hgo.out _ _ ?_) _
  clear hgo K8
  have hz10 := (show Ltr w6 _ from hS10).size
  have hy10 := hL10.size
  refine hKK7 _ _ ?_
  refine wp_ret ?_
  try simp only [Exit.then, Exit.inBlock]
  refine bp_ret (v := .tuple #[.pointer (some ⟨p, 0, none⟩), .int .i64 0]) (res2 rfl (res_tmp (by kernel_rfl)) (res_tmp (by kernel_rfl))) ?_
  replace hB := ((hB.later hL5).later hL6).later (show Ltr w6 _ from hS10)
  replace hp := hp.later hL10
  exact ⟨p, rfl, hB, hp⟩

theorem ex_max2 {o : Oper} {ρ : Operand → Value} {x y : Operand} {ats : Array TypeId} {a b r : Int} {w : World} (ho : o.op = .call { callee := .builtin .max, args := #[x, y], argTypes := ats }) (hx : ρ x = .int .i64 a) (hy : ρ y = .int .i64 b) (hr : max a b = r) :
    (execOp ρ o).run Tryd.prog w = .ok (.value (.int .i64 r)) w := by
  have h : (if b > a then b else a) = r := by rw [← hr]; omega
  unfold execOp
  simp only [ho]
  subst h
  go_simp
theorem ex_min2 {o : Oper} {ρ : Operand → Value} {x y : Operand} {ats : Array TypeId} {a b r : Int} {w : World} (ho : o.op = .call { callee := .builtin .min, args := #[x, y], argTypes := ats }) (hx : ρ x = .int .i64 a) (hy : ρ y = .int .i64 b) (hr : min a b = r) :
    (execOp ρ o).run Tryd.prog w = .ok (.value (.int .i64 r)) w := by
  have h : (if b < a then b else a) = r := by rw [← hr]; omega
  unfold execOp
  simp only [ho]
  subst h
  go_simp

/-! ### trees -/
inductive Tr where
  | tip (l : List UInt8) : Tr
  | fork (x y : Tr) : Tr
namespace Tr
def bytes : Tr → List UInt8
  | tip l => l
  | fork x y => x.bytes ++ y.bytes
def h : Tr → Nat
  | tip _ => 1
  | fork x y => 1 + max x.h y.h
def ok : Tr → Prop
  | tip l => 0 < l.length ∧ l.length ≤ 4096
  | fork x y => x.ok ∧ y.ok ∧ x.h ≤ y.h + 1 ∧ y.h ≤ x.h + 1
theorem h_pos : ∀ t : Tr, 1 ≤ t.h
  | tip _ => Nat.le_refl _
  | fork x y => by simp only [h]; omega
theorem len_pos : ∀ t : Tr, t.ok → 0 < t.bytes.length
  | tip l, h => h.1
  | fork x y, h => by have := len_pos x h.1; simp only [bytes, List.length_append]; omega
theorem h_le : ∀ t : Tr, t.ok → t.h ≤ t.bytes.length
  | tip l, h => h.1
  | fork x y, h => by
    have h1 := h_le x h.1; have h2 := h_le y h.2.1
    have h3 := len_pos x h.1; have h4 := len_pos y h.2.1
    simp only [Tr.h, bytes, List.length_append]; omega
end Tr
/-- a tree in memory, its blocks below n -/
def TreeIn (n : Nat) (w : World) : Tr → Value → Prop
  | .tip l, v => ∃ b, v = .iface 118 (.agg #[.pointer (some ⟨b, 0, none⟩)]) ∧ b < n ∧ LeafAt w b l
  | .fork x y, v => ∃ b vx vy, v = .iface 111 (.pointer (some ⟨b, 0, none⟩)) ∧ b < n ∧
      Blk w b 115 #[vx, vy, .int .i64 (x.bytes ++ y.bytes).length, .int .i64 ((1 + max x.h y.h : Nat) : Int), .int .i64 (x.bytes ++ y.bytes).length, .int .i64 (runesN (x.bytes ++ y.bytes)), .int .i64 (unitsN (x.bytes ++ y.bytes)), .int .i64 (endsN (x.bytes ++ y.bytes)), .string (bs (headOf (x.bytes ++ y.bytes))), .string (bs (tailOf (x.bytes ++ y.bytes)))] ∧ TreeIn n w x vx ∧ TreeIn n w y vy
theorem TreeIn.below {n m : Nat} {w w' : World} (hm : n ≤ m) (hb : Below n w w') : ∀ {t : Tr} {v : Value}, TreeIn n w t v → TreeIn m w' t v
  | .tip l, v, ⟨b, e, h1, h2⟩ => ⟨b, e, by omega, h2.belowN hb h1⟩
  | .fork x y, v, ⟨b, vx, vy, e, h1, h2, h3, h4⟩ => ⟨b, vx, vy, e, by omega, h2.belowN hb h1, h3.below hm hb, h4.below hm hb⟩
theorem TreeIn.upd {n g : Nat} {w w' : World} (hu : Upd g w w') (hg : n ≤ g) : ∀ {t : Tr} {v : Value}, TreeIn n w t v → TreeIn n w' t v
  | .tip l, v, ⟨b, e, h1, h2⟩ => ⟨b, e, h1, Blk.upd h2 hu (by omega)⟩
  | .fork x y, v, ⟨b, vx, vy, e, h1, h2, h3, h4⟩ => ⟨b, vx, vy, e, h1, Blk.upd h2 hu (by omega), h3.upd hu hg, h4.upd hu hg⟩
theorem TreeIn.iface {n : Nat} {w : World} : ∀ {t : Tr} {v : Value}, TreeIn n w t v → ∃ ty x, v = .iface ty x
  | .tip l, v, ⟨b, e, _⟩ => ⟨_, _, e⟩
  | .fork x y, v, ⟨b, vx, vy, e, _⟩ => ⟨_, _, e⟩
def Tree (w : World) (t : Tr) (v : Value) : Prop := TreeIn w.heap.size w t v
theorem Tree.later {w w' : World} {t : Tr} {v : Value} (h : Tree w t v) (hl : Ltr w w') : Tree w' t v := TreeIn.below hl.size hl h
theorem Tree.upd {w w' : World} {g : Nat} {t : Tr} {v : Value} {n : Nat} (h : TreeIn n w t v) (hu : Upd g w w') (hg : n ≤ g) : TreeIn n w' t v := h.upd hu hg
theorem TreeIn.later {n : Nat} {w w' : World} {t : Tr} {v : Value} (h : TreeIn n w t v) (hl : Ltr w w') (hn : n ≤ w.heap.size) : TreeIn n w' t v := h.below (Nat.le_refl _) (Below.mono hl hn)
theorem TreeIn.tree {n : Nat} {w : World} {t : Tr} {v : Value} (h : TreeIn n w t v) (hn : n ≤ w.heap.size) : Tree w t v := TreeIn.below hn (Below.refl _ _) h
theorem Tree.iface {w : World} {t : Tr} {v : Value} (h : Tree w t v) : ∃ ty x, v = .iface ty x := TreeIn.iface h
theorem Tree.fork_open {w : World} {x y : Tr} {v : Value} (h : Tree w (.fork x y) v) : ∃ b vx vy, v = .iface 111 (.pointer (some ⟨b, 0, none⟩)) ∧
    Blk w b 115 #[vx, vy, .int .i64 (x.bytes ++ y.bytes).length, .int .i64 ((1 + max x.h y.h : Nat) : Int), .int .i64 (x.bytes ++ y.bytes).length, .int .i64 (runesN (x.bytes ++ y.bytes)), .int .i64 (unitsN (x.bytes ++ y.bytes)), .int .i64 (endsN (x.bytes ++ y.bytes)), .string (bs (headOf (x.bytes ++ y.bytes))), .string (bs (tailOf (x.bytes ++ y.bytes)))] ∧ Tree w x vx ∧ Tree w y vy :=
  let ⟨b, vx, vy, e, _, h2, h3, h4⟩ := h; ⟨b, vx, vy, e, h2, h3, h4⟩
theorem Tree.tip_open {w : World} {l : List UInt8} {v : Value} (h : Tree w (.tip l) v) : ∃ b, v = .iface 118 (.agg #[.pointer (some ⟨b, 0, none⟩)]) ∧ LeafAt w b l :=
  let ⟨b, e, _, h2⟩ := h; ⟨b, e, h2⟩
theorem Tree.tip_mk {w : World} {l : List UInt8} {b : Nat} (h : LeafAt w b l) : Tree w (.tip l) (.iface 118 (.agg #[.pointer (some ⟨b, 0, none⟩)])) := ⟨b, rfl, Blk.lt h, h⟩
theorem Tree.fork_mk {w : World} {x y : Tr} {b : Nat} {vx vy : Value} (h : Blk w b 115 #[vx, vy, .int .i64 (x.bytes ++ y.bytes).length, .int .i64 ((1 + max x.h y.h : Nat) : Int), .int .i64 (x.bytes ++ y.bytes).length, .int .i64 (runesN (x.bytes ++ y.bytes)), .int .i64 (unitsN (x.bytes ++ y.bytes)), .int .i64 (endsN (x.bytes ++ y.bytes)), .string (bs (headOf (x.bytes ++ y.bytes))), .string (bs (tailOf (x.bytes ++ y.bytes)))])
    (hx : Tree w x vx) (hy : Tree w y vy) : Tree w (.fork x y) (.iface 111 (.pointer (some ⟨b, 0, none⟩))) := ⟨b, vx, vy, rfl, Blk.lt h, h, hx, hy⟩
/-- a node, or none -/
def Node (w : World) (l : List UInt8) (v : Value) : Prop := (l = [] ∧ v = .nilIface) ∨ ∃ t : Tr, t.ok ∧ t.bytes = l ∧ Tree w t v
theorem Node.later {w w' : World} {l : List UInt8} {v : Value} (h : Node w l v) (hl : Ltr w w') : Node w' l v := h.imp id fun ⟨t, h1, h2, h3⟩ => ⟨t, h1, h2, h3.later hl⟩

/-! ### the nodes' methods -/
set_option maxRecDepth 100000 in
theorem tsize_any (b : Nat) (l : List UInt8) (w : World) (hb : LeafAt w b l) :
    Calls Tryd.prog 161 #[.agg #[.pointer (some ⟨b, 0, none⟩)]] w fun e w' => e = .returned (.int .i64 l.length) ∧ Ltr w w' := by
  have hB := Ltr.refl w
  go_enter Tryd.func161, Tryd.ntmps161
  refine wp_seq_k fun KK1 hKK1 => rl_begin fun hgK hgo => ?_
  refine rl_alloc (some 1) 118 #[.pointer (some ⟨b, 0, none⟩)] rfl (by kernel_rfl) (fun W => by kernel_rfl) fun p2 w2 hL2 hp2 hb2 => ?_
  have hz2 := hL2.size
  have hlt2 := hb2.lt
  try simp only [pp]
  refine tk 2 (.int .i64 0) ?_
  simp only [pp]
  refine rl_end hgo <| hKK1 _ _ <| wp_seq_k fun KK3 hKK3 => rl_begin fun hgK hgo => tk 3 (.pointer (some ⟨p2, 0, none⟩)) ?_
  simp only [pp]
  refine tx 4 (.pointer (some ⟨b, 0, none⟩)) (by exact ld 116 p2 0 (hb2.cell 0)) ?_
  simp only [pp]
  replace hb := hb.later hL2
  refine rl_call (some 5) 103 #[.pointer (some ⟨b, 0, none⟩)] rfl (by kernel_rfl) (by kernel_rfl) (LLen_any b l _ hb) ?_
  rintro e w4 ⟨rfl, hL4⟩
  refine ⟨_, rfl, ?_⟩
  have hz4 := hL4.size
  try simp only [pp]
  refine tk 2 (.int .i64 l.length) ?_
  simp only [pp]
  refine rl_end hgo <| hKK3 _ _ ?_
  refine wp_ret ?_
  try simp only [Exit.then, Exit.inBlock]
  refine bp_ret (v := .int .i64 l.length) (res1 rfl (res_tmp (by kernel_rfl))) ?_
  replace hB := (hB.later hL2).later hL4
  exact ⟨rfl, hB⟩
set_option maxRecDepth 100000 in
theorem tweld_any (b : Nat) (l : List UInt8) (w : World) (hb : LeafAt w b l) :
    Calls Tryd.prog 162 #[.agg #[.pointer (some ⟨b, 0, none⟩)]] w fun e w' => e = .returned (wv l) ∧ Ltr w w' := by
  have hB := Ltr.refl w
  unfold LeafAt at hb
  go_enter Tryd.func162, Tryd.ntmps162
  have hlt_hb := hb.lt
  refine wp_seq_k fun KK1 hKK1 => rl_begin fun hgK hgo => ?_
  refine rl_alloc (some 1) 118 #[.pointer (some ⟨b, 0, none⟩)] rfl (by kernel_rfl) (fun W => by kernel_rfl) fun p2 w2 hL2 hp2 hb2 => ?_
  have hz2 := hL2.size
  have hlt2 := hb2.lt
  try simp only [pp]
  refine rl_alloc (some 2) 36 #[.int .i64 0, .int .i64 0, .int .i64 0, .int .i64 0, .string ⟨#[]⟩, .string ⟨#[]⟩] rfl (by kernel_rfl) (fun W => by kernel_rfl) fun p3 w3 hL3 hp3 hb3 => ?_
  have hz3 := hL3.size
  have hlt3 := hb3.lt
  try simp only [pp]
  refine rl_end hgo <| hKK1 _ _ <| wp_seq_k fun KK4 hKK4 => rl_begin fun hgK hgo => tk 3 (.pointer (some ⟨p2, 0, none⟩)) ?_
  simp only [pp]
  replace hb2 := hb2.later hL3
  refine tx 4 (.pointer (some ⟨b, 0, none⟩)) (by exact ld 116 p2 0 (hb2.cell 0)) ?_
  simp only [pp]
  replace hb := (hb.later hL2).later hL3
  refine rl_call (some 5) 163 #[.pointer (some ⟨b, 0, none⟩)] rfl (by kernel_rfl) (by kernel_rfl) (LWeld_any b l _ hb) ?_
  rintro e w5 ⟨rfl, hL5⟩
  refine ⟨_, rfl, ?_⟩
  have hz5 := hL5.size
  try simp only [pp]
  replace hb3 := hb3.later hL5
  refine rl_store p3 #[.int .i64 l.length, .int .i64 (runesN l), .int .i64 (unitsN l), .int .i64 (endsN l), .string (bs (headOf l)), .string (bs (tailOf l))] rfl rfl (by kernel_rfl) rfl rfl (by kernel_rfl) hb3 rfl (by kernel_rfl) fun w6 hU6 hn6 => ?_
  have hz6 := hU6.size
  replace hB := ((hB.later hL2).later hL3).later hL5
  replace hB := hB.upd hU6 (by omega)
  replace hb := hb.later hL5
  replace hb := hb.upd hU6 (by omega)
  replace hb2 := hb2.later hL5
  replace hb2 := hb2.upd hU6 (by omega)
  clear hb3
  have hb3 := hn6
  clear hn6
  try simp only [pp]
  refine rl_end hgo <| hKK4 _ _ ?_
  refine wp_ret ?_
  try simp only [Exit.then, Exit.inBlock]
  refine bp_ret (v := .agg #[.int .i64 l.length, .int .i64 (runesN l), .int .i64 (unitsN l), .int .i64 (endsN l), .string (bs (headOf l)), .string (bs (tailOf l))]) (res1 rfl (res_cell (b := p3) (cs := [.int .i64 l.length, .int .i64 (runesN l), .int .i64 (unitsN l), .int .i64 (endsN l), .string (bs (headOf l)), .string (bs (tailOf l))]) (by kernel_rfl) (fun _ => by kernel_rfl) (by kernel_rfl) hb3)) ?_
  exact ⟨rfl, hB⟩

set_option maxRecDepth 100000 in
theorem theight_any (x : Option Addr) (w : World) :
    Calls Tryd.prog 160 #[.agg #[.pointer x]] w fun e w' => e = .returned (.int .i64 1) ∧ Ltr w w' := by
  have hB := Ltr.refl w
  go_enter Tryd.func160, Tryd.ntmps160
  refine wp_seq_k fun KK1 hKK1 => rl_begin fun hgK hgo => ?_
  refine rl_alloc (some 1) 118 #[.pointer x] rfl (by kernel_rfl) (fun W => by kernel_rfl) fun p2 w2 hL2 hp2 hb2 => ?_
  have hz2 := hL2.size
  have hlt2 := hb2.lt
  try simp only [pp]
  refine tk 2 (.int .i64 0) ?_
  simp only [pp]
  refine rl_end hgo <| hKK1 _ _ <| wp_seq_k fun KK3 hKK3 => rl_begin fun hgK hgo => tk 2 (.int .i64 1) ?_
  simp only [pp]
  refine rl_end hgo <| hKK3 _ _ ?_
  refine wp_ret ?_
  try simp only [Exit.then, Exit.inBlock]
  refine bp_ret (v := .int .i64 1) (res1 rfl (res_tmp (by kernel_rfl))) ?_
  replace hB := hB.later hL2
  exact ⟨rfl, hB⟩
set_option maxRecDepth 100000 in
theorem fsize_any (b : Nat) (vx vy : Value) (n h : Int) (l : List UInt8) (w : World) (hb : Blk w b 115 #[vx, vy, .int .i64 n, .int .i64 h, .int .i64 l.length, .int .i64 (runesN l), .int .i64 (unitsN l), .int .i64 (endsN l), .string (bs (headOf l)), .string (bs (tailOf l))]) :
    Calls Tryd.prog 158 #[.pointer (some ⟨b, 0, none⟩)] w fun e w' => e = .returned (.int .i64 n) ∧ Ltr w w' := by
  have hB := Ltr.refl w
  go_enter Tryd.func158, Tryd.ntmps158
  have hlt_hb := hb.lt
  refine wp_seq_k fun KK1 hKK1 => rl_begin fun hgK hgo => tk 2 (.int .i64 0) ?_
  simp only [pp]
  refine rl_end hgo <| hKK1 _ _ <| wp_seq_k fun KK2 hKK2 => rl_begin fun hgK hgo => tk 3 (.pointer (some ⟨b, 0, none⟩)) <| tk 4 (.pointer (some ⟨b, 0, none⟩)) <| tk 5 (.pointer (some ⟨b, 2, none⟩)) ?_
  simp only [pp]
  refine tx 6 (.int .i64 n) (by exact ld 3 b 2 (hb.cell 2)) <| tk 2 (.int .i64 n) ?_
  simp only [pp]
  refine rl_end hgo <| hKK2 _ _ ?_
  refine wp_ret ?_
  try simp only [Exit.then, Exit.inBlock]
  refine bp_ret (v := .int .i64 n) (res1 rfl (res_tmp (by kernel_rfl))) ?_
  exact ⟨rfl, hB⟩
set_option maxRecDepth 100000 in
theorem fweld_any (b : Nat) (vx vy : Value) (n h : Int) (l : List UInt8) (w : World) (hb : Blk w b 115 #[vx, vy, .int .i64 n, .int .i64 h, .int .i64 l.length, .int .i64 (runesN l), .int .i64 (unitsN l), .int .i64 (endsN l), .string (bs (headOf l)), .string (bs (tailOf l))]) :
    Calls Tryd.prog 159 #[.pointer (some ⟨b, 0, none⟩)] w fun e w' => e = .returned (wv l) ∧ Ltr w w' := by
  have hB := Ltr.refl w
  go_enter Tryd.func159, Tryd.ntmps159
  have hlt_hb := hb.lt
  refine wp_seq_k fun KK1 hKK1 => rl_begin fun hgK hgo => ?_
  refine rl_alloc (some 2) 36 #[.int .i64 0, .int .i64 0, .int .i64 0, .int .i64 0, .string ⟨#[]⟩, .string ⟨#[]⟩] rfl (by kernel_rfl) (fun W => by kernel_rfl) fun p2 w2 hL2 hp2 hb2 => ?_
  have hz2 := hL2.size
  have hlt2 := hb2.lt
  try simp only [pp]
  refine rl_end hgo <| hKK1 _ _ <| wp_seq_k fun KK3 hKK3 => rl_begin fun hgK hgo => tk 3 (.pointer (some ⟨b, 0, none⟩)) <| tk 4 (.pointer (some ⟨b, 0, none⟩)) <| tk 5 (.pointer (some ⟨b, 4, none⟩)) ?_
  simp only [pp]
  replace hb := hb.later hL2
  refine tx 6 (.agg #[.int .i64 l.length, .int .i64 (runesN l), .int .i64 (unitsN l), .int .i64 (endsN l), .string (bs (headOf l)), .string (bs (tailOf l))]) (by exact ldN 36 _ rfl b 4 rfl (fun _ => by kernel_rfl) [vx, vy, .int .i64 n, .int .i64 h] [.int .i64 l.length, .int .i64 (runesN l), .int .i64 (unitsN l), .int .i64 (endsN l), .string (bs (headOf l)), .string (bs (tailOf l))] [] (by kernel_rfl) hb rfl rfl) ?_
  simp only [pp]
  refine rl_store p2 #[.int .i64 l.length, .int .i64 (runesN l), .int .i64 (unitsN l), .int .i64 (endsN l), .string (bs (headOf l)), .string (bs (tailOf l))] rfl rfl (by kernel_rfl) rfl rfl (by kernel_rfl) hb2 rfl (by kernel_rfl) fun w4 hU4 hn4 => ?_
  have hz4 := hU4.size
  replace hB := hB.later hL2
  replace hB := hB.upd hU4 (by omega)
  replace hb := hb.upd hU4 (by omega)
  clear hb2
  have hb2 := hn4
  clear hn4
  try simp only [pp]
  refine rl_end hgo <| hKK3 _ _ ?_
  refine wp_ret ?_
  try simp only [Exit.then, Exit.inBlock]
  refine bp_ret (v := .agg #[.int .i64 l.length, .int .i64 (runesN l), .int .i64 (unitsN l), .int .i64 (endsN l), .string (bs (headOf l)), .string (bs (tailOf l))]) (res1 rfl (res_cell (b := p2) (cs := [.int .i64 l.length, .int .i64 (runesN l), .int .i64 (unitsN l), .int .i64 (endsN l), .string (bs (headOf l)), .string (bs (tailOf l))]) (by kernel_rfl) (fun _ => by kernel_rfl) (by kernel_rfl) hb2)) ?_
  exact ⟨rfl, hB⟩
set_option maxRecDepth 100000 in
theorem fheight_any (b : Nat) (vx vy : Value) (n h : Int) (l : List UInt8) (w : World) (hb : Blk w b 115 #[vx, vy, .int .i64 n, .int .i64 h, .int .i64 l.length, .int .i64 (runesN l), .int .i64 (unitsN l), .int .i64 (endsN l), .string (bs (headOf l)), .string (bs (tailOf l))]) :
    Calls Tryd.prog 157 #[.pointer (some ⟨b, 0, none⟩)] w fun e w' => e = .returned (.int .i64 h) ∧ Ltr w w' := by
  have hB := Ltr.refl w
  go_enter Tryd.func157, Tryd.ntmps157
  have hlt_hb := hb.lt
  refine wp_seq_k fun KK1 hKK1 => rl_begin fun hgK hgo => tk 2 (.int .i64 0) ?_
  simp only [pp]
  refine rl_end hgo <| hKK1 _ _ <| wp_seq_k fun KK2 hKK2 => rl_begin fun hgK hgo => tk 3 (.pointer (some ⟨b, 0, none⟩)) <| tk 4 (.pointer (some ⟨b, 0, none⟩)) <| tk 5 (.pointer (some ⟨b, 3, none⟩)) ?_
  simp only [pp]
  refine tx 6 (.int .i64 h) (by exact ld 3 b 3 (hb.cell 3)) <| tk 2 (.int .i64 h) ?_
  simp only [pp]
  refine rl_end hgo <| hKK2 _ _ ?_
  refine wp_ret ?_
  try simp only [Exit.then, Exit.inBlock]
  refine bp_ret (v := .int .i64 h) (res1 rfl (res_tmp (by kernel_rfl))) ?_
  exact ⟨rfl, hB⟩

/-! ### a method called on a node -/
/-- what a call of a method on this value enters -/
def Enters (v : Value) (m : String) (f : FuncId) (x : Value) : Prop :=
  ∀ (o : Oper) (ρ : Operand → Value) (r : Operand) (w : World), o.op = .call { callee := .invoke r m, args := #[], argTypes := #[] } → ρ r = v → (execOp ρ o).run Tryd.prog w = .ok (.enter f #[x]) w
theorem enters_resolve {o : Oper} {ρ : Operand → Value} {r : Operand} {m : String} {v : Value} {w : World} (ho : o.op = .call { callee := .invoke r m, args := #[], argTypes := #[] }) (hr : ρ r = v) :
    (execOp ρ o).run Tryd.prog w = (invoke (.fn (.method m) #[]) #[v]).run Tryd.prog w := by
  have h : resolve ρ { callee := .invoke r m, args := #[], argTypes := #[] } o.type = pure { target := .fn (.method m) #[], args := #[v] } := by
    unfold resolve; simp [hr]
  unfold execOp
  simp only [ho, h, Sem.run_bind, Sem.run_pure, Result.andThen_ok]
theorem inv_size {w : World} {t : Tr} {v : Value} (h : Tree w t v) : ∃ f x, Enters v "galley/rope.size" f x ∧ ∀ W, Ltr w W → Calls Tryd.prog f #[x] W fun e w' => e = .returned (.int .i64 t.bytes.length) ∧ Ltr W w' := by
  cases t with
  | tip l =>
    obtain ⟨b, rfl, hl⟩ := h.tip_open
    exact ⟨161, .agg #[.pointer (some ⟨b, 0, none⟩)], fun o ρ r w ho hr => by (rw [enters_resolve ho hr]; kernel_rfl), fun W hW => tsize_any b l W (hl.later hW)⟩
  | fork x y =>
    obtain ⟨b, vx, vy, rfl, hb, hx, hy⟩ := h.fork_open
    exact ⟨158, .pointer (some ⟨b, 0, none⟩), fun o ρ r w ho hr => by (rw [enters_resolve ho hr]; kernel_rfl), fun W hW => fsize_any b vx vy _ _ _ W (hb.later hW)⟩
theorem inv_height {w : World} {t : Tr} {v : Value} (h : Tree w t v) : ∃ f x, Enters v "galley/rope.height" f x ∧ ∀ W, Ltr w W → Calls Tryd.prog f #[x] W fun e w' => e = .returned (.int .i64 (t.h : Int)) ∧ Ltr W w' := by
  cases t with
  | tip l =>
    obtain ⟨b, rfl, hl⟩ := h.tip_open
    exact ⟨160, .agg #[.pointer (some ⟨b, 0, none⟩)], fun o ρ r w ho hr => by (rw [enters_resolve ho hr]; kernel_rfl), fun W hW => theight_any _ W⟩
  | fork x y =>
    obtain ⟨b, vx, vy, rfl, hb, hx, hy⟩ := h.fork_open
    exact ⟨157, .pointer (some ⟨b, 0, none⟩), fun o ρ r w ho hr => by (rw [enters_resolve ho hr]; kernel_rfl), fun W hW => fheight_any b vx vy _ _ _ W (hb.later hW)⟩
theorem inv_weld {w : World} {t : Tr} {v : Value} (h : Tree w t v) : ∃ f x, Enters v "galley/rope.weld" f x ∧ ∀ W, Ltr w W → Calls Tryd.prog f #[x] W fun e w' => e = .returned (wv t.bytes) ∧ Ltr W w' := by
  cases t with
  | tip l =>
    obtain ⟨b, rfl, hl⟩ := h.tip_open
    exact ⟨162, .agg #[.pointer (some ⟨b, 0, none⟩)], fun o ρ r w ho hr => by (rw [enters_resolve ho hr]; kernel_rfl), fun W hW => tweld_any b l W (hl.later hW)⟩
  | fork x y =>
    obtain ⟨b, vx, vy, rfl, hb, hx, hy⟩ := h.fork_open
    exact ⟨159, .pointer (some ⟨b, 0, none⟩), fun o ρ r w ho hr => by (rw [enters_resolve ho hr]; kernel_rfl), fun W hW => fweld_any b vx vy _ _ _ W (hb.later hW)⟩
end Go.Proofs.YtliphfgiaioebaaDoor
