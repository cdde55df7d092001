/-
  Package weld: Join; package rope: both.
-/
import Derived.Test.YtliphfgiaioebaaDoorWeld5
import Derived.Test.YtliphfgiaioebaaDoorWalk
namespace Go.Proofs.YtliphfgiaioebaaDoor
set_option linter.unusedVariables false
set_option linter.unusedSimpArgs false
open Go.RowKit

/-- the measure of bytes, as a value -/
def wv (l : List UInt8) : Value := .agg #[.int .i64 l.length, .int .i64 (runesN l), .int .i64 (unitsN l), .int .i64 (endsN l), .string (bs (headOf l)), .string (bs (tailOf l))]
theorem weldOf_wv (l : List UInt8) : (weldOf l).val = wv l := weldOf_val l
theorem both_wv (a b : List UInt8) (hm : a.length + b.length ≤ 268435456) (w : World) (hT : Tabs w) :
    Calls Tryd.prog 85 #[wv a, wv b] w fun e w' => e = .returned (.tuple #[wv (a ++ b), szV 0 (seamOf a b).1 (seamOf a b).2 (seamE a b), .int .i64 0]) ∧ Ltr w w' := by
  have := both_any a b hm w hT
  rwa [weldOf_wv, weldOf_wv, weldOf_wv] at this

set_option maxRecDepth 100000 in
set_option maxHeartbeats 4000000 in
theorem WJoin_any (a b : List UInt8) (hm : a.length + b.length ≤ 268435456) (w : World) (hT : Tabs w) :
    Calls Tryd.prog 40 #[wv a, wv b] w fun e w' => e = .returned (.tuple #[wv (a ++ b), .int .i64 0]) ∧ Ltr w w' := by
  have hB := Ltr.refl w
  unfold wv
  go_enter Tryd.func40, Tryd.ntmps40
  have h4 := hT.four
  refine wp_seq_k fun KK1 hKK1 => ?_
  refine rl_begin fun hgK hgo => ?_
  refine rl_alloc (some 2) 36 #[.int .i64 a.length, .int .i64 (runesN a), .int .i64 (unitsN a), .int .i64 (endsN a), .string (bs (headOf a)), .string (bs (tailOf a))] rfl (by kernel_rfl) (fun W => by kernel_rfl) fun p2 w2 hL2 hp2 hb2 => ?_
  replace hT := hT.later hL2
  replace hB := hB.later hL2
  have hz2 := hL2.size
  have hlt2 := hb2.lt
  try simp only [pa, pn, pb, pc, pd]
  refine rl_alloc (some 3) 36 #[.int .i64 b.length, .int .i64 (runesN b), .int .i64 (unitsN b), .int .i64 (endsN b), .string (bs (headOf b)), .string (bs (tailOf b))] rfl (by kernel_rfl) (fun W => by kernel_rfl) fun p3 w3 hL3 hp3 hb3 => ?_
  replace hT := hT.later hL3
  replace hB := hB.later hL3
  replace hb2 := hb2.later hL3
  have hz3 := hL3.size
  have hlt3 := hb3.lt
  try simp only [pa, pn, pb, pc, pd]
  refine rl_alloc (some 4) 36 #[.int .i64 0, .int .i64 0, .int .i64 0, .int .i64 0, .string ⟨#[]⟩, .string ⟨#[]⟩] rfl (by kernel_rfl) (fun W => by kernel_rfl) fun p4 w4 hL4 hp4 hb4 => ?_
  replace hT := hT.later hL4
  replace hB := hB.later hL4
  replace hb2 := hb2.later hL4
  replace hb3 := hb3.later hL4
  have hz4 := hL4.size
  have hlt4 := hb4.lt
  try simp only [pa, pn, pb, pc, pd]
  refine rl_take (some 5) (.int .i64 0) rfl (by kernel_rfl) (by kernel_rfl) ?_
  try simp only [pa, pn, pb, pc, pd]
  refine rl_nil ?_
  refine hgo.out _ _ ?_
  clear hgo hgK
  refine hKK1 _ _ ?_
  refine wp_seq_k fun KK5 hKK5 => ?_
  refine rl_begin fun hgK hgo => ?_
  refine rl_take (some 10) (.agg #[.int .i64 a.length, .int .i64 (runesN a), .int .i64 (unitsN a), .int .i64 (endsN a), .string (bs (headOf a)), .string (bs (tailOf a))]) rfl (by kernel_rfl) (by exact ldN 36 _ rfl p2 0 rfl (fun _ => by kernel_rfl) [] [.int .i64 a.length, .int .i64 (runesN a), .int .i64 (unitsN a), .int .i64 (endsN a), .string (bs (headOf a)), .string (bs (tailOf a))] [] (by kernel_rfl) hb2 rfl rfl) ?_
  try simp only [pa, pn, pb, pc, pd]
  refine rl_take (some 11) (.agg #[.int .i64 b.length, .int .i64 (runesN b), .int .i64 (unitsN b), .int .i64 (endsN b), .string (bs (headOf b)), .string (bs (tailOf b))]) rfl (by kernel_rfl) (by exact ldN 36 _ rfl p3 0 rfl (fun _ => by kernel_rfl) [] [.int .i64 b.length, .int .i64 (runesN b), .int .i64 (unitsN b), .int .i64 (endsN b), .string (bs (headOf b)), .string (bs (tailOf b))] [] (by kernel_rfl) hb3 rfl rfl) ?_
  try simp only [pa, pn, pb, pc, pd]
  refine rl_call (some 12) 85 #[.agg #[.int .i64 a.length, .int .i64 (runesN a), .int .i64 (unitsN a), .int .i64 (endsN a), .string (bs (headOf a)), .string (bs (tailOf a))], .agg #[.int .i64 b.length, .int .i64 (runesN b), .int .i64 (unitsN b), .int .i64 (endsN b), .string (bs (headOf b)), .string (bs (tailOf b))]] rfl (by kernel_rfl) (by kernel_rfl) (both_wv a b hm _ hT) ?_
  rintro e w6 ⟨rfl, hL6⟩
  refine ⟨_, rfl, ?_⟩
  replace hT := hT.later hL6
  replace hB := hB.later hL6
  replace hb2 := hb2.later hL6
  replace hb3 := hb3.later hL6
  replace hb4 := hb4.later hL6
  have hz6 := hL6.size
  try simp only [pa, pn, pb, pc, pd]
  refine rl_take (some 9) (.tuple #[.agg #[.int .i64 (a ++ b).length, .int .i64 (runesN (a ++ b)), .int .i64 (unitsN (a ++ b)), .int .i64 (endsN (a ++ b)), .string (bs (headOf (a ++ b))), .string (bs (tailOf (a ++ b)))], .agg #[.int .i64 0, .int .i64 (seamOf a b).1, .int .i64 (seamOf a b).2, .int .i64 (seamE a b)], .int .i64 0]) rfl (by kernel_rfl) (by kernel_rfl) ?_
  try simp only [pa, pn, pb, pc, pd]
  refine rl_take (some 13) (.agg #[.int .i64 (a ++ b).length, .int .i64 (runesN (a ++ b)), .int .i64 (unitsN (a ++ b)), .int .i64 (endsN (a ++ b)), .string (bs (headOf (a ++ b))), .string (bs (tailOf (a ++ b)))]) rfl (by kernel_rfl) (by kernel_rfl) ?_
  try simp only [pa, pn, pb, pc, pd]
  refine rl_take (some 14) (.agg #[.int .i64 0, .int .i64 (seamOf a b).1, .int .i64 (seamOf a b).2, .int .i64 (seamE a b)]) rfl (by kernel_rfl) (by kernel_rfl) ?_
  try simp only [pa, pn, pb, pc, pd]
  refine rl_take (some 15) (.int .i64 0) rfl (by kernel_rfl) (by kernel_rfl) ?_
  try simp only [pa, pn, pb, pc, pd]
  refine rl_alloc (some 6) 36 #[.int .i64 0, .int .i64 0, .int .i64 0, .int .i64 0, .string ⟨#[]⟩, .string ⟨#[]⟩] rfl (by kernel_rfl) (fun W => by kernel_rfl) fun p7 w7 hL7 hp7 hb7 => ?_
  replace hT := hT.later hL7
  replace hB := hB.later hL7
  replace hb2 := hb2.later hL7
  replace hb3 := hb3.later hL7
  replace hb4 := hb4.later hL7
  have hz7 := hL7.size
  have hlt7 := hb7.lt
  try simp only [pa, pn, pb, pc, pd]
  refine rl_alloc (some 7) 34 #[.int .i64 0, .int .i64 0, .int .i64 0, .int .i64 0] rfl (by kernel_rfl) (fun W => by kernel_rfl) fun p8 w8 hL8 hp8 hb8 => ?_
  replace hT := hT.later hL8
  replace hB := hB.later hL8
  replace hb2 := hb2.later hL8
  replace hb3 := hb3.later hL8
  replace hb4 := hb4.later hL8
  replace hb7 := hb7.later hL8
  have hz8 := hL8.size
  have hlt8 := hb8.lt
  try simp only [pa, pn, pb, pc, pd]
  refine rl_store p7 #[.int .i64 (a ++ b).length, .int .i64 (runesN (a ++ b)), .int .i64 (unitsN (a ++ b)), .int .i64 (endsN (a ++ b)), .string (bs (headOf (a ++ b))), .string (bs (tailOf (a ++ b)))] rfl rfl (by kernel_rfl) rfl rfl (by kernel_rfl) hb7 rfl (by kernel_rfl) fun w9 hU9 hn9 => ?_
  have hz9 := hU9.size
  replace hT := hT.upd hU9 (by omega)
  replace hB := hB.upd hU9 (by omega)
  replace hb2 := hb2.upd hU9 (by omega)
  replace hb3 := hb3.upd hU9 (by omega)
  replace hb4 := hb4.upd hU9 (by omega)
  replace hb8 := hb8.upd hU9 (by omega)
  clear hb7
  have hb7 := hn9
  clear hn9
  try simp only [pa, pn, pb, pc, pd]
  refine rl_store p8 #[.int .i64 0, .int .i64 (seamOf a b).1, .int .i64 (seamOf a b).2, .int .i64 (seamE a b)] rfl rfl (by kernel_rfl) rfl rfl (by kernel_rfl) hb8 rfl (by kernel_rfl) fun w10 hU10 hn10 => ?_
  have hz10 := hU10.size
  replace hT := hT.upd hU10 (by omega)
  replace hB := hB.upd hU10 (by omega)
  replace hb2 := hb2.upd hU10 (by omega)
  replace hb3 := hb3.upd hU10 (by omega)
  replace hb4 := hb4.upd hU10 (by omega)
  replace hb7 := hb7.upd hU10 (by omega)
  clear hb8
  have hb8 := hn10
  clear hn10
  try simp only [pa, pn, pb, pc, pd]
  refine rl_take (some 8) (.int .i64 0) rfl (by kernel_rfl) (by kernel_rfl) ?_
  try simp only [pa, pn, pb, pc, pd]
  refine rl_nil ?_
  refine hgo.out _ _ ?_
  clear hgo hgK
  refine hKK5 _ _ ?_
  refine wp_seq_k fun KK11 hKK11 => ?_
  refine rl_begin fun hgK hgo => ?_
  refine rl_take (some 16) (.agg #[.int .i64 (a ++ b).length, .int .i64 (runesN (a ++ b)), .int .i64 (unitsN (a ++ b)), .int .i64 (endsN (a ++ b)), .string (bs (headOf (a ++ b))), .string (bs (tailOf (a ++ b)))]) rfl (by kernel_rfl) (by exact ldN 36 _ rfl p7 0 rfl (fun _ => by kernel_rfl) [] [.int .i64 (a ++ b).length, .int .i64 (runesN (a ++ b)), .int .i64 (unitsN (a ++ b)), .int .i64 (endsN (a ++ b)), .string (bs (headOf (a ++ b))), .string (bs (tailOf (a ++ b)))] [] (by kernel_rfl) hb7 rfl rfl) ?_
  try simp only [pa, pn, pb, pc, pd]
  refine rl_take (some 17) (.int .i64 0) rfl (by kernel_rfl) (by kernel_rfl) ?_
  try simp only [pa, pn, pb, pc, pd]
  refine rl_store p4 #[.int .i64 (a ++ b).length, .int .i64 (runesN (a ++ b)), .int .i64 (unitsN (a ++ b)), .int .i64 (endsN (a ++ b)), .string (bs (headOf (a ++ b))), .string (bs (tailOf (a ++ b)))] rfl rfl (by kernel_rfl) rfl rfl (by kernel_rfl) hb4 rfl (by kernel_rfl) fun w12 hU12 hn12 => ?_
  have hz12 := hU12.size
  replace hT := hT.upd hU12 (by omega)
  replace hB := hB.upd hU12 (by omega)
  replace hb2 := hb2.upd hU12 (by omega)
  replace hb3 := hb3.upd hU12 (by omega)
  replace hb7 := hb7.upd hU12 (by omega)
  replace hb8 := hb8.upd hU12 (by omega)
  clear hb4
  have hb4 := hn12
  clear hn12
  try simp only [pa, pn, pb, pc, pd]
  refine rl_take (some 5) (.int .i64 0) rfl (by kernel_rfl) (by kernel_rfl) ?_
  try simp only [pa, pn, pb, pc, pd]
  refine rl_nil ?_
  refine hgo.out _ _ ?_
  clear hgo hgK
  refine hKK11 _ _ ?_
  refine wp_ret ?_
  try simp only [Exit.then, Exit.inBlock]
  refine bp_ret (v := .tuple #[.agg #[.int .i64 (a ++ b).length, .int .i64 (runesN (a ++ b)), .int .i64 (unitsN (a ++ b)), .int .i64 (endsN (a ++ b)), .string (bs (headOf (a ++ b))), .string (bs (tailOf (a ++ b)))], .int .i64 0]) (res2 rfl (res_cell (b := p4) (cs := [.int .i64 (a ++ b).length, .int .i64 (runesN (a ++ b)), .int .i64 (unitsN (a ++ b)), .int .i64 (endsN (a ++ b)), .string (bs (headOf (a ++ b))), .string (bs (tailOf (a ++ b)))]) (by kernel_rfl) (fun _ => by kernel_rfl) (by kernel_rfl) hb4) (res_tmp (by kernel_rfl))) ?_
  exact ⟨rfl, hB⟩

set_option maxRecDepth 100000 in
set_option maxHeartbeats 4000000 in
theorem rboth_any (a b : List UInt8) (hm : a.length + b.length ≤ 268435456) (w : World) (hT : Tabs w) :
    Calls Tryd.prog 61 #[wv a, wv b] w fun e w' => e = .returned (wv (a ++ b)) ∧ Ltr w w' := by
  have hB := Ltr.refl w
  unfold wv
  go_enter Tryd.func61, Tryd.ntmps61
  have h4 := hT.four
  refine wp_seq_k fun KK1 hKK1 => ?_
  refine rl_begin fun hgK hgo => ?_
  refine rl_alloc (some 2) 36 #[.int .i64 a.length, .int .i64 (runesN a), .int .i64 (unitsN a), .int .i64 (endsN a), .string (bs (headOf a)), .string (bs (tailOf a))] rfl (by kernel_rfl) (fun W => by kernel_rfl) fun p2 w2 hL2 hp2 hb2 => ?_
  replace hT := hT.later hL2
  replace hB := hB.later hL2
  have hz2 := hL2.size
  have hlt2 := hb2.lt
  try simp only [pa, pn, pb, pc, pd]
  refine rl_alloc (some 3) 36 #[.int .i64 b.length, .int .i64 (runesN b), .int .i64 (unitsN b), .int .i64 (endsN b), .string (bs (headOf b)), .string (bs (tailOf b))] rfl (by kernel_rfl) (fun W => by kernel_rfl) fun p3 w3 hL3 hp3 hb3 => ?_
  replace hT := hT.later hL3
  replace hB := hB.later hL3
  replace hb2 := hb2.later hL3
  have hz3 := hL3.size
  have hlt3 := hb3.lt
  try simp only [pa, pn, pb, pc, pd]
  refine rl_alloc (some 4) 36 #[.int .i64 0, .int .i64 0, .int .i64 0, .int .i64 0, .string ⟨#[]⟩, .string ⟨#[]⟩] rfl (by kernel_rfl) (fun W => by kernel_rfl) fun p4 w4 hL4 hp4 hb4 => ?_
  replace hT := hT.later hL4
  replace hB := hB.later hL4
  replace hb2 := hb2.later hL4
  replace hb3 := hb3.later hL4
  have hz4 := hL4.size
  have hlt4 := hb4.lt
  try simp only [pa, pn, pb, pc, pd]
  refine rl_nil ?_
  refine hgo.out _ _ ?_
  clear hgo hgK
  refine hKK1 _ _ ?_
  refine wp_seq_k fun KK5 hKK5 => ?_
  refine rl_begin fun hgK hgo => ?_
  refine rl_take (some 8) (.agg #[.int .i64 a.length, .int .i64 (runesN a), .int .i64 (unitsN a), .int .i64 (endsN a), .string (bs (headOf a)), .string (bs (tailOf a))]) rfl (by kernel_rfl) (by exact ldN 36 _ rfl p2 0 rfl (fun _ => by kernel_rfl) [] [.int .i64 a.length, .int .i64 (runesN a), .int .i64 (unitsN a), .int .i64 (endsN a), .string (bs (headOf a)), .string (bs (tailOf a))] [] (by kernel_rfl) hb2 rfl rfl) ?_
  try simp only [pa, pn, pb, pc, pd]
  refine rl_take (some 9) (.agg #[.int .i64 b.length, .int .i64 (runesN b), .int .i64 (unitsN b), .int .i64 (endsN b), .string (bs (headOf b)), .string (bs (tailOf b))]) rfl (by kernel_rfl) (by exact ldN 36 _ rfl p3 0 rfl (fun _ => by kernel_rfl) [] [.int .i64 b.length, .int .i64 (runesN b), .int .i64 (unitsN b), .int .i64 (endsN b), .string (bs (headOf b)), .string (bs (tailOf b))] [] (by kernel_rfl) hb3 rfl rfl) ?_
  try simp only [pa, pn, pb, pc, pd]
  refine rl_call (some 10) 40 #[.agg #[.int .i64 a.length, .int .i64 (runesN a), .int .i64 (unitsN a), .int .i64 (endsN a), .string (bs (headOf a)), .string (bs (tailOf a))], .agg #[.int .i64 b.length, .int .i64 (runesN b), .int .i64 (unitsN b), .int .i64 (endsN b), .string (bs (headOf b)), .string (bs (tailOf b))]] rfl (by kernel_rfl) (by kernel_rfl) (WJoin_any a b hm _ hT) ?_
  rintro e w6 ⟨rfl, hL6⟩
  refine ⟨_, rfl, ?_⟩
  replace hT := hT.later hL6
  replace hB := hB.later hL6
  replace hb2 := hb2.later hL6
  replace hb3 := hb3.later hL6
  replace hb4 := hb4.later hL6
  have hz6 := hL6.size
  try simp only [pa, pn, pb, pc, pd]
  refine rl_take (some 7) (.tuple #[.agg #[.int .i64 (a ++ b).length, .int .i64 (runesN (a ++ b)), .int .i64 (unitsN (a ++ b)), .int .i64 (endsN (a ++ b)), .string (bs (headOf (a ++ b))), .string (bs (tailOf (a ++ b)))], .int .i64 0]) rfl (by kernel_rfl) (by kernel_rfl) ?_
  try simp only [pa, pn, pb, pc, pd]
  refine rl_take (some 11) (.agg #[.int .i64 (a ++ b).length, .int .i64 (runesN (a ++ b)), .int .i64 (unitsN (a ++ b)), .int .i64 (endsN (a ++ b)), .string (bs (headOf (a ++ b))), .string (bs (tailOf (a ++ b)))]) rfl (by kernel_rfl) (by kernel_rfl) ?_
  try simp only [pa, pn, pb, pc, pd]
  refine rl_take (some 12) (.int .i64 0) rfl (by kernel_rfl) (by kernel_rfl) ?_
  try simp only [pa, pn, pb, pc, pd]
  refine rl_alloc (some 5) 36 #[.int .i64 0, .int .i64 0, .int .i64 0, .int .i64 0, .string ⟨#[]⟩, .string ⟨#[]⟩] rfl (by kernel_rfl) (fun W => by kernel_rfl) fun p7 w7 hL7 hp7 hb7 => ?_
  replace hT := hT.later hL7
  replace hB := hB.later hL7
  replace hb2 := hb2.later hL7
  replace hb3 := hb3.later hL7
  replace hb4 := hb4.later hL7
  have hz7 := hL7.size
  have hlt7 := hb7.lt
  try simp only [pa, pn, pb, pc, pd]
  refine rl_store p7 #[.int .i64 (a ++ b).length, .int .i64 (runesN (a ++ b)), .int .i64 (unitsN (a ++ b)), .int .i64 (endsN (a ++ b)), .string (bs (headOf (a ++ b))), .string (bs (tailOf (a ++ b)))] rfl rfl (by kernel_rfl) rfl rfl (by kernel_rfl) hb7 rfl (by kernel_rfl) fun w8 hU8 hn8 => ?_
  have hz8 := hU8.size
  replace hT := hT.upd hU8 (by omega)
  replace hB := hB.upd hU8 (by omega)
  replace hb2 := hb2.upd hU8 (by omega)
  replace hb3 := hb3.upd hU8 (by omega)
  replace hb4 := hb4.upd hU8 (by omega)
  clear hb7
  have hb7 := hn8
  clear hn8
  try simp only [pa, pn, pb, pc, pd]
  refine rl_take (some 6) (.int .i64 0) rfl (by kernel_rfl) (by kernel_rfl) ?_
  try simp only [pa, pn, pb, pc, pd]
  refine rl_nil ?_
  refine hgo.out _ _ ?_
  clear hgo hgK
  refine hKK5 _ _ ?_
  refine wp_seq_k fun KK9 hKK9 => ?_
  refine rl_begin fun hgK hgo => ?_
  refine rl_take (some 13) (.agg #[.int .i64 (a ++ b).length, .int .i64 (runesN (a ++ b)), .int .i64 (unitsN (a ++ b)), .int .i64 (endsN (a ++ b)), .string (bs (headOf (a ++ b))), .string (bs (tailOf (a ++ b)))]) rfl (by kernel_rfl) (by exact ldN 36 _ rfl p7 0 rfl (fun _ => by kernel_rfl) [] [.int .i64 (a ++ b).length, .int .i64 (runesN (a ++ b)), .int .i64 (unitsN (a ++ b)), .int .i64 (endsN (a ++ b)), .string (bs (headOf (a ++ b))), .string (bs (tailOf (a ++ b)))] [] (by kernel_rfl) hb7 rfl rfl) ?_
  try simp only [pa, pn, pb, pc, pd]
  refine rl_store p4 #[.int .i64 (a ++ b).length, .int .i64 (runesN (a ++ b)), .int .i64 (unitsN (a ++ b)), .int .i64 (endsN (a ++ b)), .string (bs (headOf (a ++ b))), .string (bs (tailOf (a ++ b)))] rfl rfl (by kernel_rfl) rfl rfl (by kernel_rfl) hb4 rfl (by kernel_rfl) fun w10 hU10 hn10 => ?_
  have hz10 := hU10.size
  replace hT := hT.upd hU10 (by omega)
  replace hB := hB.upd hU10 (by omega)
  replace hb2 := hb2.upd hU10 (by omega)
  replace hb3 := hb3.upd hU10 (by omega)
  replace hb7 := hb7.upd hU10 (by omega)
  clear hb4
  have hb4 := hn10
  clear hn10
  try simp only [pa, pn, pb, pc, pd]
  refine rl_nil ?_
  refine hgo.out _ _ ?_
  clear hgo hgK
  refine hKK9 _ _ ?_
  refine wp_ret ?_
  try simp only [Exit.then, Exit.inBlock]
  refine bp_ret (v := .agg #[.int .i64 (a ++ b).length, .int .i64 (runesN (a ++ b)), .int .i64 (unitsN (a ++ b)), .int .i64 (endsN (a ++ b)), .string (bs (headOf (a ++ b))), .string (bs (tailOf (a ++ b)))]) (res1 rfl (res_cell (b := p4) (cs := [.int .i64 (a ++ b).length, .int .i64 (runesN (a ++ b)), .int .i64 (unitsN (a ++ b)), .int .i64 (endsN (a ++ b)), .string (bs (headOf (a ++ b))), .string (bs (tailOf (a ++ b)))]) (by kernel_rfl) (fun _ => by kernel_rfl) (by kernel_rfl) hb4)) ?_
  exact ⟨rfl, hB⟩
end Go.Proofs.YtliphfgiaioebaaDoor
