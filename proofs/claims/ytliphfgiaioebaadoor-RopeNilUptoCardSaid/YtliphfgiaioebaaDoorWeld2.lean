/-
  Package weld: sum, head, tail, tailIs, short.
-/
import Derived.Test.YtliphfgiaioebaaDoorPlain6
namespace Go.Proofs.YtliphfgiaioebaaDoor
set_option linter.unusedVariables false
set_option linter.unusedSimpArgs false
open Go.RowKit

theorem bs_append (a b : List UInt8) : bs a ++ bs b = bs (a ++ b) := by
  apply ByteArray.ext
  simp [bs, ByteArray.data_append]
def szV (a b c d : Int) : Value := .agg #[.int .i64 a, .int .i64 b, .int .i64 c, .int .i64 d]
set_option maxHeartbeats 1000000 in
set_option maxRecDepth 100000 in
theorem sum_any (a1 a2 a3 a4 b1 b2 b3 b4 t c1 c2 c3 c4 : Int) (w : World)
    (h1 : a1 + t * b1 = c1) (h2 : a2 + t * b2 = c2) (h3 : a3 + t * b3 = c3) (h4 : a4 + t * b4 = c4)
    (m1 : -9000000000 ≤ t * b1 ∧ t * b1 ≤ 9000000000) (m2 : -9000000000 ≤ t * b2 ∧ t * b2 ≤ 9000000000) (m3 : -9000000000 ≤ t * b3 ∧ t * b3 ≤ 9000000000) (m4 : -9000000000 ≤ t * b4 ∧ t * b4 ≤ 9000000000)
    (n1 : -9000000000 ≤ c1 ∧ c1 ≤ 9000000000) (n2 : -9000000000 ≤ c2 ∧ c2 ≤ 9000000000) (n3 : -9000000000 ≤ c3 ∧ c3 ≤ 9000000000) (n4 : -9000000000 ≤ c4 ∧ c4 ≤ 9000000000) :
    Calls Tryd.prog 110 #[szV a1 a2 a3 a4, szV b1 b2 b3 b4, .int .i64 t] w fun e w' => e = .returned (szV c1 c2 c3 c4) ∧ Below w.heap.size w w' := by
  have k1 : IntKind.i64.wrap (t * b1) = t * b1 := IntWalk.i64_in _ (by omega)
  have k2 : IntKind.i64.wrap (t * b2) = t * b2 := IntWalk.i64_in _ (by omega)
  have k3 : IntKind.i64.wrap (t * b3) = t * b3 := IntWalk.i64_in _ (by omega)
  have k4 : IntKind.i64.wrap (t * b4) = t * b4 := IntWalk.i64_in _ (by omega)
  have e1 : IntKind.i64.wrap (a1 + t * b1) = c1 := by rw [h1]; exact IntWalk.i64_in _ (by omega)
  have e2 : IntKind.i64.wrap (a2 + t * b2) = c2 := by rw [h2]; exact IntWalk.i64_in _ (by omega)
  have e3 : IntKind.i64.wrap (a3 + t * b3) = c3 := by rw [h3]; exact IntWalk.i64_in _ (by omega)
  have e4 : IntKind.i64.wrap (a4 + t * b4) = c4 := by rw [h4]; exact IntWalk.i64_in _ (by omega)
  clear m1 m2 m3 m4 n1 n2 n3 n4 h1 h2 h3 h4
  unfold szV
  go_enter Tryd.func110, Tryd.ntmps110
  go_wp2
  exact bodyPost_ret (v := .agg #[.int .i64 c1, .int .i64 c2, .int .i64 c3, .int .i64 c4]) (by simp [results, Tryd.results110, go_sem, *]) rfl ⟨rfl, (by (repeat (with_reducible first | assumption | exact bl_refl _ | refine bl_alloc ?_ | refine bl_iter ?_ | refine bl_drew ?_ | refine bl_drewN ?_ | refine bl_bytes ?_ | refine bl_set ?_ ?_ | refine bl_trans ?_ (by assumption))) <;> first | exact Nat.le_refl _ | (simp; done) | (simp; omega) | omega)⟩

set_option maxHeartbeats 1000000 in
theorem head_any (l : List UInt8) (w : World) (hm : l.length ≤ 1000000000) :
    Calls Tryd.prog 111 #[.string (bs l)] w fun e w' => e = .returned (.string (bs (l.take 3))) ∧ w' = w := by
  have hs := bs_size l
  have hx := bs_extract l 0 (min 3 l.length)
  rw [List.drop_zero] at hx
  have HX := Lib.hid (show (bs l).extract 0 (min 3 l.length) = bs (l.take 3) by rw [hx]; congr 1; rw [List.take_eq_take_iff]; omega)
  clear hx
  generalize bs (l.take 3) = R at *
  generalize bs l = B at *
  generalize l.length = n at *
  by_cases h3 : n < 3
  · have h0 : (n : Int) < 3 := by omega
    have e := HX.out
    rw [show min 3 n = n from by omega] at e
    have h4 : (0 : Int) ≤ (n : Int) := by omega
    go_enter Tryd.func111, Tryd.ntmps111
    go_wp2
    go_ret
    exact ⟨rfl, rfl⟩
  · have h0 : ¬ (n : Int) < 3 := by omega
    have h1 : (3 : Int) ≤ (n : Int) := by omega
    have e := HX.out
    rw [show min 3 n = 3 from by omega] at e
    go_enter Tryd.func111, Tryd.ntmps111
    go_wp2
    go_ret
    exact ⟨rfl, rfl⟩
set_option maxHeartbeats 1000000 in
theorem tail_any (l : List UInt8) (w : World) (hm : l.length ≤ 1000000000) :
    Calls Tryd.prog 112 #[.string (bs l)] w fun e w' => e = .returned (.string (bs (tailOf l))) ∧ w' = w := by
  have hs := bs_size l
  have hx := bs_extract l (l.length - 3) l.length
  rw [List.take_of_length_le (Nat.le_refl _)] at hx
  have HX := Lib.hid (show (bs l).extract (l.length - 3) l.length = bs (tailOf l) from hx)
  clear hx
  generalize bs (tailOf l) = R at *
  generalize bs l = B at *
  generalize l.length = n at *
  have hw := IntWalk.i64_in ((n : Int) - 3) (by omega)
  by_cases h3 : n ≤ 3
  · have h0 : ¬ (0 : Int) < (n : Int) - 3 := by omega
    have h1 : ¬ (3 : Int) < (n : Int) := by omega
    have e := HX.out
    rw [show n - 3 = 0 from by omega] at e
    have h4 : (0 : Int) ≤ (n : Int) := by omega
    go_enter Tryd.func112, Tryd.ntmps112
    go_wp2
    go_ret
    exact ⟨rfl, rfl⟩
  · obtain ⟨k, hk⟩ : ∃ k, n - 3 = k := ⟨_, rfl⟩
    have hk' : (n : Int) - 3 = k := by omega
    rw [hk'] at hw
    have h0 : (0 : Int) < (k : Int) := by omega
    have h1 : (k : Int) ≤ (n : Int) := by omega
    have h4 : (0 : Int) ≤ (k : Int) := by omega
    have e := HX.out
    rw [hk] at e
    clear hk
    go_enter Tryd.func112, Tryd.ntmps112
    go_wp2
    go_ret
    exact ⟨rfl, rfl⟩

def endIs (l : List UInt8) (c : Int) : Bool := decide (0 < l.length) && decide (gb l (l.length - 1) = c)
theorem bs_get (l : List UInt8) (i : Nat) : ((bs l).get! i).toNat = (gb l i) := by
  have := get_bs l i; have := gb_lo l i; omega
theorem bs_get' (l : List UInt8) (i : Nat) (h : i < (bs l).size) : (((bs l)[i]'h).toNat : Int) = gb l i := by
  have h' : i < l.length := by rw [bs_size] at h; exact h
  show ((l.toArray[i]'(by simpa using h')).toNat : Int) = gb l i
  unfold gb
  rw [List.getD_eq_getElem?_getD, List.getElem?_eq_getElem h']; simp
set_option maxHeartbeats 1000000 in
theorem tailIs_any (l : List UInt8) (c : Int) (w : World) (hm : l.length ≤ 1000000000) :
    Calls Tryd.prog 123 #[.string (bs l), .int .u8 c] w fun e w' => e = .returned (.bool (endIs l c)) ∧ w' = w := by
  have hs := bs_size l
  unfold endIs
  by_cases h0 : l.length = 0
  · have h1 : ¬ (0 : Int) < (l.length : Int) := by omega
    rw [h0] at hs h1 ⊢
    generalize bs l = B at *
    go_enter Tryd.func123, Tryd.ntmps123
    go_wp2
    go_ret
    exact ⟨rfl, rfl⟩
  · obtain ⟨k, hk⟩ : ∃ k, l.length = k + 1 := ⟨l.length - 1, by omega⟩
    have hg := fun h => bs_get' l k h
    rw [hk] at hs ⊢
    rw [show k + 1 - 1 = k from rfl]
    generalize gb l k = x at *
    generalize bs l = B at *
    have h1 : (0 : Int) < (k : Int) + 1 := by omega
    have h2 : (k : Int) + 1 - 1 = k := by omega
    have hw := IntWalk.i64_in (k : Int) (by omega)
    have h3 : (0 : Int) ≤ (k : Int) := by omega
    have h4 : (k : Int) < (k : Int) + 1 := by omega
    go_enter Tryd.func123, Tryd.ntmps123
    go_wp2
    go_ret
    refine ⟨ret_bool ?_, rfl⟩
    simp [hg, Bool.beq_eq_decide_eq]

end Go.Proofs.YtliphfgiaioebaaDoor
