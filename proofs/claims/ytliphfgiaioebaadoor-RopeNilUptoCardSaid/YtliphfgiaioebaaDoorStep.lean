/-
  Package step: first, at, inside, Floor, At: what they answer, as functions of lists of bytes.
-/
import Derived.Test.YtliphfgiaioebaaDoorOct
import Derived.Test.YtliphfgiaioebaaDoorPlain2
import Derived.Lib.OthersKept
namespace Go.Proofs.YtliphfgiaioebaaDoor
set_option linter.unusedVariables false
set_option linter.unusedSimpArgs false
open Go.RowKit

/-- what HasPrefix answers -/
def hasPre (s t : ByteArray) : Bool := decide (t.size ≤ s.size) && ((s.extract 0 t.size).toList == t.toList)
set_option maxHeartbeats 400000 in
theorem litePrefix_any (s t : ByteArray) (w : World) (hs : s.size ≤ 9223372036854775807) (ht : t.size ≤ 9223372036854775807) :
    Calls Tryd.prog 140 #[.string s, .string t] w fun e w' => e = .returned (.bool (hasPre s t)) ∧ w' = w := by
  unfold hasPre
  by_cases h : t.size ≤ s.size
  · cases hb : (s.extract 0 t.size).toList == t.toList
    all_goals
      have HB := Lib.hid hb
      clear hb
      go_enter Tryd.func140, Tryd.ntmps140
      go_wp2
      go_ret
      exact ⟨ret_bool (by rw [HB.out]; simp [h]), rfl⟩
  · have h' : s.size < t.size := by omega
    go_enter Tryd.func140, Tryd.ntmps140
    go_wp2
    go_ret
    exact ⟨ret_bool (by simp [h]), rfl⟩
set_option maxHeartbeats 400000 in
theorem HasPrefix_any (s t : ByteArray) (w : World) (hs : s.size ≤ 9223372036854775807) (ht : t.size ≤ 9223372036854775807) :
    Calls Tryd.prog 133 #[.string s, .string t] w fun e w' => e = .returned (.bool (hasPre s t)) ∧ w' = w := by
  go_enter Tryd.func133, Tryd.ntmps133
  go_wp2_with (go_at_call 140; refine (litePrefix_any s t _ hs ht).mono ?_; rintro e w1 ⟨rfl, rfl⟩)
  go_ret
  exact ⟨rfl, rfl⟩

def whole (l : List UInt8) : Bool := decide (encLen l ≠ 0)
def stepVal (l : List UInt8) : Value := .agg #[.int .i32 (runeOf l), .int .i64 (stepW l), .bool (whole l)]
def fffdB : ByteArray := { data := #[239, 191, 189] }

theorem hasPre_fffd (l : List UInt8) (h : runeOf l = 0xfffd) : hasPre (bs l) fffdB = whole l := by
  unfold hasPre whole
  have e : (fffdB.size ≤ (bs l).size ∧ ((bs l).extract 0 fffdB.size).toList = fffdB.toList) ↔ encLen l ≠ 0 := by
    rw [fffd l h, bs_size]
    have e1 : fffdB.size = 3 := rfl
    rw [e1]
    constructor
    · rintro ⟨h1, h2⟩
      refine ⟨h1, ?_⟩
      rw [bs_extract, bs_toList', List.drop_zero] at h2
      rw [h2]; decide +kernel
    · rintro ⟨h1, h2⟩
      refine ⟨h1, ?_⟩
      rw [bs_extract, bs_toList', List.drop_zero, h2]; decide +kernel
  cases hb : decide (encLen l ≠ 0)
  · simp only [decide_eq_false_iff_not] at hb
    rw [← e] at hb
    rw [Bool.and_eq_false_iff]
    by_cases h1 : fffdB.size ≤ (bs l).size
    · right; rw [beq_eq_false_iff_ne]; exact fun h2 => hb ⟨h1, h2⟩
    · left; simpa using h1
  · simp only [decide_eq_true_eq] at hb
    obtain ⟨h1, h2⟩ := e.2 hb
    simp [h1, h2]

def stepZero : Obj := .cells #[.int .i32 0, .int .i64 0, .bool false] 158
theorem next_first (l : List UInt8) (w : World) (k : Nat) (hk : k = w.heap.size) (ty : TypeId) (h : 0 < l.length) :
    (Instr.next (.pointer (some ⟨k, 0, none⟩)) true ty).run Tryd.prog (w.alloc (.stringIter (bs l) 0)) =
      .ok (.tuple #[.bool true, .int .i64 0, .int .i32 (runeOf l)]) (w.alloc (.stringIter (bs l) (stepW l))) := by
  subst hk
  have := run_next_any (P := Tryd.prog) w (bs l) 0 ty (by rw [bs_size]; exact h)
  rw [decode_bs l 0 h] at this
  simp only [List.drop_zero, Nat.zero_add] at this
  have hr := (runeOf_r l).1
  rw [show ((runeOf l).toNat : Int) = runeOf l from Int.toNat_of_nonneg hr] at this
  exact this
theorem next_none (w : World) (k : Nat) (hk : k = w.heap.size) (ty : TypeId) :
    (Instr.next (.pointer (some ⟨k, 0, none⟩)) true ty).run Tryd.prog (w.alloc (.stringIter (bs []) 0)) = .ok (.tuple #[.bool false]) (w.alloc (.stringIter (bs []) 0)) := by
  subst hk
  exact run_next_end (P := Tryd.prog) w (bs []) 0 ty (by simp [bs_size])

set_option maxRecDepth 100000 in
set_option maxHeartbeats 1000000 in
theorem first_any (l : List UInt8) (w : World) (hT : Tabs w) (hl : l.length ≤ 9223372036854775807) :
    Calls Tryd.prog 127 #[.string (bs l)] w fun e w' => e = .returned (stepVal l) ∧ Below w.heap.size w w' := by
  have b0 := hT.bad 0 _ rfl
  have b1 := hT.bad 1 _ rfl
  have b2 := hT.bad 2 _ rfl
  have hg : 1 < w.heap.size := World.block_lt_of_cell? w _ b0
  have hg0 : 0 < w.heap.size := by omega
  clear hT
  by_cases h0 : l.length = 0
  · obtain rfl : l = [] := List.eq_nil_of_length_eq_zero h0
    have hn := next_none (w.alloc (.cells #[.int .i32 0, .int .i64 0, .bool false] 158)) (w.heap.size + 1) (by simp)
    clear h0
    go_enter Tryd.func127, Tryd.ntmps127
    go_wp2
    unfold World.iter
    refine wp_loop_rounds 1 ?_; rw [rounds_succ]
    go_wp2
    exact bodyPost_ret (v := stepVal []) (by simp [results, Tryd.results127, go_sem]; rfl) rfl ⟨rfl, (by (repeat (with_reducible first | assumption | exact bl_refl _ | refine bl_alloc ?_ | refine bl_iter ?_ | refine bl_drew ?_ | refine bl_drewN ?_ | refine bl_bytes ?_ | refine bl_set ?_ ?_ | refine bl_trans ?_ (by assumption))) <;> first | exact Nat.le_refl _ | (simp; done) | (simp; omega) | omega)⟩
  · have hpos : 0 < l.length := by omega
    have hn := fun ty => next_first l (w.alloc (.cells #[.int .i32 0, .int .i64 0, .bool false] 158)) (w.heap.size + 1) (by simp) ty hpos
    have hr := runeOf_r l
    clear h0
    by_cases hf : runeOf l = 0xfffd
    · have hp := hasPre_fffd l hf
      have hsv : stepVal l = .agg #[.int .i32 65533, .int .i64 (if whole l then 3 else 1), .bool (whole l)] := by
        unfold stepVal stepW whole
        rw [hf]
        by_cases he : encLen l = 0
        · simp [he]
        · have := fffd_len l hf he
          simp [he, this]
      have HSV := Lib.hid hsv
      rw [hf] at hn
      have hes : ∀ W, (convert 21 9 (.int .i32 65533)).run Tryd.prog W = .ok (.string fffdB) W := fun _ => by kernel_rfl
      have HP := Lib.hid hp
      clear hf hsv hp hr
      generalize whole l = wh at *
      cases wh
      all_goals
        go_enter Tryd.func127, Tryd.ntmps127
        go_wp2
        unfold World.iter
        refine wp_loop_rounds 1 ?_; rw [rounds_succ]
        go_wp2_with (go_at_call 133; refine (HasPrefix_any _ _ _ (by rw [bs_size]; exact hl) (by decide)).mono ?_; rintro e w1 ⟨rfl, rfl⟩; have hp2 := HP.out; unfold fffdB at hp2)
        exact bodyPost_ret (v := stepVal l) (by rw [HSV.out]; simp [results, Tryd.results127, go_sem] <;> rfl) rfl ⟨rfl, (by (repeat (with_reducible first | assumption | exact bl_refl _ | refine bl_alloc ?_ | refine bl_iter ?_ | refine bl_drew ?_ | refine bl_drewN ?_ | refine bl_bytes ?_ | refine bl_set ?_ ?_ | refine bl_trans ?_ (by assumption))) <;> first | exact Nat.le_refl _ | (simp; done) | (simp; omega) | omega)⟩
    · have hw : encLen l ≠ 0 := fun h => hf (runeOf_0 h)
      have hsv : stepVal l = .agg #[.int .i32 (runeOf l), .int .i64 (encLen l), .bool true] := by
        unfold stepVal stepW whole; simp [hw]
      have HSV := Lib.hid hsv
      have hes : ∀ W, (convert 21 9 (.int .i32 (runeOf l))).run Tryd.prog W = .ok (.string (Utf8.encode (runeOf l))) W := fun _ => by kernel_rfl
      have hsz := encode_size l hw
      have HSZ := Lib.hid hsz
      have hfb : (runeOf l == 0xfffd) = false := beq_eq_false_iff_ne.2 hf
      clear hf hsv hsz hw
      generalize hE : Utf8.encode (runeOf l) = E at *
      have HE := Lib.hid hE
      clear hE
      go_enter Tryd.func127, Tryd.ntmps127
      go_wp2
      unfold World.iter
      refine wp_loop_rounds 1 ?_; rw [rounds_succ]
      go_wp2
      exact bodyPost_ret (v := stepVal l) (by rw [HSV.out]; simp [results, Tryd.results127, go_sem, HSZ.out]) rfl ⟨rfl, (by (repeat (with_reducible first | assumption | exact bl_refl _ | refine bl_alloc ?_ | refine bl_iter ?_ | refine bl_drew ?_ | refine bl_drewN ?_ | refine bl_bytes ?_ | refine bl_set ?_ ?_ | refine bl_trans ?_ (by assumption))) <;> first | exact Nat.le_refl _ | (simp; done) | (simp; omega) | omega)⟩
end Go.Proofs.YtliphfgiaioebaaDoor
