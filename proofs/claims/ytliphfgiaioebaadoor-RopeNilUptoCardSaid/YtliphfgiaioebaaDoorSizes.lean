/-
  Package weld: units, Sizes.
-/
import Derived.Test.YtliphfgiaioebaaDoorAll
import Derived.Sort.CutIn
namespace Go.Proofs.YtliphfgiaioebaaDoor
set_option linter.unusedVariables false
set_option linter.unusedSimpArgs false
open Go.RowKit Go.Shelf
attribute [local go_sem] Oper.semAt_some

theorem kf_set {B : Nat} {W w : World} (h : KeepsFrom B W w) (a : Addr) (v : Value) : KeepsFrom B W (w.setCell a v) := h.trans ((KeepsOthers.setCell w a v).from B)
theorem kf_drew {B : Nat} {W w : World} (h : KeepsFrom B W w) : KeepsFrom B W w.drew := h.trans ((KeepsOthers.drew w).from B)
theorem kp_set {n B : Nat} {W w : World} (h : KpA n B W w) {a : Addr} (h1 : n ≤ a.block) (h2 : B ≠ a.block) (v : Value) : KpA n B W (w.setCell a v) :=
  kpA_t h ⟨(Below.refl _ _).setCell h1 v, KeepsWalks.setCell _ _ _, fun u hu => (World.cell?_of_block (w := w) (a := ⟨B, 0, none⟩) (Below.heap_setCell w a v B h2)).trans hu⟩
theorem kp_drew {n B : Nat} {W w : World} (h : KpA n B W w) : KpA n B W w.drew := ⟨h.1.drew, ⟨h.2.1.size, h.2.1.same⟩, h.2.2⟩
theorem kp_refl (n B : Nat) (W : World) : KpA n B W W := ⟨Below.refl _ _, KeepsWalks.refl _, fun _ h => h⟩
def unitsOf (r : Int) : Int := if 0xffff < r then 2 else 1
set_option maxHeartbeats 400000 in
theorem units_any (r : Int) (w : World) :
    Calls Tryd.prog 116 #[.int .i32 r] w fun e w' => e = .returned (.int .i64 (unitsOf r)) ∧ w' = w := by
  unfold unitsOf
  by_cases h : 0xffff < r
  · rw [if_pos h]
    go_enter Tryd.func116, Tryd.ntmps116
    go_wp2
    go_ret
    exact ⟨rfl, rfl⟩
  · rw [if_neg h]
    go_enter Tryd.func116, Tryd.ntmps116
    go_wp2
    go_ret
    exact ⟨rfl, rfl⟩

set_option maxHeartbeats 400000 in
theorem All_any (A : Option Addr) (c : Nat) (l : List UInt8) (w : World) (hA : BytesAt w A l) (hc : l.length ≤ c) :
    Calls Tryd.prog 115 #[.slice A l.length c] w fun e w' => e = .returned (.func (.func 126) #[] #[.pointer (some ⟨w.heap.size, 0, none⟩)]) ∧ w' = w.alloc (.cells #[.string (bs l)] 9) := by
  have hcv : ∀ W, Below w.heap.size w W → (convert 41 9 (.slice A l.length c)).run Tryd.prog W = .ok (.string (bs l)) W := fun W hW => by
    by_cases h0 : l.length = 0
    · obtain rfl : l = [] := List.eq_nil_of_length_eq_zero h0
      exact conv_empty W A c
    · obtain ⟨b, off, rfl, hcell⟩ := hA (by omega)
      exact conv_bytes W b off _ c l rfl (fun i hi => bl_cell hW (hcell i hi))
  have h1 := hcv w (bl_refl w)
  clear hcv hA
  generalize bs l = B at *
  go_enter Tryd.func115, Tryd.ntmps115
  go_wp2
  go_ret
  exact ⟨rfl, rfl⟩

/-- what Sizes has counted behind these places: runes, units, line ends; the last rune -/
def szStep (l : List UInt8) (s : Int × Int × Int × Int) (p : Nat) : Int × Int × Int × Int :=
  (s.1 + 1, s.2.1 + unitsOf (runeOf (l.drop p)), s.2.2.1 + (if runeOf (l.drop p) = 13 ∨ (runeOf (l.drop p) = 10 ∧ s.2.2.2 ≠ 13) then 1 else 0), runeOf (l.drop p))
def szOf (l : List UInt8) (ps : List Nat) : Int × Int × Int × Int := ps.foldl (szStep l) (0, 0, 0, 0)
def sizesV (l : List UInt8) : Value := .agg #[.int .i64 l.length, .int .i64 (szOf l (places l)).1, .int .i64 (szOf l (places l)).2.1, .int .i64 (szOf l (places l)).2.2.1]

theorem Blk.setL {W : World} {B : Nat} {t : TypeId} {cs : List Value} (h : Blk W B t cs.toArray) (i : Nat) (v : Value) : Blk (W.setCell ⟨B, i, none⟩ v) B t (cs.set i v).toArray := by
  have := h.set i v; rwa [List.setIfInBounds_toArray] at this
theorem Blk.keptC {W W' : World} {row : Option Nat} {B : Nat} {t : TypeId} {cs : Array Value} (h : Blk W B t cs) (hg : W.grownBy W' row) (hr : ∀ r, row = some r → ∃ o : Obj, W.heap[r]? = some o ∧ o.isCells = false) : Blk W' B t cs := by
  refine (hg.block B h.lt ?_).trans h
  intro e
  obtain ⟨o, ho, hn⟩ := hr B e.symm
  rw [h] at ho; cases ho; cases hn
theorem szOf_bd (l : List UInt8) : ∀ (ps : List Nat) (s : Int × Int × Int × Int), (ps.foldl (szStep l) s).1 = s.1 + ps.length ∧
    s.2.1 ≤ (ps.foldl (szStep l) s).2.1 ∧ (ps.foldl (szStep l) s).2.1 ≤ s.2.1 + 2 * ps.length ∧ s.2.2.1 ≤ (ps.foldl (szStep l) s).2.2.1 ∧ (ps.foldl (szStep l) s).2.2.1 ≤ s.2.2.1 + ps.length
  | [], s => by simp
  | p :: ps, s => by
    have h := szOf_bd l ps (szStep l s p)
    have h1 : unitsOf (runeOf (l.drop p)) = 1 ∨ unitsOf (runeOf (l.drop p)) = 2 := by unfold unitsOf; split <;> simp
    simp only [List.foldl_cons, List.length_cons]
    have e1 : (szStep l s p).1 = s.1 + 1 := rfl
    have e2 : (szStep l s p).2.1 = s.2.1 + unitsOf (runeOf (l.drop p)) := rfl
    have e3 : (szStep l s p).2.2.1 = s.2.2.1 ∨ (szStep l s p).2.2.1 = s.2.2.1 + 1 := by unfold szStep; simp only []; split <;> simp
    refine ⟨by omega, by omega, by omega, by omega, by omega⟩
theorem szOf_snoc (l : List UInt8) (ps : List Nat) (p : Nat) : szOf l (ps ++ [p]) = szStep l (szOf l ps) p := by unfold szOf; rw [List.foldl_append]; rfl

set_option maxRecDepth 100000 in
set_option maxHeartbeats 4000000 in
theorem Sizes_any (A : Option Addr) (c : Nat) (l : List UInt8) (w : World) (hT : Tabs w) (hA : BytesAt w A l) (hc : l.length ≤ c) (hm : l.length ≤ 140737488355328) :
    Calls Tryd.prog 91 #[.slice A l.length c] w fun e w' => e = .returned (sizesV l) ∧ Below w.heap.size w w' := by
  have hall := fun W (hb : Below w.heap.size w W) => All_any A c l W (hA.below hb) hc
  have HALL := Lib.hid hall
  clear hall hA
  refine (callsIn_wide (n := 2)).1 ?_
  refine callsIn_of_wp_marks Tryd.func91 rfl trivial ?_ rfl
  simp only [Tryd.ntmps91, List.size_toArray, List.length_cons, List.length_nil, Nat.reduceAdd, Nat.reduceSub, Array.replicate_succ, Array.replicate_zero, List.push_toArray, List.append_toArray, List.nil_append, List.cons_append]
  gi_wp2_with (refine ⟨trivial, ?_⟩; gi_at_call 115; refine (callsIn_wide.2 (HALL.out _ (by (repeat (with_reducible first | assumption | exact bl_refl _ | refine bl_alloc ?_ | refine bl_iter ?_ | refine bl_drew ?_ | refine bl_drewN ?_ | refine bl_bytes ?_ | refine bl_set ?_ ?_ | refine bl_trans ?_ (by assumption))) <;> first | exact Nat.le_refl _ | (simp; done) | (simp; omega) | omega))).mono ?_; rintro e w1 ⟨rfl, rfl⟩)
  have s0 : w.heap.size = w.heap.size := rfl
  generalize hW0 : World.alloc (World.alloc (World.alloc (World.alloc w _) _) _) _ = W0
  have k0 : Blk W0 w.heap.size 34 #[.int .i64 0, .int .i64 0, .int .i64 0, .int .i64 0] := by rw [← hW0]; exact ((Blk.new w _ _ rfl).alloc _).alloc _ |>.alloc _
  have k1 : Blk W0 (w.heap.size + 1) 34 #[.int .i64 l.length, .int .i64 0, .int .i64 0, .int .i64 0] := by rw [← hW0]; exact ((Blk.new _ _ _ (by simp)).alloc _).alloc _
  have k2 : Blk W0 (w.heap.size + 1 + 1) 21 #[.int .i32 0] := by rw [← hW0]; exact (Blk.new _ _ _ (by simp)).alloc _
  have k3 : Blk W0 (w.heap.size + 1 + 1 + 1) 9 #[.string (bs l)] := by rw [← hW0]; exact Blk.new _ _ _ (by simp)
  have hz : W0.heap.size = w.heap.size + 1 + 1 + 1 + 1 := by rw [← hW0]; simp
  have hb0 : Below w.heap.size w W0 := by rw [← hW0]; exact (by (repeat (with_reducible first | assumption | exact bl_refl _ | refine bl_alloc ?_ | refine bl_iter ?_ | refine bl_drew ?_ | refine bl_drewN ?_ | refine bl_bytes ?_ | refine bl_set ?_ ?_ | refine bl_trans ?_ (by assumption))) <;> first | exact Nat.le_refl _ | (simp; done) | (simp; omega) | omega)
  clear hW0 s0
  have HZ := Lib.hid hz
  clear hz
  refine wpIn_rangeFunc_ownH (F := Fence.wide) rfl (by omega) (gf := 126) (lb := #[.pointer (some ⟨w.heap.size + 1 + 1 + 1, 0, none⟩)]) rfl trivial (enters_of Tryd.func126 (by kernel_rfl) rfl)
    (all_stops (w.heap.size + 1 + 1 + 1) w.heap.size l hm W0 (fun W' h => hT.below (hb0.trans h)) hb0.size (by rw [k3.cell]; rfl)) (fun h k => kpA_t h k) (kpA_b (n₀ := w.heap.size) hb0.size) (Below.refl _ _) (fun _ => rfl)
    (fun pre W => Hid (Blk W w.heap.size 34 #[.int .i64 0, .int .i64 0, .int .i64 0, .int .i64 0] ∧ Blk W (w.heap.size + 1) 34 #[.int .i64 l.length, .int .i64 (szOf l pre).1, .int .i64 (szOf l pre).2.1, .int .i64 (szOf l pre).2.2.1] ∧
      Blk W (w.heap.size + 1 + 1) 21 #[.int .i32 (szOf l pre).2.2.2] ∧ Below w.heap.size w W ∧ w.heap.size + 1 + 1 + 1 + 1 ≤ W.heap.size))
    (fun _ _ _ => False)
    (fun s X Y row hs hg hr => by
      have hs' := hs.out
      have hr' : ∀ r, row = some r → ∃ o : Obj, X.heap[r]? = some o ∧ o.isCells = false := fun r e => (hr r e).2
      exact ⟨hs'.1.keptC hg hr', hs'.2.1.keptC hg hr', hs'.2.2.1.keptC hg hr', hs'.2.2.2.1.grown hg hs'.2.2.2.1.size (fun k e => by have := (hr k e).1; have := HZ.out; omega), Nat.le_trans hs'.2.2.2.2 hg.size⟩)
    (fun _ _ _ _ _ hs _ _ => hs) ⟨k0, k1, k2, hb0, by have := HZ.out; omega⟩
    (fun x a' W => ∃ Bx, Hid (w.heap.size + 1 + 1 + 1 + 1 ≤ Bx ∧ Blk W Bx 158 #[.int .i32 (runeOf (l.drop x)), .int .i64 (stepW (l.drop x)), .bool (whole (l.drop x))]) ∧
      a' = { tmps := #[.slice A l.length c, undef, .pointer (some ⟨w.heap.size, 0, none⟩), .pointer (some ⟨w.heap.size + 1, 0, none⟩), .pointer (some ⟨w.heap.size + 1 + 1, 0, none⟩), undef, .pointer (some ⟨Bx, 0, none⟩), .slice A l.length c, .int .i64 l.length,
        .agg #[.int .i64 l.length, .int .i64 0, .int .i64 0, .int .i64 0], .slice A l.length c, .func (.func 126) #[] #[.pointer (some ⟨w.heap.size + 1 + 1 + 1, 0, none⟩)], .int .i64 x, .agg #[.int .i32 (runeOf (l.drop x)), .int .i64 (stepW (l.drop x)), .bool (whole (l.drop x))],
        undef, undef, undef, undef, undef, undef, undef, undef, undef, undef, undef, undef, undef, undef, undef, undef, undef, undef, undef, undef, undef, undef, undef, undef, undef, undef, undef, undef, undef, undef], defers := [] })
    (fun x a' s X Y row hs hg hr => by
      obtain ⟨Bx, h1, h2⟩ := hs
      exact ⟨Bx, ⟨h1.out.1, h1.out.2.keptC hg (fun r e => (hr r e).2)⟩, h2⟩) ?assign ?body ?done ?stop
  case assign =>
    rintro lp pre x W K hI hK
    have HK := Lib.hid hK
    clear hK
    unfold encA
    gi_wp2
    have hi := hI.out
    refine HK.out _ _ ((KeepsOthers.alloc _ _).from _) ⟨(Below.refl _ W).alloc hi.2.2.2.1.size _, KeepsWalks.alloc _ _, fun v hv => bl_cell (bl_alloc (bl_refl W)) hv⟩ ⟨hi.1.alloc _, hi.2.1.alloc _, hi.2.2.1.alloc _, hi.2.2.2.1.alloc hi.2.2.2.1.size _, by have := hi.2.2.2.2; simp; omega⟩ ⟨W.heap.size, ⟨by have := hi.2.2.2.2; omega, Blk.new _ _ _ rfl⟩, rfl⟩
  case body =>
    rintro lp pre x a' W hlp hrec0 hI ⟨Bx, hBx, rfl⟩ hlen
    clear hrec0
    obtain ⟨i0, i1, i2, i3⟩ := hI.out
    obtain ⟨b1, b2⟩ := hBx.out
    have hBx' := hBx
    have bd := szOf_bd l pre (0, 0, 0, 0)
    have hst := szOf_snoc l pre x
    change (szOf l pre).1 = _ ∧ _ ≤ (szOf l pre).2.1 ∧ (szOf l pre).2.1 ≤ _ ∧ _ ≤ (szOf l pre).2.2.1 ∧ (szOf l pre).2.2.1 ≤ _ at bd
    simp only [Int.zero_add] at bd
    obtain ⟨d1, d2, d3, d4, d5⟩ := bd
    have g1 : (0 : Int) ≤ (szOf l pre).1 ∧ (szOf l pre).1 ≤ 140737488355328 := by omega
    have c1 := i1.cell 1
    have c2 := i1.cell 2
    have c3 := i1.cell 3
    have f1 := i1.frozen 1
    have f2 := i1.frozen 2
    have f3 := i1.frozen 3
    have c4 := i2.cell 0
    have f4 := i2.frozen 0
    have cx := b2.cell 0
    simp only [List.getElem?_toArray, List.getElem?_cons_zero, List.getElem?_cons_succ] at c1 c2 c3 c4 cx
    have n1 : Bx ≠ w.heap.size + 1 := by omega
    have n2 : Bx ≠ w.heap.size + 1 + 1 := by omega
    have n1' : w.heap.size + 1 ≠ Bx := by omega
    have n2' : w.heap.size + 1 + 1 ≠ Bx := by omega
    have hus : unitsOf (runeOf (l.drop x)) = 1 ∨ unitsOf (runeOf (l.drop x)) = 2 := by unfold unitsOf; split <;> simp
    have HST := Lib.hid hst
    have HI := hI
    clear hst hI d1 hBx k0 k1 k2 k3 i0 i1 i2 i3 b2
    unfold szStep at HST
    generalize hq1 : (szOf l pre).1 = q1 at *
    generalize hq2 : (szOf l pre).2.1 = q2 at *
    generalize hq3 : (szOf l pre).2.2.1 = q3 at *
    generalize hq4 : (szOf l pre).2.2.2 = q4 at *
    generalize hr : runeOf (l.drop x) = r at *
    have hu0 : 1 ≤ unitsOf r := by omega
    have hu1 : unitsOf r ≤ 2 := by omega
    clear hus
    have hmx : Tryd.prog.follows .mixedOrders = true := by kernel_rfl
    have HR := Lib.hid hr
    clear hr hq1 hq2 hq3 hq4
    gi_wp2
    gi_cut [] from 14 (fun w' => Hid (Blk w' w.heap.size 34 #[.int .i64 0, .int .i64 0, .int .i64 0, .int .i64 0] ∧ Blk w' (w.heap.size + 1) 34 #[.int .i64 l.length, .int .i64 (q1 + 1), .int .i64 (q2 + unitsOf r), .int .i64 q3] ∧
      Blk w' (w.heap.size + 1 + 1) 21 #[.int .i32 q4] ∧ Blk w' Bx 158 #[.int .i32 r, .int .i64 (stepW (l.drop x)), .bool (whole (l.drop x))] ∧ Below w.heap.size w w' ∧ w.heap.size + 1 + 1 + 1 + 1 ≤ w'.heap.size ∧
      KeepsFrom W0.heap.size W w' ∧ KpA w.heap.size (w.heap.size + 1 + 1 + 1) W w'))
    case first =>
      have hwr : IntKind.i64.wrap (q2 + unitsOf r) = q2 + unitsOf r := IntWalk.i64_in _ (by omega)
      gi_region_with_o (refine ⟨trivial, rfl, ?_⟩; gi_at_call 116; refine (CallsIn.inRound lp (callsIn_wide.2 (units_any _ _))).mono ?_; rintro e w2 ⟨rfl, rfl⟩)
      all_goals gi_wp2_with fail
      all_goals gi_meet
      all_goals
        obtain ⟨z0, z1, z2, z3, z4⟩ := HI.out
        have zx := hBx'.out.2
        have m1 : w.heap.size ≠ w.heap.size + 1 := by omega
        have m2 : w.heap.size + 1 + 1 ≠ w.heap.size + 1 := by omega
        have m3 : w.heap.size ≤ w.heap.size + 1 := by omega
        have m4 : w.heap.size + 1 + 1 + 1 ≠ w.heap.size + 1 := by omega
        exact ⟨((z0.other m1 _).other m1 _).drew, ((z1.setL 1 (.int .i64 (q1 + 1))).setL 2 (.int .i64 (q2 + unitsOf r))).drew, ((z2.other m2 _).other m2 _).drew, ((zx.other n1 _).other n1 _).drew,
          ((z3.setCell m3 _).setCell m3 _).drew, by simpa using z4, kf_drew (kf_set (kf_set (KeepsFrom.refl _ _) _ _) _ _), kp_drew (kp_set (kp_set (kp_refl _ _ _) m3 m4 _) m3 m4 _)⟩
    case rest =>
      obtain ⟨z0, z1, z2, zx, z3, z4, z5, z6⟩ := hcut.out
      clear c1 c2 c3 c4 cx f1 f2 f3 f4
      have c2 := z1.cell 2
      have c3 := z1.cell 3
      have f3 := z1.frozen 3
      have c4 := z2.cell 0
      have f4 := z2.frozen 0
      have cx := zx.cell 0
      simp only [List.getElem?_toArray, List.getElem?_cons_zero, List.getElem?_cons_succ] at c2 c3 c4 cx
      have HC := hcut
      clear hcut z0 z1 z2 zx z3 z4 z5 z6
      have m1 : w.heap.size ≠ w.heap.size + 1 := by omega
      have m2 : w.heap.size + 1 + 1 ≠ w.heap.size + 1 := by omega
      have m3 : w.heap.size ≤ w.heap.size + 1 := by omega
      have m4 : w.heap.size + 1 + 1 + 1 ≠ w.heap.size + 1 := by omega
      have m5 : w.heap.size ≤ w.heap.size + 1 + 1 := by omega
      have m6 : w.heap.size + 1 + 1 + 1 ≠ w.heap.size + 1 + 1 := by omega
      have m7 : w.heap.size ≠ w.heap.size + 1 + 1 := by omega
      by_cases e13 : r = 13
      · have e13b : (r == 13) = true := beq_iff_eq.2 e13
        have HE := Lib.hid e13
        clear e13
        gi_wp2
        obtain ⟨z0, z1, z2, zx, z3, z4, z5, z6⟩ := HC.out
        exact ⟨kf_set (kf_set z5 _ _) _ _, kp_set (kp_set z6 m3 m4 _) m5 m6 _,
            (z0.other m1 _).other m7 _, by rw [HST.out, if_pos (.inl HE.out)]; exact (z1.setL 3 (.int .i64 (q3 + 1))).other m2.symm _, by rw [HST.out]; exact (z2.other m2 _).setL 0 (.int .i32 r), (z3.setCell m3 _).setCell m5 _, by simpa using z4⟩
      · have e13b : (r == 13) = false := beq_eq_false_iff_ne.2 e13
        have HE := Lib.hid e13
        clear e13
        by_cases e10 : r = 10
        · have e10b : (r == 10) = true := beq_iff_eq.2 e10
          have HE2 := Lib.hid e10
          clear e10
          by_cases el : q4 = 13
          · have elb : (q4 != 13) = false := by simp [el]
            have HE3 := Lib.hid el
            clear el
            gi_wp2
            obtain ⟨z0, z1, z2, zx, z3, z4, z5, z6⟩ := HC.out
            exact ⟨kf_set z5 _ _, kp_set z6 m5 m6 _,
            z0.other m7 _, by rw [HST.out, if_neg (fun h => h.elim HE.out (fun h => h.2 HE3.out)), Int.add_zero]; exact z1.other m2.symm _, by rw [HST.out]; exact z2.setL 0 (.int .i32 r), z3.setCell m5 _, by simpa using z4⟩
          · have elb : (q4 != 13) = true := by simpa using el
            have HE3 := Lib.hid el
            clear el
            gi_wp2
            obtain ⟨z0, z1, z2, zx, z3, z4, z5, z6⟩ := HC.out
            exact ⟨kf_set (kf_set z5 _ _) _ _, kp_set (kp_set z6 m3 m4 _) m5 m6 _,
            (z0.other m1 _).other m7 _, by rw [HST.out, if_pos (.inr ⟨HE2.out, HE3.out⟩)]; exact (z1.setL 3 (.int .i64 (q3 + 1))).other m2.symm _, by rw [HST.out]; exact (z2.other m2 _).setL 0 (.int .i32 r), (z3.setCell m3 _).setCell m5 _, by simpa using z4⟩
        · have e10b : (r == 10) = false := beq_eq_false_iff_ne.2 e10
          have HE2 := Lib.hid e10
          clear e10
          gi_wp2
          obtain ⟨z0, z1, z2, zx, z3, z4, z5, z6⟩ := HC.out
          exact ⟨kf_set z5 _ _, kp_set z6 m5 m6 _,
            z0.other m7 _, by rw [HST.out, if_neg (fun h => h.elim HE.out (fun h => HE2.out h.1)), Int.add_zero]; exact z1.other m2.symm _, by rw [HST.out]; exact z2.setL 0 (.int .i32 r), z3.setCell m5 _, by simpa using z4⟩
  case done =>
    rintro D ys W hD rfl hI hK
    obtain ⟨z0, z1, z2, z3, z4⟩ := hI.out
    have hD' : w.heap.size + 1 + 1 + 1 + 1 ≤ D := by have := HZ.out; omega
    have c0 := z1.cell 0
    have c1 := z1.cell 1
    have c2 := z1.cell 2
    have c3 := z1.cell 3
    have d0 := z0.cell 0
    have d1 := z0.cell 1
    have d2 := z0.cell 2
    have d3 := z0.cell 3
    have f0 := z0.frozen 0
    have f1 := z0.frozen 1
    have f2 := z0.frozen 2
    have f3 := z0.frozen 3
    simp only [List.getElem?_toArray, List.getElem?_cons_zero, List.getElem?_cons_succ] at c0 c1 c2 c3 d0 d1 d2 d3
    have HK := Lib.hid hK
    have HI := hI
    clear hK hI z0 z1 z2 z3 z4
    have hfin : Hid (sizesV l = .agg #[.int .i64 l.length, .int .i64 (szOf l (places l)).1, .int .i64 (szOf l (places l)).2.1, .int .i64 (szOf l (places l)).2.2.1]) := rfl
    generalize (szOf l (places l)).1 = q1 at *
    generalize (szOf l (places l)).2.1 = q2 at *
    generalize (szOf l (places l)).2.2.1 = q3 at *
    gi_wp2
    obtain ⟨z0, z1, z2, z3, z4⟩ := HI.out
    have zf := (((z0.setL 0 (.int .i64 l.length)).setL 1 (.int .i64 q1)).setL 2 (.int .i64 q2)).setL 3 (.int .i64 q3)
    have hbf := ((((z3.setCell (p := ⟨w.heap.size, 0, none⟩) (Nat.le_refl _) (.int .i64 l.length)).setCell (p := ⟨w.heap.size, 1, none⟩) (Nat.le_refl _) (.int .i64 q1)).setCell (p := ⟨w.heap.size, 2, none⟩) (Nat.le_refl _) (.int .i64 q2)).setCell (p := ⟨w.heap.size, 3, none⟩) (Nat.le_refl _) (.int .i64 q3))
    have hKf := ((((KeepsOthers.setCell W ⟨w.heap.size, 0, none⟩ (.int .i64 l.length)).trans (KeepsOthers.setCell _ ⟨w.heap.size, 1, none⟩ (.int .i64 q1))).trans (KeepsOthers.setCell _ ⟨w.heap.size, 2, none⟩ (.int .i64 q2))).trans (KeepsOthers.setCell _ ⟨w.heap.size, 3, none⟩ (.int .i64 q3))).same D _ HK.out rfl
    generalize World.setCell (World.setCell (World.setCell (World.setCell W _ _) _ _) _ _) _ _ = WF at *
    have zg := zf.keptC (grownBy_putObj' WF D (.deferred none)) (fun r e => by cases e; exact ⟨_, hKf, rfl⟩)
    refine ⟨by simp, .inl ⟨_, _, rfl, run_takeDeferred hKf, ?_⟩⟩
    refine ⟨sizesV l, ?_, rfl, hbf.trans (belowK_b (w := w) (Nat.le_refl _) WF D _ _ (by omega) hKf rfl rfl)⟩
    rw [hfin.out]
    exact results_cell_row (P := Tryd.prog) (fn := Tryd.f91) rfl _ _ w.heap.size 34 _ (0, 0) _ rfl zg Tryd.underlying34 rfl (by kernel_rfl)
  case stop =>
    rintro D c pre W _ _ h _
    exact h.elim
end Go.Proofs.YtliphfgiaioebaaDoor
