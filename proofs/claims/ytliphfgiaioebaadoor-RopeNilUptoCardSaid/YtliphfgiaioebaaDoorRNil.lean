/-
  Law 9: RopeNil's function.
-/
import Derived.Test.YtliphfgiaioebaaDoorNilR
namespace Go.Proofs.YtliphfgiaioebaaDoor
set_option linter.unusedVariables false
set_option linter.unusedSimpArgs false
open Go.RowKit
set_option maxRecDepth 100000
set_option maxHeartbeats 16000000
theorem Own.cap {n : Nat} {E : TypeId} {w : World} {A : Option Addr} {k c : Nat} {xs : List Value} (h : Own n E w (.slice A k c) xs) : xs.length ≤ c := by
  obtain ⟨A', c', e, -, h2⟩ := h.form
  simp only [Value.slice.injEq] at e
  omega
theorem own_empty {n B : Nat} {w : World} (h : Blk w B 5 #[]) (hn : n ≤ B) : Own n 5 w (.slice (some ⟨B, 0, none⟩) 0 0) [] :=
  ⟨by have := h.lt; omega, rfl, .inr ⟨B, 0, #[], rfl, hn, h, Nat.le_refl _, by unfold maxLen; omega, rfl, rfl⟩⟩
theorem pcok_no {pre : List Pc} {x : Pc} (h : PcOk [] (pre ++ [x])) : False := by
  obtain ⟨r, hr⟩ := h
  simp at hr
theorem res_cell1 {P : Program} {tmps : Array Value} {s : Tmp} {ty : TypeId} {w : World} {b : Nat} {t : TypeId} {v : Value} (h : tmps.getD s undef = .pointer (some ⟨b, 0, none⟩)) (hq : ∀ w, (isAgg ty).run P w = .ok false w)
    (hb : Blk w b t #[v]) : (resOne tmps (.cell s ty)).run P w = .ok v w := by
  have hc := hb.cell 0
  unfold resOne
  simp only [h, asAddr, Sem.run_bind, Sem.run_pure, Result.andThen_ok]
  simp only [loadVar, Sem.run_bind, hq w, Result.andThen_ok, Bool.false_eq_true, if_false]
  simp at hc
  simp [hc]
theorem RopeNil_walk (lo hi : Int) (A : Option Addr) (c : Nat) (l : List UInt8) (w : World) (hT : Tabs w) (hA : BytesAt w A l) (hc : l.length ≤ c) (hAc : A = none → c = 0) (hm : l.length ≤ 100000000) :
    Calls Tryd.prog 12 #[.int .i64 lo, .int .i64 hi, .slice A l.length c] w fun e w' => e = .returned (.bool true) ∧ Ltr w w' := by
  have hB := Ltr.refl w
  replace hA := hA.n
  refine (callsIn_wide (n := 0)).1 ?_
  refine callsIn_of_wp_marks Tryd.func12 rfl trivial ?_ rfl
  simp only [Tryd.ntmps12, List.size_toArray, List.length_cons, List.length_nil, Nat.reduceAdd, Nat.reduceSub, Array.replicate_succ, Array.replicate_zero, List.push_toArray, List.append_toArray, List.nil_append, List.cons_append]
  refine (wpIn_wide (n := 0)).2 ?_
  have h4 := hT.four
  refine wp_seq_k fun KK1 hKK1 => ?_
  refine rl_begin fun hgK hgo => ?_
  refine rl_alloc (some 6) 4 #[.bool false] rfl (by kernel_rfl) (fun W => by kernel_rfl) fun res w2 hL2 hp2 hres => ?_
  replace hT := hT.later hL2
  replace hB := hB.later hL2
  replace hA := hA.later hL2
  have hz2 := hL2.size
  have hlt2 := hres.lt
  try simp only [pa, pn, pb, pc, pd]
  refine rl_nil ?_
  refine hgo.out _ _ ?_
  clear hgo hgK
  refine hKK1 _ _ ?_
  refine wp_seq_k fun KK3 hKK3 => ?_
  refine wp_seq_k fun KK4 hKK4 => ?_
  refine rl_begin fun hgK hgo => ?_
  refine rl_call (some 24) 17 #[] rfl (by kernel_rfl) (by kernel_rfl) (wakes_any _ hT) ?_
  rintro e w5 ⟨rfl, hL5⟩
  refine ⟨_, rfl, ?_⟩
  replace hT := hT.later hL5
  replace hB := hB.later hL5
  replace hA := hA.later hL5
  replace hres := hres.later hL5
  have hz5 := hL5.size
  try simp only [pa, pn, pb, pc, pd]
  refine rl_take (some 25) (.bool false) rfl (by kernel_rfl) (by kernel_rfl) ?_
  try simp only [pa, pn, pb, pc, pd]
  refine rl_nil ?_
  refine hgo.out _ _ ?_
  clear hgo hgK
  refine hKK4 _ _ ?_
  refine wp_cond_false (by kernel_rfl) ?_
  refine wp_skip ?_
  refine hKK3 _ _ ?_
  refine wp_seq_k fun KK6 hKK6 => ?_
  refine rl_begin fun hgK hgo => ?_
  refine rl_take (some 7) (.pointer none) rfl (by kernel_rfl) (by kernel_rfl) ?_
  try simp only [pa, pn, pb, pc, pd]
  refine rl_nil ?_
  refine hgo.out _ _ ?_
  clear hgo hgK
  refine hKK6 _ _ ?_
  refine wp_seq_k fun KK7 hKK7 => ?_
  refine rl_begin fun hgK hgo => ?_
  refine rl_bslice (some 27) 5 #[] 0 rfl (by kernel_rfl) (fun W => by kernel_rfl) fun z0 w8 hL8 hp8 hz0 => ?_
  replace hT := hT.later hL8
  replace hB := hB.later hL8
  replace hA := hA.later hL8
  replace hres := hres.later hL8
  have hz8 := hL8.size
  have hlt8 := hz0.lt
  try simp only [pa, pn, pb, pc, pd]
  refine rl_take (some 28) (.slice A l.length c) rfl (by kernel_rfl) (by kernel_rfl) ?_
  try simp only [pa, pn, pb, pc, pd]
  have hO := own_empty (n := w.heap.size) hz0 (by omega)
  have hrow9 := hO.row
  refine rl_appendF (z := .int .u8 0) (bytes := 1) (ys := bvals l) (zs := bvals l) (k := l.length) (n' := l.length) (some 29) rfl (by kernel_rfl) rfl rfl rfl (by kernel_rfl) (by kernel_rfl) (by kernel_rfl) hO (bytesAt_iff.1 hA.at) (by rw [bvals_len]) (by rfl) (by rw [bvals_len]) (hAc) (one_bvals) (by (simp only [bvals_len, List.length_nil]; omega)) (by (simp only [bvals_len, List.length_nil]; omega)) fun A5 c5 w9 ho9 hG9 => ?_
  replace hT := hT.gr hG9 (fun k hk => by have := hrow9 k hk; omega)
  replace hB := hB.gr hG9 (fun k hk => by have := hrow9 k hk; omega)
  replace hA := hA.gr hG9 (fun k hk => by have := hrow9 k hk; omega)
  replace hres := hres.gr hG9 (blk_ne hO hres (by decide))
  clear hz0
  clear hO
  have hO := ho9
  clear ho9
  have hz9 := hG9.size
  try simp only [pa, pn, pb, pc, pd]
  refine rl_call (some 30) 36 #[.slice A5 l.length c5] rfl (by kernel_rfl) (by kernel_rfl) (New_any A5 c5 l _ hT hO.bytes (by have := hO.cap; rwa [bvals_len] at this) (by omega)) ?_
  rintro e w10 ⟨r1, rfl, hL10, -, -⟩
  refine ⟨_, rfl, ?_⟩
  replace hT := hT.later hL10
  replace hB := hB.later hL10
  replace hA := hA.later hL10
  replace hres := hres.later hL10
  have hz10 := hL10.size
  try simp only [pa, pn, pb, pc, pd]
  refine rl_take (some 26) (.tuple #[.pointer (some ⟨r1, 0, none⟩), .int .i64 0]) rfl (by kernel_rfl) (by kernel_rfl) ?_
  try simp only [pa, pn, pb, pc, pd]
  refine rl_take (some 31) (.pointer (some ⟨r1, 0, none⟩)) rfl (by kernel_rfl) (by kernel_rfl) ?_
  try simp only [pa, pn, pb, pc, pd]
  refine rl_take (some 32) (.int .i64 0) rfl (by kernel_rfl) (by kernel_rfl) ?_
  try simp only [pa, pn, pb, pc, pd]
  refine rl_take (some 8) (.pointer (some ⟨r1, 0, none⟩)) rfl (by kernel_rfl) (by kernel_rfl) ?_
  try simp only [pa, pn, pb, pc, pd]
  refine rl_take (some 9) (.int .i64 0) rfl (by kernel_rfl) (by kernel_rfl) ?_
  try simp only [pa, pn, pb, pc, pd]
  refine rl_nil ?_
  refine hgo.out _ _ ?_
  clear hgo hgK
  refine hKK7 _ _ ?_
  refine wp_seq_k fun KK11 hKK11 => ?_
  refine rl_begin fun hgK hgo => ?_
  refine rl_take (some 34) (.pointer none) rfl (by kernel_rfl) (by kernel_rfl) ?_
  try simp only [pa, pn, pb, pc, pd]
  refine rl_take (some 35) (.int .i64 lo) rfl (by kernel_rfl) (by kernel_rfl) ?_
  try simp only [pa, pn, pb, pc, pd]
  refine rl_call (some 36) 43 #[.pointer none, .int .i64 lo] rfl (by kernel_rfl) (by kernel_rfl) (Before_nil lo _) ?_
  rintro e w12 ⟨rfl, hL12⟩
  refine ⟨_, rfl, ?_⟩
  replace hT := hT.later hL12
  replace hB := hB.later hL12
  replace hA := hA.later hL12
  replace hres := hres.later hL12
  have hz12 := hL12.size
  try simp only [pa, pn, pb, pc, pd]
  refine rl_take (some 33) (.tuple #[.agg #[.int .i64 0, .int .i64 0, .int .i64 0, .int .i64 0, .string ⟨#[]⟩, .string ⟨#[]⟩], .int .i64 1]) rfl (by kernel_rfl) (by kernel_rfl) ?_
  try simp only [pa, pn, pb, pc, pd]
  refine rl_take (some 37) (.agg #[.int .i64 0, .int .i64 0, .int .i64 0, .int .i64 0, .string ⟨#[]⟩, .string ⟨#[]⟩]) rfl (by kernel_rfl) (by kernel_rfl) ?_
  try simp only [pa, pn, pb, pc, pd]
  refine rl_take (some 38) (.int .i64 1) rfl (by kernel_rfl) (by kernel_rfl) ?_
  try simp only [pa, pn, pb, pc, pd]
  refine rl_alloc (some 10) 36 #[.int .i64 0, .int .i64 0, .int .i64 0, .int .i64 0, .string ⟨#[]⟩, .string ⟨#[]⟩] rfl (by kernel_rfl) (fun W => by kernel_rfl) fun bw w13 hL13 hp13 hbw => ?_
  replace hT := hT.later hL13
  replace hB := hB.later hL13
  replace hA := hA.later hL13
  replace hres := hres.later hL13
  have hz13 := hL13.size
  have hlt13 := hbw.lt
  try simp only [pa, pn, pb, pc, pd]
  refine rl_store bw #[.int .i64 0, .int .i64 0, .int .i64 0, .int .i64 0, .string ⟨#[]⟩, .string ⟨#[]⟩] rfl rfl (by kernel_rfl) rfl rfl (by kernel_rfl) hbw rfl (by kernel_rfl) fun w14 hU14 hn14 => ?_
  have hz14 := hU14.size
  replace hT := hT.upd hU14 (by omega)
  replace hB := hB.upd hU14 (by omega)
  replace hA := hA.upd hU14 (by omega)
  replace hres := hres.upd hU14 (by omega)
  clear hbw
  have hbw := hn14
  clear hn14
  try simp only [pa, pn, pb, pc, pd]
  refine rl_take (some 11) (.int .i64 1) rfl (by kernel_rfl) (by kernel_rfl) ?_
  try simp only [pa, pn, pb, pc, pd]
  refine rl_nil ?_
  refine hgo.out _ _ ?_
  clear hgo hgK
  refine hKK11 _ _ ?_
  refine wp_seq_k fun KK15 hKK15 => ?_
  refine rl_begin fun hgK hgo => ?_
  refine rl_take (some 40) (.pointer none) rfl (by kernel_rfl) (by kernel_rfl) ?_
  try simp only [pa, pn, pb, pc, pd]
  refine rl_take (some 41) (.int .i64 lo) rfl (by kernel_rfl) (by kernel_rfl) ?_
  try simp only [pa, pn, pb, pc, pd]
  refine rl_take (some 42) (.int .i64 hi) rfl (by kernel_rfl) (by kernel_rfl) ?_
  try simp only [pa, pn, pb, pc, pd]
  refine rl_call (some 43) 44 #[.pointer none, .int .i64 lo, .int .i64 hi] rfl (by kernel_rfl) (by kernel_rfl) (Bytes_nil lo hi _) ?_
  rintro e w16 ⟨rfl, hL16⟩
  refine ⟨_, rfl, ?_⟩
  replace hT := hT.later hL16
  replace hB := hB.later hL16
  replace hA := hA.later hL16
  replace hres := hres.later hL16
  replace hbw := hbw.later hL16
  have hz16 := hL16.size
  try simp only [pa, pn, pb, pc, pd]
  refine rl_take (some 39) (.tuple #[.slice none 0 0, .int .i64 1]) rfl (by kernel_rfl) (by kernel_rfl) ?_
  try simp only [pa, pn, pb, pc, pd]
  refine rl_take (some 44) (.slice none 0 0) rfl (by kernel_rfl) (by kernel_rfl) ?_
  try simp only [pa, pn, pb, pc, pd]
  refine rl_take (some 45) (.int .i64 1) rfl (by kernel_rfl) (by kernel_rfl) ?_
  try simp only [pa, pn, pb, pc, pd]
  refine rl_take (some 12) (.slice none 0 0) rfl (by kernel_rfl) (by kernel_rfl) ?_
  try simp only [pa, pn, pb, pc, pd]
  refine rl_take (some 13) (.int .i64 1) rfl (by kernel_rfl) (by kernel_rfl) ?_
  try simp only [pa, pn, pb, pc, pd]
  refine rl_nil ?_
  refine hgo.out _ _ ?_
  clear hgo hgK
  refine hKK15 _ _ ?_
  refine wp_seq_k fun KK17 hKK17 => ?_
  refine rl_begin fun hgK hgo => ?_
  refine rl_take (some 47) (.pointer none) rfl (by kernel_rfl) (by kernel_rfl) ?_
  try simp only [pa, pn, pb, pc, pd]
  refine rl_take (some 48) (.int .i64 lo) rfl (by kernel_rfl) (by kernel_rfl) ?_
  try simp only [pa, pn, pb, pc, pd]
  refine rl_call (some 49) 39 #[.pointer none, .int .i64 lo] rfl (by kernel_rfl) (by kernel_rfl) (Split_nil lo _) ?_
  rintro e w18 ⟨rfl, hL18⟩
  refine ⟨_, rfl, ?_⟩
  replace hT := hT.later hL18
  replace hB := hB.later hL18
  replace hA := hA.later hL18
  replace hres := hres.later hL18
  replace hbw := hbw.later hL18
  have hz18 := hL18.size
  try simp only [pa, pn, pb, pc, pd]
  refine rl_take (some 46) (.tuple #[.pointer none, .pointer none, .int .i64 1]) rfl (by kernel_rfl) (by kernel_rfl) ?_
  try simp only [pa, pn, pb, pc, pd]
  refine rl_take (some 50) (.pointer none) rfl (by kernel_rfl) (by kernel_rfl) ?_
  try simp only [pa, pn, pb, pc, pd]
  refine rl_take (some 51) (.pointer none) rfl (by kernel_rfl) (by kernel_rfl) ?_
  try simp only [pa, pn, pb, pc, pd]
  refine rl_take (some 52) (.int .i64 1) rfl (by kernel_rfl) (by kernel_rfl) ?_
  try simp only [pa, pn, pb, pc, pd]
  refine rl_take (some 14) (.pointer none) rfl (by kernel_rfl) (by kernel_rfl) ?_
  try simp only [pa, pn, pb, pc, pd]
  refine rl_take (some 15) (.pointer none) rfl (by kernel_rfl) (by kernel_rfl) ?_
  try simp only [pa, pn, pb, pc, pd]
  refine rl_take (some 16) (.int .i64 1) rfl (by kernel_rfl) (by kernel_rfl) ?_
  try simp only [pa, pn, pb, pc, pd]
  refine rl_nil ?_
  refine hgo.out _ _ ?_
  clear hgo hgK
  refine hKK17 _ _ ?_
  refine wp_seq_k fun KK19 hKK19 => ?_
  refine rl_begin fun hgK hgo => ?_
  refine rl_take (some 54) (.pointer none) rfl (by kernel_rfl) (by kernel_rfl) ?_
  try simp only [pa, pn, pb, pc, pd]
  refine rl_take (some 55) (.int .i64 lo) rfl (by kernel_rfl) (by kernel_rfl) ?_
  try simp only [pa, pn, pb, pc, pd]
  refine rl_take (some 56) (.int .i64 hi) rfl (by kernel_rfl) (by kernel_rfl) ?_
  try simp only [pa, pn, pb, pc, pd]
  refine rl_bslice (some 57) 5 #[] 0 rfl (by kernel_rfl) (fun W => by kernel_rfl) fun y0 w20 hL20 hp20 hy0 => ?_
  replace hT := hT.later hL20
  replace hB := hB.later hL20
  replace hA := hA.later hL20
  replace hres := hres.later hL20
  replace hbw := hbw.later hL20
  have hz20 := hL20.size
  have hlt20 := hy0.lt
  try simp only [pa, pn, pb, pc, pd]
  refine rl_take (some 58) (.slice A l.length c) rfl (by kernel_rfl) (by kernel_rfl) ?_
  try simp only [pa, pn, pb, pc, pd]
  have hP := own_empty (n := w.heap.size) hy0 (by omega)
  have hrow21 := hP.row
  refine rl_appendF (z := .int .u8 0) (bytes := 1) (ys := bvals l) (zs := bvals l) (k := l.length) (n' := l.length) (some 59) rfl (by kernel_rfl) rfl rfl rfl (by kernel_rfl) (by kernel_rfl) (by kernel_rfl) hP (bytesAt_iff.1 hA.at) (by rw [bvals_len]) (by rfl) (by rw [bvals_len]) (hAc) (one_bvals) (by (simp only [bvals_len, List.length_nil]; omega)) (by (simp only [bvals_len, List.length_nil]; omega)) fun A6 c6 w21 ho21 hG21 => ?_
  replace hT := hT.gr hG21 (fun k hk => by have := hrow21 k hk; omega)
  replace hB := hB.gr hG21 (fun k hk => by have := hrow21 k hk; omega)
  clear hA
  replace hres := hres.gr hG21 (blk_ne hP hres (by decide))
  replace hbw := hbw.gr hG21 (blk_ne hP hbw (by decide))
  clear hy0
  clear hP
  have hP := ho21
  clear ho21
  have hz21 := hG21.size
  try simp only [pa, pn, pb, pc, pd]
  refine rl_call (some 60) 37 #[.pointer none, .int .i64 lo, .int .i64 hi, .slice A6 l.length c6] rfl (by kernel_rfl) (by kernel_rfl) (Replace_nil lo hi _ _) ?_
  rintro e w22 ⟨rfl, hL22⟩
  refine ⟨_, rfl, ?_⟩
  replace hT := hT.later hL22
  replace hB := hB.later hL22
  replace hres := hres.later hL22
  replace hbw := hbw.later hL22
  have hz22 := hL22.size
  try simp only [pa, pn, pb, pc, pd]
  refine rl_take (some 53) (.tuple #[.pointer none, .int .i64 1]) rfl (by kernel_rfl) (by kernel_rfl) ?_
  try simp only [pa, pn, pb, pc, pd]
  refine rl_take (some 61) (.pointer none) rfl (by kernel_rfl) (by kernel_rfl) ?_
  try simp only [pa, pn, pb, pc, pd]
  refine rl_take (some 62) (.int .i64 1) rfl (by kernel_rfl) (by kernel_rfl) ?_
  try simp only [pa, pn, pb, pc, pd]
  refine rl_take (some 17) (.pointer none) rfl (by kernel_rfl) (by kernel_rfl) ?_
  try simp only [pa, pn, pb, pc, pd]
  refine rl_take (some 18) (.int .i64 1) rfl (by kernel_rfl) (by kernel_rfl) ?_
  try simp only [pa, pn, pb, pc, pd]
  refine rl_nil ?_
  refine hgo.out _ _ ?_
  clear hgo hgK
  refine hKK19 _ _ ?_
  refine wp_seq_k fun KK23 hKK23 => ?_
  refine rl_begin fun hgK hgo => ?_
  refine rl_take (some 64) (.pointer (some ⟨r1, 0, none⟩)) rfl (by kernel_rfl) (by kernel_rfl) ?_
  try simp only [pa, pn, pb, pc, pd]
  refine rl_call (some 65) 42 #[.pointer none, .pointer (some ⟨r1, 0, none⟩)] rfl (by kernel_rfl) (by kernel_rfl) (Join_nil1 r1 _) ?_
  rintro e w24 ⟨rfl, hL24⟩
  refine ⟨_, rfl, ?_⟩
  replace hT := hT.later hL24
  replace hB := hB.later hL24
  replace hres := hres.later hL24
  replace hbw := hbw.later hL24
  have hz24 := hL24.size
  try simp only [pa, pn, pb, pc, pd]
  refine rl_take (some 63) (.tuple #[.pointer none, .int .i64 1]) rfl (by kernel_rfl) (by kernel_rfl) ?_
  try simp only [pa, pn, pb, pc, pd]
  refine rl_take (some 66) (.pointer none) rfl (by kernel_rfl) (by kernel_rfl) ?_
  try simp only [pa, pn, pb, pc, pd]
  refine rl_take (some 67) (.int .i64 1) rfl (by kernel_rfl) (by kernel_rfl) ?_
  try simp only [pa, pn, pb, pc, pd]
  refine rl_take (some 19) (.pointer none) rfl (by kernel_rfl) (by kernel_rfl) ?_
  try simp only [pa, pn, pb, pc, pd]
  refine rl_take (some 20) (.int .i64 1) rfl (by kernel_rfl) (by kernel_rfl) ?_
  try simp only [pa, pn, pb, pc, pd]
  refine rl_nil ?_
  refine hgo.out _ _ ?_
  clear hgo hgK
  refine hKK23 _ _ ?_
  refine wp_seq_k fun KK25 hKK25 => ?_
  refine rl_begin fun hgK hgo => ?_
  refine rl_take (some 69) (.pointer (some ⟨r1, 0, none⟩)) rfl (by kernel_rfl) (by kernel_rfl) ?_
  try simp only [pa, pn, pb, pc, pd]
  refine rl_call (some 70) 42 #[.pointer (some ⟨r1, 0, none⟩), .pointer none] rfl (by kernel_rfl) (by kernel_rfl) (Join_nil2 r1 _) ?_
  rintro e w26 ⟨rfl, hL26⟩
  refine ⟨_, rfl, ?_⟩
  replace hT := hT.later hL26
  replace hB := hB.later hL26
  replace hres := hres.later hL26
  replace hbw := hbw.later hL26
  have hz26 := hL26.size
  try simp only [pa, pn, pb, pc, pd]
  refine rl_take (some 68) (.tuple #[.pointer none, .int .i64 1]) rfl (by kernel_rfl) (by kernel_rfl) ?_
  try simp only [pa, pn, pb, pc, pd]
  refine rl_take (some 71) (.pointer none) rfl (by kernel_rfl) (by kernel_rfl) ?_
  try simp only [pa, pn, pb, pc, pd]
  refine rl_take (some 72) (.int .i64 1) rfl (by kernel_rfl) (by kernel_rfl) ?_
  try simp only [pa, pn, pb, pc, pd]
  refine rl_take (some 21) (.pointer none) rfl (by kernel_rfl) (by kernel_rfl) ?_
  try simp only [pa, pn, pb, pc, pd]
  refine rl_take (some 22) (.int .i64 1) rfl (by kernel_rfl) (by kernel_rfl) ?_
  try simp only [pa, pn, pb, pc, pd]
  refine rl_nil ?_
  refine hgo.out _ _ ?_
  clear hgo hgK
  refine hKK25 _ _ ?_
  refine wp_seq_k fun KK27 hKK27 => ?_
  refine wp_seq_k fun KK28 hKK28 => ?_
  refine rl_begin fun hgK hgo => ?_
  refine rl_take (some 73) (.int .i64 1) rfl (by kernel_rfl) (by kernel_rfl) ?_
  try simp only [pa, pn, pb, pc, pd]
  refine rl_take (some 74) (.bool false) rfl (by kernel_rfl) (by exact ex_bne (x := 1) (y := 1) (by kernel_rfl) ⟨fun q => (by cases q), fun q => absurd q (by omega)⟩) ?_
  try simp only [pa, pn, pb, pc, pd]
  refine rl_take (some 75) (.bool false) rfl (by kernel_rfl) (by kernel_rfl) ?_
  try simp only [pa, pn, pb, pc, pd]
  refine rl_take (some 76) (.int .i64 1) rfl (by kernel_rfl) (by kernel_rfl) ?_
  try simp only [pa, pn, pb, pc, pd]
  refine rl_take (some 77) (.bool false) rfl (by kernel_rfl) (by exact ex_bne (x := 1) (y := 1) (by kernel_rfl) ⟨fun q => (by cases q), fun q => absurd q (by omega)⟩) ?_
  try simp only [pa, pn, pb, pc, pd]
  refine rl_take (some 78) (.bool false) rfl (by kernel_rfl) (by kernel_rfl) ?_
  try simp only [pa, pn, pb, pc, pd]
  refine rl_take (some 79) (.bool false) rfl (by kernel_rfl) (by kernel_rfl) ?_
  try simp only [pa, pn, pb, pc, pd]
  refine rl_take (some 80) (.int .i64 1) rfl (by kernel_rfl) (by kernel_rfl) ?_
  try simp only [pa, pn, pb, pc, pd]
  refine rl_take (some 81) (.bool false) rfl (by kernel_rfl) (by exact ex_bne (x := 1) (y := 1) (by kernel_rfl) ⟨fun q => (by cases q), fun q => absurd q (by omega)⟩) ?_
  try simp only [pa, pn, pb, pc, pd]
  refine rl_take (some 82) (.bool false) rfl (by kernel_rfl) (by kernel_rfl) ?_
  try simp only [pa, pn, pb, pc, pd]
  refine rl_take (some 83) (.bool false) rfl (by kernel_rfl) (by kernel_rfl) ?_
  try simp only [pa, pn, pb, pc, pd]
  refine rl_take (some 84) (.int .i64 1) rfl (by kernel_rfl) (by kernel_rfl) ?_
  try simp only [pa, pn, pb, pc, pd]
  refine rl_take (some 85) (.bool false) rfl (by kernel_rfl) (by exact ex_bne (x := 1) (y := 1) (by kernel_rfl) ⟨fun q => (by cases q), fun q => absurd q (by omega)⟩) ?_
  try simp only [pa, pn, pb, pc, pd]
  refine rl_take (some 86) (.bool false) rfl (by kernel_rfl) (by kernel_rfl) ?_
  try simp only [pa, pn, pb, pc, pd]
  refine rl_take (some 87) (.bool false) rfl (by kernel_rfl) (by kernel_rfl) ?_
  try simp only [pa, pn, pb, pc, pd]
  refine rl_take (some 88) (.int .i64 1) rfl (by kernel_rfl) (by kernel_rfl) ?_
  try simp only [pa, pn, pb, pc, pd]
  refine rl_take (some 89) (.bool false) rfl (by kernel_rfl) (by exact ex_bne (x := 1) (y := 1) (by kernel_rfl) ⟨fun q => (by cases q), fun q => absurd q (by omega)⟩) ?_
  try simp only [pa, pn, pb, pc, pd]
  refine rl_take (some 90) (.bool false) rfl (by kernel_rfl) (by kernel_rfl) ?_
  try simp only [pa, pn, pb, pc, pd]
  refine rl_take (some 91) (.bool false) rfl (by kernel_rfl) (by kernel_rfl) ?_
  try simp only [pa, pn, pb, pc, pd]
  refine rl_take (some 92) (.int .i64 1) rfl (by kernel_rfl) (by kernel_rfl) ?_
  try simp only [pa, pn, pb, pc, pd]
  refine rl_take (some 93) (.bool false) rfl (by kernel_rfl) (by exact ex_bne (x := 1) (y := 1) (by kernel_rfl) ⟨fun q => (by cases q), fun q => absurd q (by omega)⟩) ?_
  try simp only [pa, pn, pb, pc, pd]
  refine rl_take (some 94) (.bool false) rfl (by kernel_rfl) (by kernel_rfl) ?_
  try simp only [pa, pn, pb, pc, pd]
  refine rl_nil ?_
  refine hgo.out _ _ ?_
  clear hgo hgK
  refine hKK28 _ _ ?_
  refine wp_cond_false (by kernel_rfl) ?_
  refine wp_skip ?_
  refine hKK27 _ _ ?_
  refine wp_seq_k fun KK29 hKK29 => ?_
  refine wp_seq_k fun KK30 hKK30 => ?_
  refine rl_begin fun hgK hgo => ?_
  refine rl_take (some 95) (.agg #[.int .i64 0, .int .i64 0, .int .i64 0, .int .i64 0, .string ⟨#[]⟩, .string ⟨#[]⟩]) rfl (by kernel_rfl) (by exact ldN 36 _ rfl bw 0 rfl (fun _ => by kernel_rfl) [] [.int .i64 0, .int .i64 0, .int .i64 0, .int .i64 0, .string ⟨#[]⟩, .string ⟨#[]⟩] [] (by kernel_rfl) hbw rfl rfl) ?_
  try simp only [pa, pn, pb, pc, pd]
  refine rl_take (some 96) (.agg #[.int .i64 0, .int .i64 0, .int .i64 0, .int .i64 0, .string ⟨#[]⟩, .string ⟨#[]⟩]) rfl (by kernel_rfl) (by kernel_rfl) ?_
  try simp only [pa, pn, pb, pc, pd]
  refine rl_take (some 97) (.bool false) rfl (by kernel_rfl) (by kernel_rfl) ?_
  try simp only [pa, pn, pb, pc, pd]
  refine rl_take (some 98) (.bool false) rfl (by kernel_rfl) (by kernel_rfl) ?_
  try simp only [pa, pn, pb, pc, pd]
  refine rl_take (some 99) (.slice none 0 0) rfl (by kernel_rfl) (by kernel_rfl) ?_
  try simp only [pa, pn, pb, pc, pd]
  refine rl_take (some 100) (.int .i64 0) rfl (by kernel_rfl) (by kernel_rfl) ?_
  try simp only [pa, pn, pb, pc, pd]
  refine rl_take (some 101) (.bool false) rfl (by kernel_rfl) (by exact ex_bne (x := 0) (y := 0) (by kernel_rfl) ⟨fun q => (by cases q), fun q => absurd q (by omega)⟩) ?_
  try simp only [pa, pn, pb, pc, pd]
  refine rl_take (some 102) (.bool false) rfl (by kernel_rfl) (by kernel_rfl) ?_
  try simp only [pa, pn, pb, pc, pd]
  refine rl_take (some 103) (.bool false) rfl (by kernel_rfl) (by kernel_rfl) ?_
  try simp only [pa, pn, pb, pc, pd]
  refine rl_take (some 104) (.pointer none) rfl (by kernel_rfl) (by kernel_rfl) ?_
  try simp only [pa, pn, pb, pc, pd]
  refine rl_take (some 105) (.bool false) rfl (by kernel_rfl) (by kernel_rfl) ?_
  try simp only [pa, pn, pb, pc, pd]
  refine rl_take (some 106) (.bool false) rfl (by kernel_rfl) (by kernel_rfl) ?_
  try simp only [pa, pn, pb, pc, pd]
  refine rl_take (some 107) (.bool false) rfl (by kernel_rfl) (by kernel_rfl) ?_
  try simp only [pa, pn, pb, pc, pd]
  refine rl_take (some 108) (.pointer none) rfl (by kernel_rfl) (by kernel_rfl) ?_
  try simp only [pa, pn, pb, pc, pd]
  refine rl_take (some 109) (.bool false) rfl (by kernel_rfl) (by kernel_rfl) ?_
  try simp only [pa, pn, pb, pc, pd]
  refine rl_take (some 110) (.bool false) rfl (by kernel_rfl) (by kernel_rfl) ?_
  try simp only [pa, pn, pb, pc, pd]
  refine rl_take (some 111) (.bool false) rfl (by kernel_rfl) (by kernel_rfl) ?_
  try simp only [pa, pn, pb, pc, pd]
  refine rl_take (some 112) (.pointer none) rfl (by kernel_rfl) (by kernel_rfl) ?_
  try simp only [pa, pn, pb, pc, pd]
  refine rl_take (some 113) (.bool false) rfl (by kernel_rfl) (by kernel_rfl) ?_
  try simp only [pa, pn, pb, pc, pd]
  refine rl_take (some 114) (.bool false) rfl (by kernel_rfl) (by kernel_rfl) ?_
  try simp only [pa, pn, pb, pc, pd]
  refine rl_take (some 115) (.bool false) rfl (by kernel_rfl) (by kernel_rfl) ?_
  try simp only [pa, pn, pb, pc, pd]
  refine rl_take (some 116) (.pointer none) rfl (by kernel_rfl) (by kernel_rfl) ?_
  try simp only [pa, pn, pb, pc, pd]
  refine rl_take (some 117) (.bool false) rfl (by kernel_rfl) (by kernel_rfl) ?_
  try simp only [pa, pn, pb, pc, pd]
  refine rl_take (some 118) (.bool false) rfl (by kernel_rfl) (by kernel_rfl) ?_
  try simp only [pa, pn, pb, pc, pd]
  refine rl_take (some 119) (.bool false) rfl (by kernel_rfl) (by kernel_rfl) ?_
  try simp only [pa, pn, pb, pc, pd]
  refine rl_take (some 120) (.pointer none) rfl (by kernel_rfl) (by kernel_rfl) ?_
  try simp only [pa, pn, pb, pc, pd]
  refine rl_take (some 121) (.bool false) rfl (by kernel_rfl) (by kernel_rfl) ?_
  try simp only [pa, pn, pb, pc, pd]
  refine rl_take (some 122) (.bool false) rfl (by kernel_rfl) (by kernel_rfl) ?_
  try simp only [pa, pn, pb, pc, pd]
  refine rl_nil ?_
  refine hgo.out _ _ ?_
  clear hgo hgK
  refine hKK30 _ _ ?_
  refine wp_cond_false (by kernel_rfl) ?_
  refine wp_skip ?_
  refine hKK29 _ _ ?_
  refine wp_seq_k fun KK31 hKK31 => ?_
  refine rl_begin fun hgK hgo => ?_
  refine rl_take (some 123) (.pointer none) rfl (by kernel_rfl) (by kernel_rfl) ?_
  try simp only [pa, pn, pb, pc, pd]
  refine rl_take (some 124) (.int .i64 lo) rfl (by kernel_rfl) (by kernel_rfl) ?_
  try simp only [pa, pn, pb, pc, pd]
  refine rl_take (some 125) (.int .i64 hi) rfl (by kernel_rfl) (by kernel_rfl) ?_
  try simp only [pa, pn, pb, pc, pd]
  refine rl_take (some 126) (.int .i64 (Int.tmod hi 2)) rfl (by kernel_rfl) (by kernel_rfl) ?_
  try simp only [pa, pn, pb, pc, pd]
  refine rl_take (some 127) (.bool (Int.tmod hi 2 == 0)) rfl (by kernel_rfl) (by kernel_rfl) ?_
  try simp only [pa, pn, pb, pc, pd]
  refine rl_call (some 128) 32 #[.pointer none, .int .i64 lo, .bool (Int.tmod hi 2 == 0)] rfl (by kernel_rfl) (by kernel_rfl) (Pieces_nil w.heap.size lo (Int.tmod hi 2 == 0) _) ?_
  rintro e w32 ⟨a3, b3, c3, rfl, hL32, hSeq⟩
  refine ⟨_, rfl, ?_⟩
  replace hT := hT.later hL32
  replace hB := hB.later hL32
  replace hres := hres.later hL32
  replace hbw := hbw.later hL32
  have hz32 := hL32.size
  try simp only [pa, pn, pb, pc, pd]
  refine rl_take (some 23) (.func (.func 76) #[] #[.pointer (some ⟨a3, 0, none⟩), .pointer (some ⟨b3, 0, none⟩), .pointer (some ⟨c3, 0, none⟩)]) rfl (by kernel_rfl) (by kernel_rfl) ?_
  try simp only [pa, pn, pb, pc, pd]
  refine rl_nil ?_
  refine hgo.out _ _ ?_
  clear hgo hgK
  refine hKK31 _ _ ?_
  refine wp_seq_k fun KK33 hKK33 => ?_
  refine wp_seq_k fun KK34 hKK34 => ?_
  refine rl_begin fun hgK hgo => ?_
  refine rl_take (some 129) (.func (.func 76) #[] #[.pointer (some ⟨a3, 0, none⟩), .pointer (some ⟨b3, 0, none⟩), .pointer (some ⟨c3, 0, none⟩)]) rfl (by kernel_rfl) (by kernel_rfl) ?_
  try simp only [pa, pn, pb, pc, pd]
  refine rl_take (some 130) (.bool false) rfl (by kernel_rfl) (by kernel_rfl) ?_
  try simp only [pa, pn, pb, pc, pd]
  refine rl_nil ?_
  refine hgo.out _ _ ?_
  clear hgo hgK
  refine hKK34 _ _ ?_
  refine wp_cond_false (by kernel_rfl) ?_
  refine wp_skip ?_
  refine hKK33 _ _ ?_
  refine wp_seq_k fun KK35 hKK35 => ?_
  refine wp_seq_k fun KK36 hKK36 => ?_
  refine rl_begin fun hgK hgo => ?_
  refine rl_take (some 131) (.func (.func 76) #[] #[.pointer (some ⟨a3, 0, none⟩), .pointer (some ⟨b3, 0, none⟩), .pointer (some ⟨c3, 0, none⟩)]) rfl (by kernel_rfl) (by kernel_rfl) ?_
  try simp only [pa, pn, pb, pc, pd]
  refine rl_nil ?_
  refine hgo.out _ _ ?_
  clear hgo hgK
  refine hKK36 _ _ ?_
  refine wp_block ?_
  refine range_p (n₀ := w.heap.size) (P := Tryd.prog) rfl (enters_of Tryd.func76 (by kernel_rfl) rfl) (hSeq) (by omega) (fun (pre : List (Pc)) W => (Tabs W) ∧ (Ltr w W) ∧ (Blk W res 4 #[.bool false])) (fun _ _ _ => False) ?hI37 ?hIx37 ?h037 (fun (⟨A9, c9, p9⟩ : Pc) a W => a = ⟨#[.int .i64 lo, .int .i64 hi, .slice A l.length c, undef, undef, undef, .pointer (some ⟨res, 0, none⟩), .pointer none, .pointer (some ⟨r1, 0, none⟩), .int .i64 0, .pointer (some ⟨bw, 0, none⟩), .int .i64 1, .slice none 0 0, .int .i64 1, .pointer none, .pointer none, .int .i64 1, .pointer none, .int .i64 1, .pointer none, .int .i64 1, .pointer none, .int .i64 1, .func (.func 76) #[] #[.pointer (some ⟨a3, 0, none⟩), .pointer (some ⟨b3, 0, none⟩), .pointer (some ⟨c3, 0, none⟩)], .bool true, .bool false, .tuple #[.pointer (some ⟨r1, 0, none⟩), .int .i64 0], .slice (some ⟨z0, 0, none⟩) 0 0, .slice A l.length c, .slice A5 l.length c5, .tuple #[.pointer (some ⟨r1, 0, none⟩), .int .i64 0], .pointer (some ⟨r1, 0, none⟩), .int .i64 0, .tuple #[.agg #[.int .i64 0, .int .i64 0, .int .i64 0, .int .i64 0, .string ⟨#[]⟩, .string ⟨#[]⟩], .int .i64 1], .pointer none, .int .i64 lo, .tuple #[.agg #[.int .i64 0, .int .i64 0, .int .i64 0, .int .i64 0, .string ⟨#[]⟩, .string ⟨#[]⟩], .int .i64 1], .agg #[.int .i64 0, .int .i64 0, .int .i64 0, .int .i64 0, .string ⟨#[]⟩, .string ⟨#[]⟩], .int .i64 1, .tuple #[.slice none 0 0, .int .i64 1], .pointer none, .int .i64 lo, .int .i64 hi, .tuple #[.slice none 0 0, .int .i64 1], .slice none 0 0, .int .i64 1, .tuple #[.pointer none, .pointer none, .int .i64 1], .pointer none, .int .i64 lo, .tuple #[.pointer none, .pointer none, .int .i64 1], .pointer none, .pointer none, .int .i64 1, .tuple #[.pointer none, .int .i64 1], .pointer none, .int .i64 lo, .int .i64 hi, .slice (some ⟨y0, 0, none⟩) 0 0, .slice A l.length c, .slice A6 l.length c6, .tuple #[.pointer none, .int .i64 1], .pointer none, .int .i64 1, .tuple #[.pointer none, .int .i64 1], .pointer (some ⟨r1, 0, none⟩), .tuple #[.pointer none, .int .i64 1], .pointer none, .int .i64 1, .tuple #[.pointer none, .int .i64 1], .pointer (some ⟨r1, 0, none⟩), .tuple #[.pointer none, .int .i64 1], .pointer none, .int .i64 1, .int .i64 1, .bool false, .bool false, .int .i64 1, .bool false, .bool false, .bool false, .int .i64 1, .bool false, .bool false, .bool false, .int .i64 1, .bool false, .bool false, .bool false, .int .i64 1, .bool false, .bool false, .bool false, .int .i64 1, .bool false, .bool false, .agg #[.int .i64 0, .int .i64 0, .int .i64 0, .int .i64 0, .string ⟨#[]⟩, .string ⟨#[]⟩], .agg #[.int .i64 0, .int .i64 0, .int .i64 0, .int .i64 0, .string ⟨#[]⟩, .string ⟨#[]⟩], .bool false, .bool false, .slice none 0 0, .int .i64 0, .bool false, .bool false, .bool false, .pointer none, .bool false, .bool false, .bool false, .pointer none, .bool false, .bool false, .bool false, .pointer none, .bool false, .bool false, .bool false, .pointer none, .bool false, .bool false, .bool false, .pointer none, .bool false, .bool false, .pointer none, .int .i64 lo, .int .i64 hi, .int .i64 (Int.tmod hi 2), .bool (Int.tmod hi 2 == 0), .func (.func 76) #[] #[.pointer (some ⟨a3, 0, none⟩), .pointer (some ⟨b3, 0, none⟩), .pointer (some ⟨c3, 0, none⟩)], .func (.func 76) #[] #[.pointer (some ⟨a3, 0, none⟩), .pointer (some ⟨b3, 0, none⟩), .pointer (some ⟨c3, 0, none⟩)], .bool false, .func (.func 76) #[] #[.pointer (some ⟨a3, 0, none⟩), .pointer (some ⟨b3, 0, none⟩), .pointer (some ⟨c3, 0, none⟩)], .slice A9 p9.length c9, undef, undef, undef, undef, undef, undef, undef, undef, undef, undef, undef, undef, undef, undef, undef, undef, undef, undef, undef, undef, undef, undef, undef, undef], []⟩ ∧ (pcP w.heap.size (A9, c9, p9) W)) ?hAx37 ?ha37 ?hb37 ?hd37 ?hs37
  case hI37 =>
    rintro pre W W' row ⟨hT, hB, hres⟩ hg hr
    exact ⟨hT.kc hg hr (by omega), hB.kc hg hr (by omega), hres.kc hg hr (by omega)⟩
  case hIx37 =>
    exact fun _ _ _ _ _ h _ _ => h
  case h037 =>
    exact ⟨by assumption, by assumption, by assumption⟩
  case hAx37 =>
    rintro ⟨A9, c9, p9⟩ a' _ W W' row ⟨rfl, hp⟩ hg hr
    exact ⟨rfl, hp.kc hg hr (by omega)⟩
  case ha37 =>
    skip
    rintro l37 pre ⟨A9, c9, p9⟩ w37a hz37a hi37 hp hok37
    have hLa37 := Ltr.refl w37a
    clear hi37
    simp only [pcEnc, List.setIfInBounds_toArray, List.set_cons_zero, List.set_cons_succ]
    refine wpIn_skip ?_
    exact And.intro hLa37 (And.intro rfl hp)
  case hb37 =>
    rintro l37 pre ⟨A9, c9, p9⟩ a37 w37b hTwo37 hi37 ⟨rfl, hp⟩ hok37
    obtain ⟨hT, hB, hres⟩ := hi37
    have hz237 := hTwo37.size
    have hBel37 := Bel.refl w.heap.size w37b (by omega)
    have hlt_hres_37 := hres.lt
    refine wpIn_block ?_
    refine wpIn_seq_k fun KK38 hKK38 => ?_
    refine rj_begin fun hgK hgo => ?_
    refine rj_store1 res (.bool false) rfl rfl (by kernel_rfl) rfl rfl (by kernel_rfl) hres (by kernel_rfl) fun w39 hU39 hn39 => ?_
    have hz39 := hU39.size
    replace hT := hT.upd hU39 (by omega)
    replace hB := hB.upd hU39 (by omega)
    replace hTwo37 := hTwo37.upd hU39 (by omega)
    replace hBel37 := hBel37.upd hU39 (by omega)
    clear hres
    have hres := hn39
    clear hn39
    try simp only [pa, pn, pb, pc, pd]
    refine rj_nil ?_
    refine hgo.out _ _ ?_
    clear hgo hgK
    refine hKK38 _ _ ?_
    refine wpIn_ret ?_
    try simp only [Exit.then, Exit.inBlock]
    exact ⟨hTwo37, pcok_no hok37⟩
  case hd37 =>
    rintro pre w37d hz37d hS37 hi37 hM37
    obtain ⟨hT, hB, hres⟩ := hi37
    replace hM37 : Mark w32.heap.size w37d := hM37
    have hlt_hres_37 := hres.lt
    refine hKK35 _ _ ?_
    refine wp_seq_k fun KK40 hKK40 => ?_
    refine rl_begin fun hgK hgo => ?_
    refine rl_take (some 133) (.pointer none) rfl (by kernel_rfl) (by kernel_rfl) ?_
    try simp only [pa, pn, pb, pc, pd]
    refine rl_call (some 134) 45 #[.pointer none] rfl (by kernel_rfl) (by kernel_rfl) (Len_nil _) ?_
    rintro e w41 ⟨rfl, hL41⟩
    refine ⟨_, rfl, ?_⟩
    replace hT := hT.later hL41
    replace hB := hB.later hL41
    replace hres := hres.later hL41
    replace hM37 := hM37.later hL41
    have hz41 := hL41.size
    try simp only [pa, pn, pb, pc, pd]
    refine rl_take (some 135) (.bool true) rfl (by kernel_rfl) (by exact ex_beq (x := 0) (y := 0) (by kernel_rfl) ⟨fun _ => by omega, fun _ => rfl⟩) ?_
    try simp only [pa, pn, pb, pc, pd]
    refine rl_take (some 136) (.bool true) rfl (by kernel_rfl) (by kernel_rfl) ?_
    try simp only [pa, pn, pb, pc, pd]
    refine rl_take (some 137) (.pointer none) rfl (by kernel_rfl) (by kernel_rfl) ?_
    try simp only [pa, pn, pb, pc, pd]
    refine rl_call (some 138) 34 #[.pointer none] rfl (by kernel_rfl) (by kernel_rfl) (Depth_nil _) ?_
    rintro e w42 ⟨rfl, hL42⟩
    refine ⟨_, rfl, ?_⟩
    replace hT := hT.later hL42
    replace hB := hB.later hL42
    replace hres := hres.later hL42
    replace hM37 := hM37.later hL42
    have hz42 := hL42.size
    try simp only [pa, pn, pb, pc, pd]
    refine rl_take (some 139) (.bool true) rfl (by kernel_rfl) (by exact ex_beq (x := 0) (y := 0) (by kernel_rfl) ⟨fun _ => by omega, fun _ => rfl⟩) ?_
    try simp only [pa, pn, pb, pc, pd]
    refine rl_take (some 140) (.bool true) rfl (by kernel_rfl) (by kernel_rfl) ?_
    try simp only [pa, pn, pb, pc, pd]
    refine rl_take (some 141) (.bool true) rfl (by kernel_rfl) (by kernel_rfl) ?_
    try simp only [pa, pn, pb, pc, pd]
    refine rl_take (some 142) (.pointer none) rfl (by kernel_rfl) (by kernel_rfl) ?_
    try simp only [pa, pn, pb, pc, pd]
    refine rl_call (some 143) 41 #[.pointer none] rfl (by kernel_rfl) (by kernel_rfl) (Weld_nil _ hT) ?_
    rintro e w43 ⟨rfl, hL43⟩
    refine ⟨_, rfl, ?_⟩
    replace hT := hT.later hL43
    replace hB := hB.later hL43
    replace hres := hres.later hL43
    replace hM37 := hM37.later hL43
    have hz43 := hL43.size
    try simp only [pa, pn, pb, pc, pd]
    refine rl_take (some 144) (.agg #[.int .i64 0, .int .i64 0, .int .i64 0, .int .i64 0, .string ⟨#[]⟩, .string ⟨#[]⟩]) rfl (by kernel_rfl) (by kernel_rfl) ?_
    try simp only [pa, pn, pb, pc, pd]
    refine rl_take (some 145) (.bool true) rfl (by kernel_rfl) (by kernel_rfl) ?_
    try simp only [pa, pn, pb, pc, pd]
    refine rl_take (some 146) (.bool true) rfl (by kernel_rfl) (by kernel_rfl) ?_
    try simp only [pa, pn, pb, pc, pd]
    refine rl_take (some 147) (.bool true) rfl (by kernel_rfl) (by kernel_rfl) ?_
    try simp only [pa, pn, pb, pc, pd]
    refine rl_take (some 148) (.pointer none) rfl (by kernel_rfl) (by kernel_rfl) ?_
    try simp only [pa, pn, pb, pc, pd]
    refine rl_call (some 149) 21 #[.pointer none, .func (.func 46) #[] #[]] rfl (by kernel_rfl) (by kernel_rfl) (First_nil1 _ hT) ?_
    rintro e w44 ⟨rfl, hL44⟩
    refine ⟨_, rfl, ?_⟩
    replace hT := hT.later hL44
    replace hB := hB.later hL44
    replace hres := hres.later hL44
    replace hM37 := hM37.later hL44
    have hz44 := hL44.size
    try simp only [pa, pn, pb, pc, pd]
    refine rl_take (some 150) (.bool true) rfl (by kernel_rfl) (by exact ex_beq (x := 0) (y := 0) (by kernel_rfl) ⟨fun _ => by omega, fun _ => rfl⟩) ?_
    try simp only [pa, pn, pb, pc, pd]
    refine rl_take (some 151) (.bool true) rfl (by kernel_rfl) (by kernel_rfl) ?_
    try simp only [pa, pn, pb, pc, pd]
    refine rl_take (some 152) (.bool true) rfl (by kernel_rfl) (by kernel_rfl) ?_
    try simp only [pa, pn, pb, pc, pd]
    refine rl_take (some 153) (.pointer none) rfl (by kernel_rfl) (by kernel_rfl) ?_
    try simp only [pa, pn, pb, pc, pd]
    refine rl_call (some 154) 21 #[.pointer none, .func (.func 47) #[] #[]] rfl (by kernel_rfl) (by kernel_rfl) (First_nil2 _ hT) ?_
    rintro e w45 ⟨rfl, hL45⟩
    refine ⟨_, rfl, ?_⟩
    replace hT := hT.later hL45
    replace hB := hB.later hL45
    replace hres := hres.later hL45
    replace hM37 := hM37.later hL45
    have hz45 := hL45.size
    try simp only [pa, pn, pb, pc, pd]
    refine rl_take (some 155) (.bool true) rfl (by kernel_rfl) (by exact ex_beq (x := -1) (y := -1) (by kernel_rfl) ⟨fun _ => by omega, fun _ => rfl⟩) ?_
    try simp only [pa, pn, pb, pc, pd]
    refine rl_take (some 156) (.bool true) rfl (by kernel_rfl) (by kernel_rfl) ?_
    try simp only [pa, pn, pb, pc, pd]
    refine rl_store1 res (.bool true) rfl rfl (by kernel_rfl) rfl rfl (by kernel_rfl) hres (by kernel_rfl) fun w46 hU46 hn46 => ?_
    have hz46 := hU46.size
    replace hT := hT.upd hU46 (by omega)
    replace hB := hB.upd hU46 (by omega)
    replace hM37 := hM37.upd hU46 (by omega)
    clear hres
    have hres := hn46
    clear hn46
    try simp only [pa, pn, pb, pc, pd]
    refine rl_nil ?_
    refine hgo.out _ _ ?_
    clear hgo hgK
    refine hKK40 _ _ ?_
    refine wp_ret ?_
    try simp only [Exit.then, Exit.inBlock]
    refine bm_mark hM37 ?_
    rintro w47 hG47 hZ47
    have hr47 := kcr hM37
    clear hM37
    replace hT := hT.kc hG47 hr47 (by omega)
    replace hB := hB.kc hG47 hr47 (by omega)
    replace hres := hres.kc hG47 hr47 (by omega)
    refine bm_ret (v := .bool true) (res1 rfl (res_cell1 (b := res) (v := .bool true) (by kernel_rfl) (fun _ => by kernel_rfl) hres)) ?_
    exact ⟨rfl, hB⟩
  case hs37 =>
    exact fun _ _ _ _ _ h _ => h.elim
end Go.Proofs.YtliphfgiaioebaaDoor
