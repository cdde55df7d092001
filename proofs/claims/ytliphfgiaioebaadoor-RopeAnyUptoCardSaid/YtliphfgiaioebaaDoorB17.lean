/-
  Chapter 2's reference: Long.
-/
import Derived.Test.YtliphfgiaioebaaDoorB16
namespace Go.Proofs.YtliphfgiaioebaaDoor
set_option linter.unusedVariables false
set_option linter.unusedSimpArgs false
open Go.RowKit
set_option maxRecDepth 100000
set_option maxHeartbeats 16000000
theorem Long_any (A : Option Addr) (c : Nat) (l : List UInt8) (p : Nat) (w : World) (hA : BytesAt w A l) (hc : l.length ≤ c) (hp : p ≤ 500000000) :
    Calls Tryd.prog 129 #[.slice A l.length c, .int .i64 p] w fun e w' => e = .returned (.int .i64 (eL l p)) ∧ Ltr w w' := by
  have hB := Ltr.refl w
  have hlg := long_eL l p
  unfold longOf at hlg
  go_enter Tryd.func129, Tryd.ntmps129
  refine wp_seq_k fun KK1 hKK1 => rl_begin fun hgK hgo => tk 4 (.int .i64 0) ?_
  simp only [pp]
  refine rl_end hgo <| hKK1 _ _ <| wp_seq_k fun KK2 hKK2 => rl_begin fun hgK hgo => tk 9 (.slice A l.length c) <| tk 10 (.int .i64 p) ?_
  simp only [pp]
  refine rl_call (some 11) 134 #[.slice A l.length c, .int .i64 p] rfl (by kernel_rfl) (by kernel_rfl) (refAt_any A c l p hA hc (by omega)) ?_
  rintro e w3 ⟨rfl, hL3⟩
  refine ⟨_, rfl, ?_⟩
  have hz3 := hL3.size
  try simp only [pp]
  refine tk 12 (.slice A l.length c) <| tk 13 (.int .i64 p) ?_
  simp only [pp]
  refine tx 14 (.int .i64 (((p + 1 : Nat) : Int))) (by exact ex_arith (e := (p : Int) + 1) (r := ((p + 1 : Nat) : Int)) (by kernel_rfl) (by omega) (by omega)) ?_
  simp only [pp]
  replace hA := hA.later hL3
  refine rl_call (some 15) 134 #[.slice A l.length c, .int .i64 (((p + 1 : Nat) : Int))] rfl (by kernel_rfl) (by kernel_rfl) (refAt_any A c l (p + 1) hA hc (by omega)) ?_
  rintro e w4 ⟨rfl, hL4⟩
  refine ⟨_, rfl, ?_⟩
  have hz4 := hL4.size
  try simp only [pp]
  refine tk 16 (.slice A l.length c) <| tk 17 (.int .i64 p) ?_
  simp only [pp]
  refine tx 18 (.int .i64 (((p + 2 : Nat) : Int))) (by exact ex_arith (e := (p : Int) + 2) (r := ((p + 2 : Nat) : Int)) (by kernel_rfl) (by omega) (by omega)) ?_
  simp only [pp]
  replace hA := hA.later hL4
  refine rl_call (some 19) 134 #[.slice A l.length c, .int .i64 (((p + 2 : Nat) : Int))] rfl (by kernel_rfl) (by kernel_rfl) (refAt_any A c l (p + 2) hA hc (by omega)) ?_
  rintro e w5 ⟨rfl, hL5⟩
  refine ⟨_, rfl, ?_⟩
  have hz5 := hL5.size
  try simp only [pp]
  refine tk 20 (.slice A l.length c) <| tk 21 (.int .i64 p) ?_
  simp only [pp]
  refine tx 22 (.int .i64 (((p + 3 : Nat) : Int))) (by exact ex_arith (e := (p : Int) + 3) (r := ((p + 3 : Nat) : Int)) (by kernel_rfl) (by omega) (by omega)) ?_
  simp only [pp]
  replace hA := hA.later hL5
  refine rl_call (some 23) 134 #[.slice A l.length c, .int .i64 (((p + 3 : Nat) : Int))] rfl (by kernel_rfl) (by kernel_rfl) (refAt_any A c l (p + 3) hA hc (by omega)) ?_
  rintro e w6 ⟨rfl, hL6⟩
  refine ⟨_, rfl, ?_⟩
  have hz6 := hL6.size
  try simp only [pp]
  refine tk 5 (.int .i64 (atN l p)) <| tk 6 (.int .i64 (atN l (p + 1))) <| tk 7 (.int .i64 (atN l (p + 2))) <| tk 8 (.int .i64 (atN l (p + 3))) ?_
  simp only [pp]
  refine rl_end hgo <| hKK2 _ _ <| wp_seq_k fun KK7 hKK7 => wp_seq_k fun KK8 hKK8 => rl_begin fun hgK hgo => ?_
  replace hB := (((hB.later hL3).later hL4).later hL5).later hL6
  replace hA := hA.later hL6
  (generalize atN l p = x at *); (generalize atN l (p + 1) = y at *); (generalize atN l (p + 2) = z at *); (generalize atN l (p + 3) = v at *); (clear hA)
  refine tk 24 (.int .i64 x) ?_
  simp only [pp]
  refine rl_call (some 25) 135 #[.int .i64 x, .int .i64 0, .int .i64 127] rfl (by kernel_rfl) (by kernel_rfl) (in_any x 0 127 _) ?_
  rintro e w9 (⟨rfl, hx1, hx2, hL9⟩ | ⟨rfl, hx3, hL9⟩)
  ·refine ⟨_, rfl, ?_⟩
   have hz9 := hL9.size
   try simp only [pp]
   refine rl_end hgo <| hKK8 _ _ <| wp_cond_true (by kernel_rfl) <| wp_seq_k fun KK10 hKK10 => rl_begin fun hgK hgo => tk 4 (.int .i64 1) ?_
   simp only [pp]
   refine rl_end hgo <| hKK10 _ _ ?_
   refine wp_ret ?_
   try simp only [Exit.then, Exit.inBlock]
   refine bp_ret (v := .int .i64 1) (res1 rfl (res_tmp (by kernel_rfl))) ?_
   replace hB := hB.later hL9
   exact ⟨ret_int (by rw [hlg]; (repeat' split) <;> omega), hB⟩
  ·refine ⟨_, rfl, ?_⟩
   have hz9 := hL9.size
   try simp only [pp]
   refine rl_end hgo <| hKK8 _ _ <| wp_cond_false (by kernel_rfl) <| wp_skip <| hKK7 _ _ <| wp_seq_k fun KK11 hKK11 => wp_seq_k fun KK12 hKK12 => rl_begin fun hgK hgo => tk 26 (.int .i64 (x)) ?_
   simp only [pp]
   refine rl_call (some 27) 135 #[.int .i64 (x), .int .i64 194, .int .i64 223] rfl (by kernel_rfl) (by kernel_rfl) (in_any x 194 223 _) ?_
   replace hB := hB.later hL9
   rintro e w13 (⟨rfl, hx1, hx2, hL13⟩ | ⟨rfl, hx4, hL13⟩)
   ·refine ⟨_, rfl, ?_⟩
    have hz13 := hL13.size
    try simp only [pp]
    refine tk 28 (.bool true) <| tk 29 (.int .i64 (y)) ?_
    simp only [pp]
    refine rl_call (some 30) 135 #[.int .i64 (y), .int .i64 128, .int .i64 191] rfl (by kernel_rfl) (by kernel_rfl) (in_any y 128 191 _) ?_
    replace hB := hB.later hL13
    rintro e w14 (⟨rfl, hy1, hy2, hL14⟩ | ⟨rfl, hy3, hL14⟩)
    ·refine ⟨_, rfl, ?_⟩
     have hz14 := hL14.size
     try simp only [pp]
     refine tk 31 (.bool true) ?_
     simp only [pp]
     refine rl_end hgo <| hKK12 _ _ <| wp_cond_true (by kernel_rfl) <| wp_seq_k fun KK15 hKK15 => rl_begin fun hgK hgo => tk 4 (.int .i64 2) ?_
     simp only [pp]
     refine rl_end hgo <| hKK15 _ _ ?_
     refine wp_ret ?_
     try simp only [Exit.then, Exit.inBlock]
     refine bp_ret (v := .int .i64 2) (res1 rfl (res_tmp (by kernel_rfl))) ?_
     replace hB := hB.later hL14
     exact ⟨ret_int (by rw [hlg]; (repeat' split) <;> omega), hB⟩
    ·refine ⟨_, rfl, ?_⟩
     have hz14 := hL14.size
     try simp only [pp]
     refine tk 31 (.bool false) ?_
     simp only [pp]
     refine rl_end hgo <| hKK12 _ _ <| wp_cond_false (by kernel_rfl) <| wp_skip <| hKK11 _ _ <| wp_seq_k fun KK16 hKK16 => wp_seq_k fun KK17 hKK17 => rl_begin fun hgK hgo => tk 32 (.int .i64 (z)) ?_
     simp only [pp]
     refine rl_call (some 33) 135 #[.int .i64 (z), .int .i64 128, .int .i64 191] rfl (by kernel_rfl) (by kernel_rfl) (in_any z 128 191 _) ?_
     replace hB := hB.later hL14
     rintro e w18 (⟨rfl, hz1, hz2, hL18⟩ | ⟨rfl, hz3, hL18⟩)
     ·refine ⟨_, rfl, ?_⟩
      have hz18 := hL18.size
      try simp only [pp]
      refine rl_end hgo <| hKK17 _ _ <| wp_cond_true (by kernel_rfl) <| wp_seq_k fun KK19 hKK19 => rl_begin fun hgK hgo => tk 34 (.int .i64 (x)) ?_
      simp only [pp]
      refine tx 35 (.bool false) (by exact eqf (x := x) (y := 224) (by omega)) <| tk 36 (.bool false) ?_
      simp only [pp]
      refine rl_pass (some 37) rfl (by kernel_rfl) ?_
      try simp only [pp]
      refine rl_pass (some 38) rfl (by kernel_rfl) ?_
      try simp only [pp]
      refine tk 39 (.bool false) <| tk 40 (.bool false) <| tk 41 (.int .i64 (x)) ?_
      simp only [pp]
      refine rl_call (some 42) 135 #[.int .i64 (x), .int .i64 225, .int .i64 236] rfl (by kernel_rfl) (by kernel_rfl) (in_no x 225 236 (by omega) _) ?_
      rintro e w20 ⟨rfl, hL20⟩
      refine ⟨_, rfl, ?_⟩
      have hz20 := hL20.size
      try simp only [pp]
      refine tk 43 (.bool false) ?_
      simp only [pp]
      refine rl_pass (some 44) rfl (by kernel_rfl) ?_
      try simp only [pp]
      refine rl_pass (some 45) rfl (by kernel_rfl) ?_
      try simp only [pp]
      refine tk 46 (.bool false) <| tk 47 (.bool false) <| tk 48 (.bool false) <| tk 49 (.int .i64 (x)) ?_
      simp only [pp]
      refine tx 50 (.bool false) (by exact eqf (x := x) (y := 237) (by omega)) <| tk 51 (.bool false) ?_
      simp only [pp]
      refine rl_pass (some 52) rfl (by kernel_rfl) ?_
      try simp only [pp]
      refine rl_pass (some 53) rfl (by kernel_rfl) ?_
      try simp only [pp]
      refine tk 54 (.bool false) <| tk 55 (.bool false) <| tk 56 (.bool false) <| tk 57 (.int .i64 (x)) ?_
      simp only [pp]
      refine rl_call (some 58) 135 #[.int .i64 (x), .int .i64 238, .int .i64 239] rfl (by kernel_rfl) (by kernel_rfl) (in_no x 238 239 (by omega) _) ?_
      rintro e w21 ⟨rfl, hL21⟩
      refine ⟨_, rfl, ?_⟩
      have hz21 := hL21.size
      try simp only [pp]
      refine tk 59 (.bool false) ?_
      simp only [pp]
      refine rl_pass (some 60) rfl (by kernel_rfl) ?_
      try simp only [pp]
      refine rl_pass (some 61) rfl (by kernel_rfl) ?_
      try simp only [pp]
      refine tk 62 (.bool false) <| tk 63 (.bool false) ?_
      simp only [pp]
      refine rl_end hgo <| hKK19 _ _ <| wp_cond_false (by kernel_rfl) <| wp_skip <| hKK16 _ _ <| wp_seq_k fun KK22 hKK22 => wp_seq_k fun KK23 hKK23 => rl_begin fun hgK hgo => tk 64 (.int .i64 (z)) ?_
      simp only [pp]
      refine rl_call (some 65) 135 #[.int .i64 (z), .int .i64 128, .int .i64 191] rfl (by kernel_rfl) (by kernel_rfl) (in_yes z 128 191 (by omega) (by omega) _) ?_
      rintro e w24 ⟨rfl, hL24⟩
      refine ⟨_, rfl, ?_⟩
      have hz24 := hL24.size
      try simp only [pp]
      refine tk 66 (.bool true) <| tk 67 (.int .i64 (v)) ?_
      simp only [pp]
      refine rl_call (some 68) 135 #[.int .i64 (v), .int .i64 128, .int .i64 191] rfl (by kernel_rfl) (by kernel_rfl) (in_any v 128 191 _) ?_
      replace hB := (((hB.later hL18).later hL20).later hL21).later hL24
      rintro e w25 (⟨rfl, hv1, hv2, hL25⟩ | ⟨rfl, hv3, hL25⟩)
      ·refine ⟨_, rfl, ?_⟩
       have hz25 := hL25.size
       try simp only [pp]
       refine tk 69 (.bool true) ?_
       simp only [pp]
       refine rl_end hgo <| hKK23 _ _ <| wp_cond_true (by kernel_rfl) <| wp_seq_k fun KK26 hKK26 => rl_begin fun hgK hgo => tk 70 (.int .i64 (x)) ?_
       simp only [pp]
       refine tx 71 (.bool false) (by exact eqf (x := x) (y := 240) (by omega)) <| tk 72 (.bool false) ?_
       simp only [pp]
       refine rl_pass (some 73) rfl (by kernel_rfl) ?_
       try simp only [pp]
       refine rl_pass (some 74) rfl (by kernel_rfl) ?_
       try simp only [pp]
       refine tk 75 (.bool false) <| tk 76 (.bool false) <| tk 77 (.int .i64 (x)) ?_
       simp only [pp]
       refine rl_call (some 78) 135 #[.int .i64 (x), .int .i64 241, .int .i64 243] rfl (by kernel_rfl) (by kernel_rfl) (in_no x 241 243 (by omega) _) ?_
       rintro e w27 ⟨rfl, hL27⟩
       refine ⟨_, rfl, ?_⟩
       have hz27 := hL27.size
       try simp only [pp]
       refine tk 79 (.bool false) ?_
       simp only [pp]
       refine rl_pass (some 80) rfl (by kernel_rfl) ?_
       try simp only [pp]
       refine rl_pass (some 81) rfl (by kernel_rfl) ?_
       try simp only [pp]
       refine tk 82 (.bool false) <| tk 83 (.bool false) <| tk 84 (.bool false) <| tk 85 (.int .i64 (x)) ?_
       simp only [pp]
       refine tx 86 (.bool false) (by exact eqf (x := x) (y := 244) (by omega)) <| tk 87 (.bool false) ?_
       simp only [pp]
       refine rl_pass (some 88) rfl (by kernel_rfl) ?_
       try simp only [pp]
       refine rl_pass (some 89) rfl (by kernel_rfl) ?_
       try simp only [pp]
       refine tk 90 (.bool false) <| tk 91 (.bool false) ?_
       simp only [pp]
       refine rl_end hgo <| hKK26 _ _ <| wp_cond_false (by kernel_rfl) <| wp_skip <| hKK22 _ _ <| wp_seq_k fun KK28 hKK28 => rl_begin fun hgK hgo => tk 4 (.int .i64 0) ?_
       simp only [pp]
       refine rl_end hgo <| hKK28 _ _ ?_
       refine wp_ret ?_
       try simp only [Exit.then, Exit.inBlock]
       refine bp_ret (v := .int .i64 0) (res1 rfl (res_tmp (by kernel_rfl))) ?_
       replace hB := (hB.later hL25).later hL27
       exact ⟨ret_int (by rw [hlg]; (repeat' split) <;> omega), hB⟩
      ·refine ⟨_, rfl, ?_⟩
       have hz25 := hL25.size
       try simp only [pp]
       refine tk 69 (.bool false) ?_
       simp only [pp]
       refine rl_end hgo <| hKK23 _ _ <| wp_cond_false (by kernel_rfl) <| wp_skip <| hKK22 _ _ <| wp_seq_k fun KK29 hKK29 => rl_begin fun hgK hgo => tk 4 (.int .i64 0) ?_
       simp only [pp]
       refine rl_end hgo <| hKK29 _ _ ?_
       refine wp_ret ?_
       try simp only [Exit.then, Exit.inBlock]
       refine bp_ret (v := .int .i64 0) (res1 rfl (res_tmp (by kernel_rfl))) ?_
       replace hB := hB.later hL25
       exact ⟨ret_int (by rw [hlg]; (repeat' split) <;> omega), hB⟩
     ·refine ⟨_, rfl, ?_⟩
      have hz18 := hL18.size
      try simp only [pp]
      refine rl_end hgo <| hKK17 _ _ <| wp_cond_false (by kernel_rfl) <| wp_skip <| hKK16 _ _ <| wp_seq_k fun KK30 hKK30 => wp_seq_k fun KK31 hKK31 => rl_begin fun hgK hgo => tk 64 (.int .i64 (z)) ?_
      simp only [pp]
      refine rl_call (some 65) 135 #[.int .i64 (z), .int .i64 128, .int .i64 191] rfl (by kernel_rfl) (by kernel_rfl) (in_no z 128 191 (by omega) _) ?_
      rintro e w32 ⟨rfl, hL32⟩
      refine ⟨_, rfl, ?_⟩
      have hz32 := hL32.size
      try simp only [pp]
      refine tk 66 (.bool false) ?_
      simp only [pp]
      refine rl_pass (some 67) rfl (by kernel_rfl) ?_
      try simp only [pp]
      refine rl_pass (some 68) rfl (by kernel_rfl) ?_
      try simp only [pp]
      refine tk 69 (.bool false) ?_
      simp only [pp]
      refine rl_end hgo <| hKK31 _ _ <| wp_cond_false (by kernel_rfl) <| wp_skip <| hKK30 _ _ <| wp_seq_k fun KK33 hKK33 => rl_begin fun hgK hgo => tk 4 (.int .i64 0) ?_
      simp only [pp]
      refine rl_end hgo <| hKK33 _ _ ?_
      refine wp_ret ?_
      try simp only [Exit.then, Exit.inBlock]
      refine bp_ret (v := .int .i64 0) (res1 rfl (res_tmp (by kernel_rfl))) ?_
      replace hB := (hB.later hL18).later hL32
      exact ⟨ret_int (by rw [hlg]; (repeat' split) <;> omega), hB⟩
   ·refine ⟨_, rfl, ?_⟩
    have hz13 := hL13.size
    try simp only [pp]
    refine tk 28 (.bool false) ?_
    simp only [pp]
    refine rl_pass (some 29) rfl (by kernel_rfl) ?_
    try simp only [pp]
    refine rl_pass (some 30) rfl (by kernel_rfl) ?_
    try simp only [pp]
    refine tk 31 (.bool false) ?_
    simp only [pp]
    refine rl_end hgo <| hKK12 _ _ <| wp_cond_false (by kernel_rfl) <| wp_skip <| hKK11 _ _ <| wp_seq_k fun KK34 hKK34 => wp_seq_k fun KK35 hKK35 => rl_begin fun hgK hgo => tk 32 (.int .i64 (z)) ?_
    simp only [pp]
    refine rl_call (some 33) 135 #[.int .i64 (z), .int .i64 128, .int .i64 191] rfl (by kernel_rfl) (by kernel_rfl) (in_any z 128 191 _) ?_
    replace hB := hB.later hL13
    rintro e w36 (⟨rfl, hz1, hz2, hL36⟩ | ⟨rfl, hz3, hL36⟩)
    ·refine ⟨_, rfl, ?_⟩
     have hz36 := hL36.size
     try simp only [pp]
     refine rl_end hgo <| hKK35 _ _ <| wp_cond_true (by kernel_rfl) <| wp_seq_k fun KK37 hKK37 => rl_begin fun hgK hgo => tk 34 (.int .i64 (x)) ?_
     simp only [pp]
     replace hB := hB.later hL36
     by_cases e0 : x = 224
     ·refine tx 35 (.bool true) (by exact eqt (x := x) (y := 224) (by omega)) <| tk 36 (.bool true) <| tk 37 (.int .i64 (y)) ?_
      simp only [pp]
      refine rl_call (some 38) 135 #[.int .i64 (y), .int .i64 160, .int .i64 191] rfl (by kernel_rfl) (by kernel_rfl) (in_any y 160 191 _) ?_
      rintro e w38 (⟨rfl, hy1, hy2, hL38⟩ | ⟨rfl, hy4, hL38⟩)
      ·refine ⟨_, rfl, ?_⟩
       have hz38 := hL38.size
       try simp only [pp]
       refine tk 39 (.bool true) <| tk 40 (.bool true) ?_
       simp only [pp]
       refine rl_pass (some 41) rfl (by kernel_rfl) ?_
       try simp only [pp]
       refine rl_pass (some 42) rfl (by kernel_rfl) ?_
       try simp only [pp]
       refine rl_pass (some 43) rfl (by kernel_rfl) ?_
       try simp only [pp]
       refine rl_pass (some 44) rfl (by kernel_rfl) ?_
       try simp only [pp]
       refine rl_pass (some 45) rfl (by kernel_rfl) ?_
       try simp only [pp]
       refine rl_pass (some 46) rfl (by kernel_rfl) ?_
       try simp only [pp]
       refine tk 47 (.bool true) <| tk 48 (.bool true) ?_
       simp only [pp]
       refine rl_pass (some 49) rfl (by kernel_rfl) ?_
       try simp only [pp]
       refine rl_pass (some 50) rfl (by kernel_rfl) ?_
       try simp only [pp]
       refine rl_pass (some 51) rfl (by kernel_rfl) ?_
       try simp only [pp]
       refine rl_pass (some 52) rfl (by kernel_rfl) ?_
       try simp only [pp]
       refine rl_pass (some 53) rfl (by kernel_rfl) ?_
       try simp only [pp]
       refine rl_pass (some 54) rfl (by kernel_rfl) ?_
       try simp only [pp]
       refine tk 55 (.bool true) <| tk 56 (.bool true) ?_
       simp only [pp]
       refine rl_pass (some 57) rfl (by kernel_rfl) ?_
       try simp only [pp]
       refine rl_pass (some 58) rfl (by kernel_rfl) ?_
       try simp only [pp]
       refine rl_pass (some 59) rfl (by kernel_rfl) ?_
       try simp only [pp]
       refine rl_pass (some 60) rfl (by kernel_rfl) ?_
       try simp only [pp]
       refine rl_pass (some 61) rfl (by kernel_rfl) ?_
       try simp only [pp]
       refine rl_pass (some 62) rfl (by kernel_rfl) ?_
       try simp only [pp]
       refine tk 63 (.bool true) ?_
       simp only [pp]
       refine rl_end hgo <| hKK37 _ _ <| wp_cond_true (by kernel_rfl) <| wp_seq_k fun KK39 hKK39 => rl_begin fun hgK hgo => tk 4 (.int .i64 3) ?_
       simp only [pp]
       refine rl_end hgo <| hKK39 _ _ ?_
       refine wp_ret ?_
       try simp only [Exit.then, Exit.inBlock]
       refine bp_ret (v := .int .i64 3) (res1 rfl (res_tmp (by kernel_rfl))) ?_
       replace hB := hB.later hL38
       exact ⟨ret_int (by rw [hlg]; (repeat' split) <;> omega), hB⟩
      ·refine ⟨_, rfl, ?_⟩
       have hz38 := hL38.size
       try simp only [pp]
       refine tk 39 (.bool false) <| tk 40 (.bool false) <| tk 41 (.int .i64 (x)) ?_
       simp only [pp]
       refine rl_call (some 42) 135 #[.int .i64 (x), .int .i64 225, .int .i64 236] rfl (by kernel_rfl) (by kernel_rfl) (in_no x 225 236 (by omega) _) ?_
       rintro e w40 ⟨rfl, hL40⟩
       refine ⟨_, rfl, ?_⟩
       have hz40 := hL40.size
       try simp only [pp]
       refine tk 43 (.bool false) ?_
       simp only [pp]
       refine rl_pass (some 44) rfl (by kernel_rfl) ?_
       try simp only [pp]
       refine rl_pass (some 45) rfl (by kernel_rfl) ?_
       try simp only [pp]
       refine tk 46 (.bool false) <| tk 47 (.bool false) <| tk 48 (.bool false) <| tk 49 (.int .i64 (x)) ?_
       simp only [pp]
       refine tx 50 (.bool false) (by exact eqf (x := x) (y := 237) (by omega)) <| tk 51 (.bool false) ?_
       simp only [pp]
       refine rl_pass (some 52) rfl (by kernel_rfl) ?_
       try simp only [pp]
       refine rl_pass (some 53) rfl (by kernel_rfl) ?_
       try simp only [pp]
       refine tk 54 (.bool false) <| tk 55 (.bool false) <| tk 56 (.bool false) <| tk 57 (.int .i64 (x)) ?_
       simp only [pp]
       refine rl_call (some 58) 135 #[.int .i64 (x), .int .i64 238, .int .i64 239] rfl (by kernel_rfl) (by kernel_rfl) (in_no x 238 239 (by omega) _) ?_
       rintro e w41 ⟨rfl, hL41⟩
       refine ⟨_, rfl, ?_⟩
       have hz41 := hL41.size
       try simp only [pp]
       refine tk 59 (.bool false) ?_
       simp only [pp]
       refine rl_pass (some 60) rfl (by kernel_rfl) ?_
       try simp only [pp]
       refine rl_pass (some 61) rfl (by kernel_rfl) ?_
       try simp only [pp]
       refine tk 62 (.bool false) <| tk 63 (.bool false) ?_
       simp only [pp]
       refine rl_end hgo <| hKK37 _ _ <| wp_cond_false (by kernel_rfl) <| wp_skip <| hKK34 _ _ <| wp_seq_k fun KK42 hKK42 => wp_seq_k fun KK43 hKK43 => rl_begin fun hgK hgo => tk 64 (.int .i64 (z)) ?_
       simp only [pp]
       refine rl_call (some 65) 135 #[.int .i64 (z), .int .i64 128, .int .i64 191] rfl (by kernel_rfl) (by kernel_rfl) (in_yes z 128 191 (by omega) (by omega) _) ?_
       rintro e w44 ⟨rfl, hL44⟩
       refine ⟨_, rfl, ?_⟩
       have hz44 := hL44.size
       try simp only [pp]
       refine tk 66 (.bool true) <| tk 67 (.int .i64 (v)) ?_
       simp only [pp]
       refine rl_call (some 68) 135 #[.int .i64 (v), .int .i64 128, .int .i64 191] rfl (by kernel_rfl) (by kernel_rfl) (in_any v 128 191 _) ?_
       replace hB := (((hB.later hL38).later hL40).later hL41).later hL44
       rintro e w45 (⟨rfl, hv1, hv2, hL45⟩ | ⟨rfl, hv3, hL45⟩)
       ·refine ⟨_, rfl, ?_⟩
        have hz45 := hL45.size
        try simp only [pp]
        refine tk 69 (.bool true) ?_
        simp only [pp]
        refine rl_end hgo <| hKK43 _ _ <| wp_cond_true (by kernel_rfl) <| wp_seq_k fun KK46 hKK46 => rl_begin fun hgK hgo => tk 70 (.int .i64 (x)) ?_
        simp only [pp]
        refine tx 71 (.bool false) (by exact eqf (x := x) (y := 240) (by omega)) <| tk 72 (.bool false) ?_
        simp only [pp]
        refine rl_pass (some 73) rfl (by kernel_rfl) ?_
        try simp only [pp]
        refine rl_pass (some 74) rfl (by kernel_rfl) ?_
        try simp only [pp]
        refine tk 75 (.bool false) <| tk 76 (.bool false) <| tk 77 (.int .i64 (x)) ?_
        simp only [pp]
        refine rl_call (some 78) 135 #[.int .i64 (x), .int .i64 241, .int .i64 243] rfl (by kernel_rfl) (by kernel_rfl) (in_no x 241 243 (by omega) _) ?_
        rintro e w47 ⟨rfl, hL47⟩
        refine ⟨_, rfl, ?_⟩
        have hz47 := hL47.size
        try simp only [pp]
        refine tk 79 (.bool false) ?_
        simp only [pp]
        refine rl_pass (some 80) rfl (by kernel_rfl) ?_
        try simp only [pp]
        refine rl_pass (some 81) rfl (by kernel_rfl) ?_
        try simp only [pp]
        refine tk 82 (.bool false) <| tk 83 (.bool false) <| tk 84 (.bool false) <| tk 85 (.int .i64 (x)) ?_
        simp only [pp]
        refine tx 86 (.bool false) (by exact eqf (x := x) (y := 244) (by omega)) <| tk 87 (.bool false) ?_
        simp only [pp]
        refine rl_pass (some 88) rfl (by kernel_rfl) ?_
        try simp only [pp]
        refine rl_pass (some 89) rfl (by kernel_rfl) ?_
        try simp only [pp]
        refine tk 90 (.bool false) <| tk 91 (.bool false) ?_
        simp only [pp]
        refine rl_end hgo <| hKK46 _ _ <| wp_cond_false (by kernel_rfl) <| wp_skip <| hKK42 _ _ <| wp_seq_k fun KK48 hKK48 => rl_begin fun hgK hgo => tk 4 (.int .i64 0) ?_
        simp only [pp]
        refine rl_end hgo <| hKK48 _ _ ?_
        refine wp_ret ?_
        try simp only [Exit.then, Exit.inBlock]
        refine bp_ret (v := .int .i64 0) (res1 rfl (res_tmp (by kernel_rfl))) ?_
        replace hB := (hB.later hL45).later hL47
        exact ⟨ret_int (by rw [hlg]; (repeat' split) <;> omega), hB⟩
       ·refine ⟨_, rfl, ?_⟩
        have hz45 := hL45.size
        try simp only [pp]
        refine tk 69 (.bool false) ?_
        simp only [pp]
        refine rl_end hgo <| hKK43 _ _ <| wp_cond_false (by kernel_rfl) <| wp_skip <| hKK42 _ _ <| wp_seq_k fun KK49 hKK49 => rl_begin fun hgK hgo => tk 4 (.int .i64 0) ?_
        simp only [pp]
        refine rl_end hgo <| hKK49 _ _ ?_
        refine wp_ret ?_
        try simp only [Exit.then, Exit.inBlock]
        refine bp_ret (v := .int .i64 0) (res1 rfl (res_tmp (by kernel_rfl))) ?_
        replace hB := hB.later hL45
        exact ⟨ret_int (by rw [hlg]; (repeat' split) <;> omega), hB⟩
     ·refine tx 35 (.bool false) (by exact eqf (x := x) (y := 224) (by omega)) <| tk 36 (.bool false) ?_
      simp only [pp]
      refine rl_pass (some 37) rfl (by kernel_rfl) ?_
      try simp only [pp]
      refine rl_pass (some 38) rfl (by kernel_rfl) ?_
      try simp only [pp]
      refine tk 39 (.bool false) <| tk 40 (.bool false) <| tk 41 (.int .i64 (x)) ?_
      simp only [pp]
      refine rl_call (some 42) 135 #[.int .i64 (x), .int .i64 225, .int .i64 236] rfl (by kernel_rfl) (by kernel_rfl) (in_any x 225 236 _) ?_
      rintro e w50 (⟨rfl, hx1, hx2, hL50⟩ | ⟨rfl, hx5, hL50⟩)
      ·refine ⟨_, rfl, ?_⟩
       have hz50 := hL50.size
       try simp only [pp]
       refine tk 43 (.bool true) <| tk 44 (.int .i64 (y)) ?_
       simp only [pp]
       refine rl_call (some 45) 135 #[.int .i64 (y), .int .i64 128, .int .i64 191] rfl (by kernel_rfl) (by kernel_rfl) (in_any y 128 191 _) ?_
       replace hB := hB.later hL50
       rintro e w51 (⟨rfl, hy1, hy2, hL51⟩ | ⟨rfl, hy5, hL51⟩)
       ·refine ⟨_, rfl, ?_⟩
        have hz51 := hL51.size
        try simp only [pp]
        refine tk 46 (.bool true) <| tk 47 (.bool true) <| tk 48 (.bool true) ?_
        simp only [pp]
        refine rl_pass (some 49) rfl (by kernel_rfl) ?_
        try simp only [pp]
        refine rl_pass (some 50) rfl (by kernel_rfl) ?_
        try simp only [pp]
        refine rl_pass (some 51) rfl (by kernel_rfl) ?_
        try simp only [pp]
        refine rl_pass (some 52) rfl (by kernel_rfl) ?_
        try simp only [pp]
        refine rl_pass (some 53) rfl (by kernel_rfl) ?_
        try simp only [pp]
        refine rl_pass (some 54) rfl (by kernel_rfl) ?_
        try simp only [pp]
        refine tk 55 (.bool true) <| tk 56 (.bool true) ?_
        simp only [pp]
        refine rl_pass (some 57) rfl (by kernel_rfl) ?_
        try simp only [pp]
        refine rl_pass (some 58) rfl (by kernel_rfl) ?_
        try simp only [pp]
        refine rl_pass (some 59) rfl (by kernel_rfl) ?_
        try simp only [pp]
        refine rl_pass (some 60) rfl (by kernel_rfl) ?_
        try simp only [pp]
        refine rl_pass (some 61) rfl (by kernel_rfl) ?_
        try simp only [pp]
        refine rl_pass (some 62) rfl (by kernel_rfl) ?_
        try simp only [pp]
        refine tk 63 (.bool true) ?_
        simp only [pp]
        refine rl_end hgo <| hKK37 _ _ <| wp_cond_true (by kernel_rfl) <| wp_seq_k fun KK52 hKK52 => rl_begin fun hgK hgo => tk 4 (.int .i64 3) ?_
        simp only [pp]
        refine rl_end hgo <| hKK52 _ _ ?_
        refine wp_ret ?_
        try simp only [Exit.then, Exit.inBlock]
        refine bp_ret (v := .int .i64 3) (res1 rfl (res_tmp (by kernel_rfl))) ?_
        replace hB := hB.later hL51
        exact ⟨ret_int (by rw [hlg]; (repeat' split) <;> omega), hB⟩
       ·refine ⟨_, rfl, ?_⟩
        have hz51 := hL51.size
        try simp only [pp]
        refine tk 46 (.bool false) <| tk 47 (.bool false) <| tk 48 (.bool false) <| tk 49 (.int .i64 (x)) ?_
        simp only [pp]
        refine tx 50 (.bool false) (by exact eqf (x := x) (y := 237) (by omega)) <| tk 51 (.bool false) ?_
        simp only [pp]
        refine rl_pass (some 52) rfl (by kernel_rfl) ?_
        try simp only [pp]
        refine rl_pass (some 53) rfl (by kernel_rfl) ?_
        try simp only [pp]
        refine tk 54 (.bool false) <| tk 55 (.bool false) <| tk 56 (.bool false) <| tk 57 (.int .i64 (x)) ?_
        simp only [pp]
        refine rl_call (some 58) 135 #[.int .i64 (x), .int .i64 238, .int .i64 239] rfl (by kernel_rfl) (by kernel_rfl) (in_no x 238 239 (by omega) _) ?_
        rintro e w53 ⟨rfl, hL53⟩
        refine ⟨_, rfl, ?_⟩
        have hz53 := hL53.size
        try simp only [pp]
        refine tk 59 (.bool false) ?_
        simp only [pp]
        refine rl_pass (some 60) rfl (by kernel_rfl) ?_
        try simp only [pp]
        refine rl_pass (some 61) rfl (by kernel_rfl) ?_
        try simp only [pp]
        refine tk 62 (.bool false) <| tk 63 (.bool false) ?_
        simp only [pp]
        refine rl_end hgo <| hKK37 _ _ <| wp_cond_false (by kernel_rfl) <| wp_skip <| hKK34 _ _ <| wp_seq_k fun KK54 hKK54 => wp_seq_k fun KK55 hKK55 => rl_begin fun hgK hgo => tk 64 (.int .i64 (z)) ?_
        simp only [pp]
        refine rl_call (some 65) 135 #[.int .i64 (z), .int .i64 128, .int .i64 191] rfl (by kernel_rfl) (by kernel_rfl) (in_yes z 128 191 (by omega) (by omega) _) ?_
        rintro e w56 ⟨rfl, hL56⟩
        refine ⟨_, rfl, ?_⟩
        have hz56 := hL56.size
        try simp only [pp]
        refine tk 66 (.bool true) <| tk 67 (.int .i64 (v)) ?_
        simp only [pp]
        refine rl_call (some 68) 135 #[.int .i64 (v), .int .i64 128, .int .i64 191] rfl (by kernel_rfl) (by kernel_rfl) (in_any v 128 191 _) ?_
        replace hB := ((hB.later hL51).later hL53).later hL56
        rintro e w57 (⟨rfl, hv1, hv2, hL57⟩ | ⟨rfl, hv3, hL57⟩)
        ·refine ⟨_, rfl, ?_⟩
         have hz57 := hL57.size
         try simp only [pp]
         refine tk 69 (.bool true) ?_
         simp only [pp]
         refine rl_end hgo <| hKK55 _ _ <| wp_cond_true (by kernel_rfl) <| wp_seq_k fun KK58 hKK58 => rl_begin fun hgK hgo => tk 70 (.int .i64 (x)) ?_
         simp only [pp]
         refine tx 71 (.bool false) (by exact eqf (x := x) (y := 240) (by omega)) <| tk 72 (.bool false) ?_
         simp only [pp]
         refine rl_pass (some 73) rfl (by kernel_rfl) ?_
         try simp only [pp]
         refine rl_pass (some 74) rfl (by kernel_rfl) ?_
         try simp only [pp]
         refine tk 75 (.bool false) <| tk 76 (.bool false) <| tk 77 (.int .i64 (x)) ?_
         simp only [pp]
         refine rl_call (some 78) 135 #[.int .i64 (x), .int .i64 241, .int .i64 243] rfl (by kernel_rfl) (by kernel_rfl) (in_no x 241 243 (by omega) _) ?_
         rintro e w59 ⟨rfl, hL59⟩
         refine ⟨_, rfl, ?_⟩
         have hz59 := hL59.size
         try simp only [pp]
         refine tk 79 (.bool false) ?_
         simp only [pp]
         refine rl_pass (some 80) rfl (by kernel_rfl) ?_
         try simp only [pp]
         refine rl_pass (some 81) rfl (by kernel_rfl) ?_
         try simp only [pp]
         refine tk 82 (.bool false) <| tk 83 (.bool false) <| tk 84 (.bool false) <| tk 85 (.int .i64 (x)) ?_
         simp only [pp]
         refine tx 86 (.bool false) (by exact eqf (x := x) (y := 244) (by omega)) <| tk 87 (.bool false) ?_
         simp only [pp]
         refine rl_pass (some 88) rfl (by kernel_rfl) ?_
         try simp only [pp]
         refine rl_pass (some 89) rfl (by kernel_rfl) ?_
         try simp only [pp]
         refine tk 90 (.bool false) <| tk 91 (.bool false) ?_
         simp only [pp]
         refine rl_end hgo <| hKK58 _ _ <| wp_cond_false (by kernel_rfl) <| wp_skip <| hKK54 _ _ <| wp_seq_k fun KK60 hKK60 => rl_begin fun hgK hgo => tk 4 (.int .i64 0) ?_
         simp only [pp]
         refine rl_end hgo <| hKK60 _ _ ?_
         refine wp_ret ?_
         try simp only [Exit.then, Exit.inBlock]
         refine bp_ret (v := .int .i64 0) (res1 rfl (res_tmp (by kernel_rfl))) ?_
         replace hB := (hB.later hL57).later hL59
         exact ⟨ret_int (by rw [hlg]; (repeat' split) <;> omega), hB⟩
        ·refine ⟨_, rfl, ?_⟩
         have hz57 := hL57.size
         try simp only [pp]
         refine tk 69 (.bool false) ?_
         simp only [pp]
         refine rl_end hgo <| hKK55 _ _ <| wp_cond_false (by kernel_rfl) <| wp_skip <| hKK54 _ _ <| wp_seq_k fun KK61 hKK61 => rl_begin fun hgK hgo => tk 4 (.int .i64 0) ?_
         simp only [pp]
         refine rl_end hgo <| hKK61 _ _ ?_
         refine wp_ret ?_
         try simp only [Exit.then, Exit.inBlock]
         refine bp_ret (v := .int .i64 0) (res1 rfl (res_tmp (by kernel_rfl))) ?_
         replace hB := hB.later hL57
         exact ⟨ret_int (by rw [hlg]; (repeat' split) <;> omega), hB⟩
      ·refine ⟨_, rfl, ?_⟩
       have hz50 := hL50.size
       try simp only [pp]
       refine tk 43 (.bool false) ?_
       simp only [pp]
       refine rl_pass (some 44) rfl (by kernel_rfl) ?_
       try simp only [pp]
       refine rl_pass (some 45) rfl (by kernel_rfl) ?_
       try simp only [pp]
       refine tk 46 (.bool false) <| tk 47 (.bool false) <| tk 48 (.bool false) <| tk 49 (.int .i64 (x)) ?_
       simp only [pp]
       replace hB := hB.later hL50
       by_cases ed : x = 237
       ·refine tx 50 (.bool true) (by exact eqt (x := x) (y := 237) (by omega)) <| tk 51 (.bool true) <| tk 52 (.int .i64 (y)) ?_
        simp only [pp]
        refine rl_call (some 53) 135 #[.int .i64 (y), .int .i64 128, .int .i64 159] rfl (by kernel_rfl) (by kernel_rfl) (in_any y 128 159 _) ?_
        rintro e w62 (⟨rfl, hy1, hy2, hL62⟩ | ⟨rfl, hy6, hL62⟩)
        ·refine ⟨_, rfl, ?_⟩
         have hz62 := hL62.size
         try simp only [pp]
         refine tk 54 (.bool true) <| tk 55 (.bool true) <| tk 56 (.bool true) ?_
         simp only [pp]
         refine rl_pass (some 57) rfl (by kernel_rfl) ?_
         try simp only [pp]
         refine rl_pass (some 58) rfl (by kernel_rfl) ?_
         try simp only [pp]
         refine rl_pass (some 59) rfl (by kernel_rfl) ?_
         try simp only [pp]
         refine rl_pass (some 60) rfl (by kernel_rfl) ?_
         try simp only [pp]
         refine rl_pass (some 61) rfl (by kernel_rfl) ?_
         try simp only [pp]
         refine rl_pass (some 62) rfl (by kernel_rfl) ?_
         try simp only [pp]
         refine tk 63 (.bool true) ?_
         simp only [pp]
         refine rl_end hgo <| hKK37 _ _ <| wp_cond_true (by kernel_rfl) <| wp_seq_k fun KK63 hKK63 => rl_begin fun hgK hgo => tk 4 (.int .i64 3) ?_
         simp only [pp]
         refine rl_end hgo <| hKK63 _ _ ?_
         refine wp_ret ?_
         try simp only [Exit.then, Exit.inBlock]
         refine bp_ret (v := .int .i64 3) (res1 rfl (res_tmp (by kernel_rfl))) ?_
         replace hB := hB.later hL62
         exact ⟨ret_int (by rw [hlg]; (repeat' split) <;> omega), hB⟩
        ·refine ⟨_, rfl, ?_⟩
         have hz62 := hL62.size
         try simp only [pp]
         refine tk 54 (.bool false) <| tk 55 (.bool false) <| tk 56 (.bool false) <| tk 57 (.int .i64 (x)) ?_
         simp only [pp]
         refine rl_call (some 58) 135 #[.int .i64 (x), .int .i64 238, .int .i64 239] rfl (by kernel_rfl) (by kernel_rfl) (in_no x 238 239 (by omega) _) ?_
         rintro e w64 ⟨rfl, hL64⟩
         refine ⟨_, rfl, ?_⟩
         have hz64 := hL64.size
         try simp only [pp]
         refine tk 59 (.bool false) ?_
         simp only [pp]
         refine rl_pass (some 60) rfl (by kernel_rfl) ?_
         try simp only [pp]
         refine rl_pass (some 61) rfl (by kernel_rfl) ?_
         try simp only [pp]
         refine tk 62 (.bool false) <| tk 63 (.bool false) ?_
         simp only [pp]
         refine rl_end hgo <| hKK37 _ _ <| wp_cond_false (by kernel_rfl) <| wp_skip <| hKK34 _ _ <| wp_seq_k fun KK65 hKK65 => wp_seq_k fun KK66 hKK66 => rl_begin fun hgK hgo => tk 64 (.int .i64 (z)) ?_
         simp only [pp]
         refine rl_call (some 65) 135 #[.int .i64 (z), .int .i64 128, .int .i64 191] rfl (by kernel_rfl) (by kernel_rfl) (in_yes z 128 191 (by omega) (by omega) _) ?_
         rintro e w67 ⟨rfl, hL67⟩
         refine ⟨_, rfl, ?_⟩
         have hz67 := hL67.size
         try simp only [pp]
         refine tk 66 (.bool true) <| tk 67 (.int .i64 (v)) ?_
         simp only [pp]
         refine rl_call (some 68) 135 #[.int .i64 (v), .int .i64 128, .int .i64 191] rfl (by kernel_rfl) (by kernel_rfl) (in_any v 128 191 _) ?_
         replace hB := ((hB.later hL62).later hL64).later hL67
         rintro e w68 (⟨rfl, hv1, hv2, hL68⟩ | ⟨rfl, hv3, hL68⟩)
         ·refine ⟨_, rfl, ?_⟩
          have hz68 := hL68.size
          try simp only [pp]
          refine tk 69 (.bool true) ?_
          simp only [pp]
          refine rl_end hgo <| hKK66 _ _ <| wp_cond_true (by kernel_rfl) <| wp_seq_k fun KK69 hKK69 => rl_begin fun hgK hgo => tk 70 (.int .i64 (x)) ?_
          simp only [pp]
          refine tx 71 (.bool false) (by exact eqf (x := x) (y := 240) (by omega)) <| tk 72 (.bool false) ?_
          simp only [pp]
          refine rl_pass (some 73) rfl (by kernel_rfl) ?_
          try simp only [pp]
          refine rl_pass (some 74) rfl (by kernel_rfl) ?_
          try simp only [pp]
          refine tk 75 (.bool false) <| tk 76 (.bool false) <| tk 77 (.int .i64 (x)) ?_
          simp only [pp]
          refine rl_call (some 78) 135 #[.int .i64 (x), .int .i64 241, .int .i64 243] rfl (by kernel_rfl) (by kernel_rfl) (in_no x 241 243 (by omega) _) ?_
          rintro e w70 ⟨rfl, hL70⟩
          refine ⟨_, rfl, ?_⟩
          have hz70 := hL70.size
          try simp only [pp]
          refine tk 79 (.bool false) ?_
          simp only [pp]
          refine rl_pass (some 80) rfl (by kernel_rfl) ?_
          try simp only [pp]
          refine rl_pass (some 81) rfl (by kernel_rfl) ?_
          try simp only [pp]
          refine tk 82 (.bool false) <| tk 83 (.bool false) <| tk 84 (.bool false) <| tk 85 (.int .i64 (x)) ?_
          simp only [pp]
          refine tx 86 (.bool false) (by exact eqf (x := x) (y := 244) (by omega)) <| tk 87 (.bool false) ?_
          simp only [pp]
          refine rl_pass (some 88) rfl (by kernel_rfl) ?_
          try simp only [pp]
          refine rl_pass (some 89) rfl (by kernel_rfl) ?_
          try simp only [pp]
          refine tk 90 (.bool false) <| tk 91 (.bool false) ?_
          simp only [pp]
          refine rl_end hgo <| hKK69 _ _ <| wp_cond_false (by kernel_rfl) <| wp_skip <| hKK65 _ _ <| wp_seq_k fun KK71 hKK71 => rl_begin fun hgK hgo => tk 4 (.int .i64 0) ?_
          simp only [pp]
          refine rl_end hgo <| hKK71 _ _ ?_
          refine wp_ret ?_
          try simp only [Exit.then, Exit.inBlock]
          refine bp_ret (v := .int .i64 0) (res1 rfl (res_tmp (by kernel_rfl))) ?_
          replace hB := (hB.later hL68).later hL70
          exact ⟨ret_int (by rw [hlg]; (repeat' split) <;> omega), hB⟩
         ·refine ⟨_, rfl, ?_⟩
          have hz68 := hL68.size
          try simp only [pp]
          refine tk 69 (.bool false) ?_
          simp only [pp]
          refine rl_end hgo <| hKK66 _ _ <| wp_cond_false (by kernel_rfl) <| wp_skip <| hKK65 _ _ <| wp_seq_k fun KK72 hKK72 => rl_begin fun hgK hgo => tk 4 (.int .i64 0) ?_
          simp only [pp]
          refine rl_end hgo <| hKK72 _ _ ?_
          refine wp_ret ?_
          try simp only [Exit.then, Exit.inBlock]
          refine bp_ret (v := .int .i64 0) (res1 rfl (res_tmp (by kernel_rfl))) ?_
          replace hB := hB.later hL68
          exact ⟨ret_int (by rw [hlg]; (repeat' split) <;> omega), hB⟩
       ·refine tx 50 (.bool false) (by exact eqf (x := x) (y := 237) (by omega)) <| tk 51 (.bool false) ?_
        simp only [pp]
        refine rl_pass (some 52) rfl (by kernel_rfl) ?_
        try simp only [pp]
        refine rl_pass (some 53) rfl (by kernel_rfl) ?_
        try simp only [pp]
        refine tk 54 (.bool false) <| tk 55 (.bool false) <| tk 56 (.bool false) <| tk 57 (.int .i64 (x)) ?_
        simp only [pp]
        refine rl_call (some 58) 135 #[.int .i64 (x), .int .i64 238, .int .i64 239] rfl (by kernel_rfl) (by kernel_rfl) (in_any x 238 239 _) ?_
        rintro e w73 (⟨rfl, hx1, hx2, hL73⟩ | ⟨rfl, hx6, hL73⟩)
        ·refine ⟨_, rfl, ?_⟩
         have hz73 := hL73.size
         try simp only [pp]
         refine tk 59 (.bool true) <| tk 60 (.int .i64 (y)) ?_
         simp only [pp]
         refine rl_call (some 61) 135 #[.int .i64 (y), .int .i64 128, .int .i64 191] rfl (by kernel_rfl) (by kernel_rfl) (in_any y 128 191 _) ?_
         replace hB := hB.later hL73
         rintro e w74 (⟨rfl, hy1, hy2, hL74⟩ | ⟨rfl, hy7, hL74⟩)
         ·refine ⟨_, rfl, ?_⟩
          have hz74 := hL74.size
          try simp only [pp]
          refine tk 62 (.bool true) <| tk 63 (.bool true) ?_
          simp only [pp]
          refine rl_end hgo <| hKK37 _ _ <| wp_cond_true (by kernel_rfl) <| wp_seq_k fun KK75 hKK75 => rl_begin fun hgK hgo => tk 4 (.int .i64 3) ?_
          simp only [pp]
          refine rl_end hgo <| hKK75 _ _ ?_
          refine wp_ret ?_
          try simp only [Exit.then, Exit.inBlock]
          refine bp_ret (v := .int .i64 3) (res1 rfl (res_tmp (by kernel_rfl))) ?_
          replace hB := hB.later hL74
          exact ⟨ret_int (by rw [hlg]; (repeat' split) <;> omega), hB⟩
         ·refine ⟨_, rfl, ?_⟩
          have hz74 := hL74.size
          try simp only [pp]
          refine tk 62 (.bool false) <| tk 63 (.bool false) ?_
          simp only [pp]
          refine rl_end hgo <| hKK37 _ _ <| wp_cond_false (by kernel_rfl) <| wp_skip <| hKK34 _ _ <| wp_seq_k fun KK76 hKK76 => wp_seq_k fun KK77 hKK77 => rl_begin fun hgK hgo => tk 64 (.int .i64 (z)) ?_
          simp only [pp]
          refine rl_call (some 65) 135 #[.int .i64 (z), .int .i64 128, .int .i64 191] rfl (by kernel_rfl) (by kernel_rfl) (in_yes z 128 191 (by omega) (by omega) _) ?_
          rintro e w78 ⟨rfl, hL78⟩
          refine ⟨_, rfl, ?_⟩
          have hz78 := hL78.size
          try simp only [pp]
          refine tk 66 (.bool true) <| tk 67 (.int .i64 (v)) ?_
          simp only [pp]
          refine rl_call (some 68) 135 #[.int .i64 (v), .int .i64 128, .int .i64 191] rfl (by kernel_rfl) (by kernel_rfl) (in_any v 128 191 _) ?_
          replace hB := (hB.later hL74).later hL78
          rintro e w79 (⟨rfl, hv1, hv2, hL79⟩ | ⟨rfl, hv3, hL79⟩)
          ·refine ⟨_, rfl, ?_⟩
           have hz79 := hL79.size
           try simp only [pp]
           refine tk 69 (.bool true) ?_
           simp only [pp]
           refine rl_end hgo <| hKK77 _ _ <| wp_cond_true (by kernel_rfl) <| wp_seq_k fun KK80 hKK80 => rl_begin fun hgK hgo => tk 70 (.int .i64 (x)) ?_
           simp only [pp]
           refine tx 71 (.bool false) (by exact eqf (x := x) (y := 240) (by omega)) <| tk 72 (.bool false) ?_
           simp only [pp]
           refine rl_pass (some 73) rfl (by kernel_rfl) ?_
           try simp only [pp]
           refine rl_pass (some 74) rfl (by kernel_rfl) ?_
           try simp only [pp]
           refine tk 75 (.bool false) <| tk 76 (.bool false) <| tk 77 (.int .i64 (x)) ?_
           simp only [pp]
           refine rl_call (some 78) 135 #[.int .i64 (x), .int .i64 241, .int .i64 243] rfl (by kernel_rfl) (by kernel_rfl) (in_no x 241 243 (by omega) _) ?_
           rintro e w81 ⟨rfl, hL81⟩
           refine ⟨_, rfl, ?_⟩
           have hz81 := hL81.size
           try simp only [pp]
           refine tk 79 (.bool false) ?_
           simp only [pp]
           refine rl_pass (some 80) rfl (by kernel_rfl) ?_
           try simp only [pp]
           refine rl_pass (some 81) rfl (by kernel_rfl) ?_
           try simp only [pp]
           refine tk 82 (.bool false) <| tk 83 (.bool false) <| tk 84 (.bool false) <| tk 85 (.int .i64 (x)) ?_
           simp only [pp]
           refine tx 86 (.bool false) (by exact eqf (x := x) (y := 244) (by omega)) <| tk 87 (.bool false) ?_
           simp only [pp]
           refine rl_pass (some 88) rfl (by kernel_rfl) ?_
           try simp only [pp]
           refine rl_pass (some 89) rfl (by kernel_rfl) ?_
           try simp only [pp]
           refine tk 90 (.bool false) <| tk 91 (.bool false) ?_
           simp only [pp]
           refine rl_end hgo <| hKK80 _ _ <| wp_cond_false (by kernel_rfl) <| wp_skip <| hKK76 _ _ <| wp_seq_k fun KK82 hKK82 => rl_begin fun hgK hgo => tk 4 (.int .i64 0) ?_
           simp only [pp]
           refine rl_end hgo <| hKK82 _ _ ?_
           refine wp_ret ?_
           try simp only [Exit.then, Exit.inBlock]
           refine bp_ret (v := .int .i64 0) (res1 rfl (res_tmp (by kernel_rfl))) ?_
           replace hB := (hB.later hL79).later hL81
           exact ⟨ret_int (by rw [hlg]; (repeat' split) <;> omega), hB⟩
          ·refine ⟨_, rfl, ?_⟩
           have hz79 := hL79.size
           try simp only [pp]
           refine tk 69 (.bool false) ?_
           simp only [pp]
           refine rl_end hgo <| hKK77 _ _ <| wp_cond_false (by kernel_rfl) <| wp_skip <| hKK76 _ _ <| wp_seq_k fun KK83 hKK83 => rl_begin fun hgK hgo => tk 4 (.int .i64 0) ?_
           simp only [pp]
           refine rl_end hgo <| hKK83 _ _ ?_
           refine wp_ret ?_
           try simp only [Exit.then, Exit.inBlock]
           refine bp_ret (v := .int .i64 0) (res1 rfl (res_tmp (by kernel_rfl))) ?_
           replace hB := hB.later hL79
           exact ⟨ret_int (by rw [hlg]; (repeat' split) <;> omega), hB⟩
        ·refine ⟨_, rfl, ?_⟩
         have hz73 := hL73.size
         try simp only [pp]
         refine tk 59 (.bool false) ?_
         simp only [pp]
         refine rl_pass (some 60) rfl (by kernel_rfl) ?_
         try simp only [pp]
         refine rl_pass (some 61) rfl (by kernel_rfl) ?_
         try simp only [pp]
         refine tk 62 (.bool false) <| tk 63 (.bool false) ?_
         simp only [pp]
         refine rl_end hgo <| hKK37 _ _ <| wp_cond_false (by kernel_rfl) <| wp_skip <| hKK34 _ _ <| wp_seq_k fun KK84 hKK84 => wp_seq_k fun KK85 hKK85 => rl_begin fun hgK hgo => tk 64 (.int .i64 (z)) ?_
         simp only [pp]
         refine rl_call (some 65) 135 #[.int .i64 (z), .int .i64 128, .int .i64 191] rfl (by kernel_rfl) (by kernel_rfl) (in_yes z 128 191 (by omega) (by omega) _) ?_
         rintro e w86 ⟨rfl, hL86⟩
         refine ⟨_, rfl, ?_⟩
         have hz86 := hL86.size
         try simp only [pp]
         refine tk 66 (.bool true) <| tk 67 (.int .i64 (v)) ?_
         simp only [pp]
         refine rl_call (some 68) 135 #[.int .i64 (v), .int .i64 128, .int .i64 191] rfl (by kernel_rfl) (by kernel_rfl) (in_any v 128 191 _) ?_
         replace hB := (hB.later hL73).later hL86
         rintro e w87 (⟨rfl, hv1, hv2, hL87⟩ | ⟨rfl, hv3, hL87⟩)
         ·refine ⟨_, rfl, ?_⟩
          have hz87 := hL87.size
          try simp only [pp]
          refine tk 69 (.bool true) ?_
          simp only [pp]
          refine rl_end hgo <| hKK85 _ _ <| wp_cond_true (by kernel_rfl) <| wp_seq_k fun KK88 hKK88 => rl_begin fun hgK hgo => tk 70 (.int .i64 (x)) ?_
          simp only [pp]
          replace hB := hB.later hL87
          by_cases f0 : x = 240
          ·refine tx 71 (.bool true) (by exact eqt (x := x) (y := 240) (by omega)) <| tk 72 (.bool true) <| tk 73 (.int .i64 (y)) ?_
           simp only [pp]
           refine rl_call (some 74) 135 #[.int .i64 (y), .int .i64 144, .int .i64 191] rfl (by kernel_rfl) (by kernel_rfl) (in_any y 144 191 _) ?_
           rintro e w89 (⟨rfl, hy1, hy2, hL89⟩ | ⟨rfl, hy8, hL89⟩)
           ·refine ⟨_, rfl, ?_⟩
            have hz89 := hL89.size
            try simp only [pp]
            refine tk 75 (.bool true) <| tk 76 (.bool true) ?_
            simp only [pp]
            refine rl_pass (some 77) rfl (by kernel_rfl) ?_
            try simp only [pp]
            refine rl_pass (some 78) rfl (by kernel_rfl) ?_
            try simp only [pp]
            refine rl_pass (some 79) rfl (by kernel_rfl) ?_
            try simp only [pp]
            refine rl_pass (some 80) rfl (by kernel_rfl) ?_
            try simp only [pp]
            refine rl_pass (some 81) rfl (by kernel_rfl) ?_
            try simp only [pp]
            refine rl_pass (some 82) rfl (by kernel_rfl) ?_
            try simp only [pp]
            refine tk 83 (.bool true) <| tk 84 (.bool true) ?_
            simp only [pp]
            refine rl_pass (some 85) rfl (by kernel_rfl) ?_
            try simp only [pp]
            refine rl_pass (some 86) rfl (by kernel_rfl) ?_
            try simp only [pp]
            refine rl_pass (some 87) rfl (by kernel_rfl) ?_
            try simp only [pp]
            refine rl_pass (some 88) rfl (by kernel_rfl) ?_
            try simp only [pp]
            refine rl_pass (some 89) rfl (by kernel_rfl) ?_
            try simp only [pp]
            refine rl_pass (some 90) rfl (by kernel_rfl) ?_
            try simp only [pp]
            refine tk 91 (.bool true) ?_
            simp only [pp]
            refine rl_end hgo <| hKK88 _ _ <| wp_cond_true (by kernel_rfl) <| wp_seq_k fun KK90 hKK90 => rl_begin fun hgK hgo => tk 4 (.int .i64 4) ?_
            simp only [pp]
            refine rl_end hgo <| hKK90 _ _ ?_
            refine wp_ret ?_
            try simp only [Exit.then, Exit.inBlock]
            refine bp_ret (v := .int .i64 4) (res1 rfl (res_tmp (by kernel_rfl))) ?_
            replace hB := hB.later hL89
            exact ⟨ret_int (by rw [hlg]; (repeat' split) <;> omega), hB⟩
           ·refine ⟨_, rfl, ?_⟩
            have hz89 := hL89.size
            try simp only [pp]
            refine tk 75 (.bool false) <| tk 76 (.bool false) <| tk 77 (.int .i64 (x)) ?_
            simp only [pp]
            refine rl_call (some 78) 135 #[.int .i64 (x), .int .i64 241, .int .i64 243] rfl (by kernel_rfl) (by kernel_rfl) (in_no x 241 243 (by omega) _) ?_
            rintro e w91 ⟨rfl, hL91⟩
            refine ⟨_, rfl, ?_⟩
            have hz91 := hL91.size
            try simp only [pp]
            refine tk 79 (.bool false) ?_
            simp only [pp]
            refine rl_pass (some 80) rfl (by kernel_rfl) ?_
            try simp only [pp]
            refine rl_pass (some 81) rfl (by kernel_rfl) ?_
            try simp only [pp]
            refine tk 82 (.bool false) <| tk 83 (.bool false) <| tk 84 (.bool false) <| tk 85 (.int .i64 (x)) ?_
            simp only [pp]
            refine tx 86 (.bool false) (by exact eqf (x := x) (y := 244) (by omega)) <| tk 87 (.bool false) ?_
            simp only [pp]
            refine rl_pass (some 88) rfl (by kernel_rfl) ?_
            try simp only [pp]
            refine rl_pass (some 89) rfl (by kernel_rfl) ?_
            try simp only [pp]
            refine tk 90 (.bool false) <| tk 91 (.bool false) ?_
            simp only [pp]
            refine rl_end hgo <| hKK88 _ _ <| wp_cond_false (by kernel_rfl) <| wp_skip <| hKK84 _ _ <| wp_seq_k fun KK92 hKK92 => rl_begin fun hgK hgo => tk 4 (.int .i64 0) ?_
            simp only [pp]
            refine rl_end hgo <| hKK92 _ _ ?_
            refine wp_ret ?_
            try simp only [Exit.then, Exit.inBlock]
            refine bp_ret (v := .int .i64 0) (res1 rfl (res_tmp (by kernel_rfl))) ?_
            replace hB := (hB.later hL89).later hL91
            exact ⟨ret_int (by rw [hlg]; (repeat' split) <;> omega), hB⟩
          ·refine tx 71 (.bool false) (by exact eqf (x := x) (y := 240) (by omega)) <| tk 72 (.bool false) ?_
           simp only [pp]
           refine rl_pass (some 73) rfl (by kernel_rfl) ?_
           try simp only [pp]
           refine rl_pass (some 74) rfl (by kernel_rfl) ?_
           try simp only [pp]
           refine tk 75 (.bool false) <| tk 76 (.bool false) <| tk 77 (.int .i64 (x)) ?_
           simp only [pp]
           refine rl_call (some 78) 135 #[.int .i64 (x), .int .i64 241, .int .i64 243] rfl (by kernel_rfl) (by kernel_rfl) (in_any x 241 243 _) ?_
           rintro e w93 (⟨rfl, hx1, hx2, hL93⟩ | ⟨rfl, hx7, hL93⟩)
           ·refine ⟨_, rfl, ?_⟩
            have hz93 := hL93.size
            try simp only [pp]
            refine tk 79 (.bool true) <| tk 80 (.int .i64 (y)) ?_
            simp only [pp]
            refine rl_call (some 81) 135 #[.int .i64 (y), .int .i64 128, .int .i64 191] rfl (by kernel_rfl) (by kernel_rfl) (in_any y 128 191 _) ?_
            replace hB := hB.later hL93
            rintro e w94 (⟨rfl, hy1, hy2, hL94⟩ | ⟨rfl, hy9, hL94⟩)
            ·refine ⟨_, rfl, ?_⟩
             have hz94 := hL94.size
             try simp only [pp]
             refine tk 82 (.bool true) <| tk 83 (.bool true) <| tk 84 (.bool true) ?_
             simp only [pp]
             refine rl_pass (some 85) rfl (by kernel_rfl) ?_
             try simp only [pp]
             refine rl_pass (some 86) rfl (by kernel_rfl) ?_
             try simp only [pp]
             refine rl_pass (some 87) rfl (by kernel_rfl) ?_
             try simp only [pp]
             refine rl_pass (some 88) rfl (by kernel_rfl) ?_
             try simp only [pp]
             refine rl_pass (some 89) rfl (by kernel_rfl) ?_
             try simp only [pp]
             refine rl_pass (some 90) rfl (by kernel_rfl) ?_
             try simp only [pp]
             refine tk 91 (.bool true) ?_
             simp only [pp]
             refine rl_end hgo <| hKK88 _ _ <| wp_cond_true (by kernel_rfl) <| wp_seq_k fun KK95 hKK95 => rl_begin fun hgK hgo => tk 4 (.int .i64 4) ?_
             simp only [pp]
             refine rl_end hgo <| hKK95 _ _ ?_
             refine wp_ret ?_
             try simp only [Exit.then, Exit.inBlock]
             refine bp_ret (v := .int .i64 4) (res1 rfl (res_tmp (by kernel_rfl))) ?_
             replace hB := hB.later hL94
             exact ⟨ret_int (by rw [hlg]; (repeat' split) <;> omega), hB⟩
            ·refine ⟨_, rfl, ?_⟩
             have hz94 := hL94.size
             try simp only [pp]
             refine tk 82 (.bool false) <| tk 83 (.bool false) <| tk 84 (.bool false) <| tk 85 (.int .i64 (x)) ?_
             simp only [pp]
             refine tx 86 (.bool false) (by exact eqf (x := x) (y := 244) (by omega)) <| tk 87 (.bool false) ?_
             simp only [pp]
             refine rl_pass (some 88) rfl (by kernel_rfl) ?_
             try simp only [pp]
             refine rl_pass (some 89) rfl (by kernel_rfl) ?_
             try simp only [pp]
             refine tk 90 (.bool false) <| tk 91 (.bool false) ?_
             simp only [pp]
             refine rl_end hgo <| hKK88 _ _ <| wp_cond_false (by kernel_rfl) <| wp_skip <| hKK84 _ _ <| wp_seq_k fun KK96 hKK96 => rl_begin fun hgK hgo => tk 4 (.int .i64 0) ?_
             simp only [pp]
             refine rl_end hgo <| hKK96 _ _ ?_
             refine wp_ret ?_
             try simp only [Exit.then, Exit.inBlock]
             refine bp_ret (v := .int .i64 0) (res1 rfl (res_tmp (by kernel_rfl))) ?_
             replace hB := hB.later hL94
             exact ⟨ret_int (by rw [hlg]; (repeat' split) <;> omega), hB⟩
           ·refine ⟨_, rfl, ?_⟩
            have hz93 := hL93.size
            try simp only [pp]
            refine tk 79 (.bool false) ?_
            simp only [pp]
            refine rl_pass (some 80) rfl (by kernel_rfl) ?_
            try simp only [pp]
            refine rl_pass (some 81) rfl (by kernel_rfl) ?_
            try simp only [pp]
            refine tk 82 (.bool false) <| tk 83 (.bool false) <| tk 84 (.bool false) <| tk 85 (.int .i64 (x)) ?_
            simp only [pp]
            replace hB := hB.later hL93
            by_cases f4 : x = 244
            ·refine tx 86 (.bool true) (by exact eqt (x := x) (y := 244) (by omega)) <| tk 87 (.bool true) <| tk 88 (.int .i64 (y)) ?_
             simp only [pp]
             refine rl_call (some 89) 135 #[.int .i64 (y), .int .i64 128, .int .i64 143] rfl (by kernel_rfl) (by kernel_rfl) (in_any y 128 143 _) ?_
             rintro e w97 (⟨rfl, hy1, hy2, hL97⟩ | ⟨rfl, hy0, hL97⟩)
             ·refine ⟨_, rfl, ?_⟩
              have hz97 := hL97.size
              try simp only [pp]
              refine tk 90 (.bool true) <| tk 91 (.bool true) ?_
              simp only [pp]
              refine rl_end hgo <| hKK88 _ _ <| wp_cond_true (by kernel_rfl) <| wp_seq_k fun KK98 hKK98 => rl_begin fun hgK hgo => tk 4 (.int .i64 4) ?_
              simp only [pp]
              refine rl_end hgo <| hKK98 _ _ ?_
              refine wp_ret ?_
              try simp only [Exit.then, Exit.inBlock]
              refine bp_ret (v := .int .i64 4) (res1 rfl (res_tmp (by kernel_rfl))) ?_
              replace hB := hB.later hL97
              exact ⟨ret_int (by rw [hlg]; (repeat' split) <;> omega), hB⟩
             ·refine ⟨_, rfl, ?_⟩
              have hz97 := hL97.size
              try simp only [pp]
              refine tk 90 (.bool false) <| tk 91 (.bool false) ?_
              simp only [pp]
              refine rl_end hgo <| hKK88 _ _ <| wp_cond_false (by kernel_rfl) <| wp_skip <| hKK84 _ _ <| wp_seq_k fun KK99 hKK99 => rl_begin fun hgK hgo => tk 4 (.int .i64 0) ?_
              simp only [pp]
              refine rl_end hgo <| hKK99 _ _ ?_
              refine wp_ret ?_
              try simp only [Exit.then, Exit.inBlock]
              refine bp_ret (v := .int .i64 0) (res1 rfl (res_tmp (by kernel_rfl))) ?_
              replace hB := hB.later hL97
              exact ⟨ret_int (by rw [hlg]; (repeat' split) <;> omega), hB⟩
            ·refine tx 86 (.bool false) (by exact eqf (x := x) (y := 244) (by omega)) <| tk 87 (.bool false) ?_
             simp only [pp]
             refine rl_pass (some 88) rfl (by kernel_rfl) ?_
             try simp only [pp]
             refine rl_pass (some 89) rfl (by kernel_rfl) ?_
             try simp only [pp]
             refine tk 90 (.bool false) <| tk 91 (.bool false) ?_
             simp only [pp]
             refine rl_end hgo <| hKK88 _ _ <| wp_cond_false (by kernel_rfl) <| wp_skip <| hKK84 _ _ <| wp_seq_k fun KK100 hKK100 => rl_begin fun hgK hgo => tk 4 (.int .i64 0) ?_
             simp only [pp]
             refine rl_end hgo <| hKK100 _ _ ?_
             refine wp_ret ?_
             try simp only [Exit.then, Exit.inBlock]
             refine bp_ret (v := .int .i64 0) (res1 rfl (res_tmp (by kernel_rfl))) ?_
             exact ⟨ret_int (by rw [hlg]; (repeat' split) <;> omega), hB⟩
         ·refine ⟨_, rfl, ?_⟩
          have hz87 := hL87.size
          try simp only [pp]
          refine tk 69 (.bool false) ?_
          simp only [pp]
          refine rl_end hgo <| hKK85 _ _ <| wp_cond_false (by kernel_rfl) <| wp_skip <| hKK84 _ _ <| wp_seq_k fun KK101 hKK101 => rl_begin fun hgK hgo => tk 4 (.int .i64 0) ?_
          simp only [pp]
          refine rl_end hgo <| hKK101 _ _ ?_
          refine wp_ret ?_
          try simp only [Exit.then, Exit.inBlock]
          refine bp_ret (v := .int .i64 0) (res1 rfl (res_tmp (by kernel_rfl))) ?_
          replace hB := hB.later hL87
          exact ⟨ret_int (by rw [hlg]; (repeat' split) <;> omega), hB⟩
    ·refine ⟨_, rfl, ?_⟩
     have hz36 := hL36.size
     try simp only [pp]
     refine rl_end hgo <| hKK35 _ _ <| wp_cond_false (by kernel_rfl) <| wp_skip <| hKK34 _ _ <| wp_seq_k fun KK102 hKK102 => wp_seq_k fun KK103 hKK103 => rl_begin fun hgK hgo => tk 64 (.int .i64 (z)) ?_
     simp only [pp]
     refine rl_call (some 65) 135 #[.int .i64 (z), .int .i64 128, .int .i64 191] rfl (by kernel_rfl) (by kernel_rfl) (in_no z 128 191 (by omega) _) ?_
     rintro e w104 ⟨rfl, hL104⟩
     refine ⟨_, rfl, ?_⟩
     have hz104 := hL104.size
     try simp only [pp]
     refine tk 66 (.bool false) ?_
     simp only [pp]
     refine rl_pass (some 67) rfl (by kernel_rfl) ?_
     try simp only [pp]
     refine rl_pass (some 68) rfl (by kernel_rfl) ?_
     try simp only [pp]
     refine tk 69 (.bool false) ?_
     simp only [pp]
     refine rl_end hgo <| hKK103 _ _ <| wp_cond_false (by kernel_rfl) <| wp_skip <| hKK102 _ _ <| wp_seq_k fun KK105 hKK105 => rl_begin fun hgK hgo => tk 4 (.int .i64 0) ?_
     simp only [pp]
     refine rl_end hgo <| hKK105 _ _ ?_
     refine wp_ret ?_
     try simp only [Exit.then, Exit.inBlock]
     refine bp_ret (v := .int .i64 0) (res1 rfl (res_tmp (by kernel_rfl))) ?_
     replace hB := (hB.later hL36).later hL104
     exact ⟨ret_int (by rw [hlg]; (repeat' split) <;> omega), hB⟩
end Go.Proofs.YtliphfgiaioebaaDoor
