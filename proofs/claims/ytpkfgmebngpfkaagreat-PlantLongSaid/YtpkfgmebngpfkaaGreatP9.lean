/- Which configurations are valid: the program's answer and the document's are one Bool. No condition. -/
import Derived.Test.YtpkfgmebngpfkaaGreatP8
namespace Go.Proofs.YtpkfgmebngpfkaaGreat
open Go.RowKit Go

def inB (lo n hi : Int) : Bool := decide (lo ≤ n ∧ n ≤ hi)
theorem inB_yes {lo n hi : Int} (h1 : lo ≤ n) (h2 : n ≤ hi) : inB lo n hi = true := decide_eq_true ⟨h1, h2⟩
theorem inB_no {lo n hi : Int} (h : n < lo ∨ hi < n) : inB lo n hi = false := decide_eq_false (by omega)
theorem inB_iff {lo n hi : Int} : inB lo n hi = true ↔ lo ≤ n ∧ n ≤ hi := by simp [inB]

set_option maxRecDepth 100000 in
set_option maxHeartbeats 1000000 in
theorem pin_any (n lo hi : Int) (w : World) : Calls Tryz.prog 55 #[.int .i64 n, .int .i64 lo, .int .i64 hi] w fun e w' => e = .returned (.bool (inB lo n hi)) ∧ w = w' := by
  by_cases h1 : lo ≤ n
  · by_cases h2 : n ≤ hi
    · have H := Lib.hid (inB_yes h1 h2)
      go_enter Tryz.func55, Tryz.ntmps55
      go_wp2_with fail
      go_ret
      exact ⟨by rw [H.out]; rfl, rfl⟩
    · have H := Lib.hid (inB_no (lo := lo) (n := n) (hi := hi) (by omega))
      have h2' : hi < n := by omega
      go_enter Tryz.func55, Tryz.ntmps55
      go_wp2_with fail
      go_ret
      exact ⟨by rw [H.out]; rfl, rfl⟩
  · have H := Lib.hid (inB_no (lo := lo) (n := n) (hi := hi) (by omega))
    have h1' : n < lo := by omega
    go_enter Tryz.func55, Tryz.ntmps55
    go_wp2_with fail
    go_ret
    exact ⟨by rw [H.out]; rfl, rfl⟩

set_option maxRecDepth 100000 in
set_option maxHeartbeats 1000000 in
theorem lwithin_any (lo n hi : Int) (w : World) : Calls Tryz.prog 132 #[.int .i64 lo, .int .i64 n, .int .i64 hi] w fun e w' => e = .returned (.bool (inB lo n hi)) ∧ w = w' := by
  by_cases h1 : lo ≤ n
  · by_cases h2 : n ≤ hi
    · have H := Lib.hid (inB_yes h1 h2)
      go_enter Tryz.func132, Tryz.ntmps132
      go_wp2_with fail
      go_ret
      exact ⟨by rw [H.out]; rfl, rfl⟩
    · have H := Lib.hid (inB_no (lo := lo) (n := n) (hi := hi) (by omega))
      have h2' : hi < n := by omega
      go_enter Tryz.func132, Tryz.ntmps132
      go_wp2_with fail
      go_ret
      exact ⟨by rw [H.out]; rfl, rfl⟩
  · have H := Lib.hid (inB_no (lo := lo) (n := n) (hi := hi) (by omega))
    have h1' : n < lo := by omega
    go_enter Tryz.func132, Tryz.ntmps132
    go_wp2_with fail
    go_ret
    exact ⟨by rw [H.out]; rfl, rfl⟩

set_option maxRecDepth 100000 in
set_option maxHeartbeats 1000000 in
theorem rfrom10_any (lo n hi : Int) (w : World) : Calls Tryz.prog 27 #[.int .i64 lo, .int .i64 n, .int .i64 hi] w fun e w' => e = .returned (.bool (inB lo n hi)) ∧ w = w' := by
  by_cases h1 : lo ≤ n
  · by_cases h2 : n ≤ hi
    · have H := Lib.hid (inB_yes h1 h2)
      go_enter Tryz.func27, Tryz.ntmps27
      go_wp2_with fail
      go_ret
      exact ⟨by rw [H.out]; rfl, rfl⟩
    · have H := Lib.hid (inB_no (lo := lo) (n := n) (hi := hi) (by omega))
      have h2' : hi < n := by omega
      go_enter Tryz.func27, Tryz.ntmps27
      go_wp2_with fail
      go_ret
      exact ⟨by rw [H.out]; rfl, rfl⟩
  · have H := Lib.hid (inB_no (lo := lo) (n := n) (hi := hi) (by omega))
    have h1' : n < lo := by omega
    go_enter Tryz.func27, Tryz.ntmps27
    go_wp2_with fail
    go_ret
    exact ⟨by rw [H.out]; rfl, rfl⟩

set_option maxRecDepth 100000 in
set_option maxHeartbeats 1000000 in
theorem rfrom4_any (lo n hi : Int) (w : World) : Calls Tryz.prog 66 #[.int .i64 lo, .int .i64 n, .int .i64 hi] w fun e w' => e = .returned (.bool (inB lo n hi)) ∧ w = w' := by
  by_cases h1 : lo ≤ n
  · by_cases h2 : n ≤ hi
    · have H := Lib.hid (inB_yes h1 h2)
      go_enter Tryz.func66, Tryz.ntmps66
      go_wp2_with fail
      go_ret
      exact ⟨by rw [H.out]; rfl, rfl⟩
    · have H := Lib.hid (inB_no (lo := lo) (n := n) (hi := hi) (by omega))
      have h2' : hi < n := by omega
      go_enter Tryz.func66, Tryz.ntmps66
      go_wp2_with fail
      go_ret
      exact ⟨by rw [H.out]; rfl, rfl⟩
  · have H := Lib.hid (inB_no (lo := lo) (n := n) (hi := hi) (by omega))
    have h1' : n < lo := by omega
    go_enter Tryz.func66, Tryz.ntmps66
    go_wp2_with fail
    go_ret
    exact ⟨by rw [H.out]; rfl, rfl⟩

set_option maxRecDepth 100000 in
set_option maxHeartbeats 1000000 in
theorem rwithin7_any (n lo hi : Int) (w : World) : Calls Tryz.prog 67 #[.int .i64 n, .int .i64 lo, .int .i64 hi] w fun e w' => e = .returned (.bool (inB lo n hi)) ∧ w = w' := by
  by_cases h1 : lo ≤ n
  · by_cases h2 : n ≤ hi
    · have H := Lib.hid (inB_yes h1 h2)
      go_enter Tryz.func67, Tryz.ntmps67
      go_wp2_with fail
      go_ret
      exact ⟨by rw [H.out]; rfl, rfl⟩
    · have H := Lib.hid (inB_no (lo := lo) (n := n) (hi := hi) (by omega))
      have h2' : hi < n := by omega
      go_enter Tryz.func67, Tryz.ntmps67
      go_wp2_with fail
      go_ret
      exact ⟨by rw [H.out]; rfl, rfl⟩
  · have H := Lib.hid (inB_no (lo := lo) (n := n) (hi := hi) (by omega))
    have h1' : n < lo := by omega
    go_enter Tryz.func67, Tryz.ntmps67
    go_wp2_with fail
    go_ret
    exact ⟨by rw [H.out]; rfl, rfl⟩

set_option maxRecDepth 100000 in
set_option maxHeartbeats 1000000 in
theorem twithin_one (lo n hi : Int) (g : Nat) (w : World) (hc : w.cell? ⟨g, 0, none⟩ = some (.int .i64 n)) : Calls Tryz.prog 131 #[.int .i64 lo, .int .i64 hi, .slice (some ⟨g, 0, none⟩) 1 1] w fun e w' => e = .returned (.bool (inB lo n hi)) ∧ w = w' := by
  by_cases h1 : lo ≤ n
  · by_cases h2 : n ≤ hi
    · have H := Lib.hid (inB_yes h1 h2)
      go_enter Tryz.func131, Tryz.ntmps131
      go_wp2_with fail
      refine wp_loop_rounds 2 ?_
      rw [rounds_succ]
      go_wp2_with fail
      rw [rounds_succ]
      go_wp2_with fail
      go_ret
      exact ⟨by rw [H.out]; rfl, rfl⟩
    · have H := Lib.hid (inB_no (lo := lo) (n := n) (hi := hi) (by omega))
      have h2' : hi < n := by omega
      go_enter Tryz.func131, Tryz.ntmps131
      go_wp2_with fail
      refine wp_loop_rounds 2 ?_
      rw [rounds_succ]
      go_wp2_with fail
      go_ret
      exact ⟨by rw [H.out]; rfl, rfl⟩
  · have H := Lib.hid (inB_no (lo := lo) (n := n) (hi := hi) (by omega))
    have h1' : n < lo := by omega
    go_enter Tryz.func131, Tryz.ntmps131
    go_wp2_with fail
    refine wp_loop_rounds 2 ?_
    rw [rounds_succ]
    go_wp2_with fail
    go_ret
    exact ⟨by rw [H.out]; rfl, rfl⟩

def vDet (l d s y : Int) : Bool := decide (1 ≤ l ∧ l ≤ 1023 ∧ 1 ≤ d ∧ d ≤ 1023 ∧ 1 ≤ s ∧ s ≤ 10000 ∧ -1048576 ≤ y ∧ y ≤ 1048576)
set_option maxRecDepth 100000 in
set_option maxHeartbeats 1000000 in
theorem wdet_any (l d s y : Int) (w : World) : Calls Tryz.prog 59 #[.agg #[.int .i64 l, .int .i64 d, .int .i64 s, .int .i64 y]] w fun e w' => e = .returned (.bool (vDet l d s y)) ∧ Frame w w' [] := by
  by_cases h0 : 1 ≤ l
  rotate_left
  · have H := Lib.hid (show vDet l d s y = false from decide_eq_false (by omega))
    have h0' : ¬ (1 ≤ l) := h0
    go_enter Tryz.func59, Tryz.ntmps59
    go_wp2_with fail
    go_ret
    exact ⟨by rw [H.out]; rfl, (Frame.refl _ _).alloc _⟩
  by_cases h1 : l ≤ 1023
  rotate_left
  · have H := Lib.hid (show vDet l d s y = false from decide_eq_false (by omega))
    have h1' : ¬ (l ≤ 1023) := h1
    go_enter Tryz.func59, Tryz.ntmps59
    go_wp2_with fail
    go_ret
    exact ⟨by rw [H.out]; rfl, (Frame.refl _ _).alloc _⟩
  by_cases h2 : 1 ≤ d
  rotate_left
  · have H := Lib.hid (show vDet l d s y = false from decide_eq_false (by omega))
    have h2' : ¬ (1 ≤ d) := h2
    go_enter Tryz.func59, Tryz.ntmps59
    go_wp2_with fail
    go_ret
    exact ⟨by rw [H.out]; rfl, (Frame.refl _ _).alloc _⟩
  by_cases h3 : d ≤ 1023
  rotate_left
  · have H := Lib.hid (show vDet l d s y = false from decide_eq_false (by omega))
    have h3' : ¬ (d ≤ 1023) := h3
    go_enter Tryz.func59, Tryz.ntmps59
    go_wp2_with fail
    go_ret
    exact ⟨by rw [H.out]; rfl, (Frame.refl _ _).alloc _⟩
  by_cases h4 : 1 ≤ s
  rotate_left
  · have H := Lib.hid (show vDet l d s y = false from decide_eq_false (by omega))
    have h4' : ¬ (1 ≤ s) := h4
    go_enter Tryz.func59, Tryz.ntmps59
    go_wp2_with fail
    go_ret
    exact ⟨by rw [H.out]; rfl, (Frame.refl _ _).alloc _⟩
  by_cases h5 : s ≤ 10000
  rotate_left
  · have H := Lib.hid (show vDet l d s y = false from decide_eq_false (by omega))
    have h5' : ¬ (s ≤ 10000) := h5
    go_enter Tryz.func59, Tryz.ntmps59
    go_wp2_with fail
    go_ret
    exact ⟨by rw [H.out]; rfl, (Frame.refl _ _).alloc _⟩
  by_cases h6 : -1048576 ≤ y
  rotate_left
  · have H := Lib.hid (show vDet l d s y = false from decide_eq_false (by omega))
    have h6' : ¬ (-1048576 ≤ y) := h6
    go_enter Tryz.func59, Tryz.ntmps59
    go_wp2_with fail
    go_ret
    exact ⟨by rw [H.out]; rfl, (Frame.refl _ _).alloc _⟩
  by_cases h7 : y ≤ 1048576
  rotate_left
  · have H := Lib.hid (show vDet l d s y = false from decide_eq_false (by omega))
    have h7' : ¬ (y ≤ 1048576) := h7
    go_enter Tryz.func59, Tryz.ntmps59
    go_wp2_with fail
    go_ret
    exact ⟨by rw [H.out]; rfl, (Frame.refl _ _).alloc _⟩
  have H := Lib.hid (show vDet l d s y = true from decide_eq_true ⟨h0, h1, h2, h3, h4, h5, h6, h7⟩)
  go_enter Tryz.func59, Tryz.ntmps59
  go_wp2_with fail
  go_ret
  exact ⟨by rw [H.out]; rfl, (Frame.refl _ _).alloc _⟩

set_option maxRecDepth 100000 in
set_option maxHeartbeats 1000000 in
theorem rdet_any (l d s y : Int) (w : World) : Calls Tryz.prog 28 #[.agg #[.int .i64 l, .int .i64 d, .int .i64 s, .int .i64 y]] w fun e w' => e = .returned (.bool (vDet l d s y)) ∧ Frame w w' [] := by
  by_cases h0 : 1 ≤ l
  rotate_left
  · have H := Lib.hid (show vDet l d s y = false from decide_eq_false (by omega))
    have h0' : ¬ (1 ≤ l) := h0
    go_enter Tryz.func28, Tryz.ntmps28
    go_wp2_with fail
    go_ret
    exact ⟨by rw [H.out]; rfl, (Frame.refl _ _).alloc _⟩
  by_cases h1 : l ≤ 1023
  rotate_left
  · have H := Lib.hid (show vDet l d s y = false from decide_eq_false (by omega))
    have h1' : ¬ (l ≤ 1023) := h1
    go_enter Tryz.func28, Tryz.ntmps28
    go_wp2_with fail
    go_ret
    exact ⟨by rw [H.out]; rfl, (Frame.refl _ _).alloc _⟩
  by_cases h2 : 1 ≤ d
  rotate_left
  · have H := Lib.hid (show vDet l d s y = false from decide_eq_false (by omega))
    have h2' : ¬ (1 ≤ d) := h2
    go_enter Tryz.func28, Tryz.ntmps28
    go_wp2_with fail
    go_ret
    exact ⟨by rw [H.out]; rfl, (Frame.refl _ _).alloc _⟩
  by_cases h3 : d ≤ 1023
  rotate_left
  · have H := Lib.hid (show vDet l d s y = false from decide_eq_false (by omega))
    have h3' : ¬ (d ≤ 1023) := h3
    go_enter Tryz.func28, Tryz.ntmps28
    go_wp2_with fail
    go_ret
    exact ⟨by rw [H.out]; rfl, (Frame.refl _ _).alloc _⟩
  by_cases h4 : 1 ≤ s
  rotate_left
  · have H := Lib.hid (show vDet l d s y = false from decide_eq_false (by omega))
    have h4' : ¬ (1 ≤ s) := h4
    go_enter Tryz.func28, Tryz.ntmps28
    go_wp2_with fail
    go_ret
    exact ⟨by rw [H.out]; rfl, (Frame.refl _ _).alloc _⟩
  by_cases h5 : s ≤ 10000
  rotate_left
  · have H := Lib.hid (show vDet l d s y = false from decide_eq_false (by omega))
    have h5' : ¬ (s ≤ 10000) := h5
    go_enter Tryz.func28, Tryz.ntmps28
    go_wp2_with fail
    go_ret
    exact ⟨by rw [H.out]; rfl, (Frame.refl _ _).alloc _⟩
  by_cases h6 : -1048576 ≤ y
  rotate_left
  · have H := Lib.hid (show vDet l d s y = false from decide_eq_false (by omega))
    have h6' : ¬ (-1048576 ≤ y) := h6
    go_enter Tryz.func28, Tryz.ntmps28
    go_wp2_with fail
    go_ret
    exact ⟨by rw [H.out]; rfl, (Frame.refl _ _).alloc _⟩
  by_cases h7 : y ≤ 1048576
  rotate_left
  · have H := Lib.hid (show vDet l d s y = false from decide_eq_false (by omega))
    have h7' : ¬ (y ≤ 1048576) := h7
    go_enter Tryz.func28, Tryz.ntmps28
    go_wp2_with fail
    go_ret
    exact ⟨by rw [H.out]; rfl, (Frame.refl _ _).alloc _⟩
  have H := Lib.hid (show vDet l d s y = true from decide_eq_true ⟨h0, h1, h2, h3, h4, h5, h6, h7⟩)
  go_enter Tryz.func28, Tryz.ntmps28
  go_wp2_with fail
  go_ret
  exact ⟨by rw [H.out]; rfl, (Frame.refl _ _).alloc _⟩

end Go.Proofs.YtpkfgmebngpfkaaGreat
