/- Which rules of motion and of classification are valid: the program's answer and the document's are one Bool. No condition. -/
import Derived.Test.YtpkfgmebngpfkaaGreatP9
namespace Go.Proofs.YtpkfgmebngpfkaaGreat
open Go.RowKit Go

def vMot (x0 x1 x2 x3 : Int) : Bool := inB 1 x0 10000000 && (inB 0 x1 1000000 && (inB 0 x2 100000 && inB 0 x3 10000000))
def vTer (x0 x1 x2 x3 x4 x5 x6 x7 x8 x9 : Int) : Bool := inB 1 x0 10000000 && (inB 0 x1 1000000 && (inB 0 x2 100000 && (inB 1 x3 1000000 && (inB 0 x4 1000000 && (inB 0 x5 1000000 && (inB 0 x6 1000000 && (inB 0 x7 1000000 && (inB 0 x8 1000000 && inB 1 x9 1024))))))))

theorem twithin_new (lo n hi : Int) (g : Nat) (w : World) (hg : g = w.heap.size) : Calls Tryz.prog 131 #[.int .i64 lo, .int .i64 hi, .slice (some ⟨g, 0, none⟩) 1 1] (w.alloc (.cells #[.int .i64 n] 3)) fun e w' => e = .returned (.bool (inB lo n hi)) ∧ w.alloc (.cells #[.int .i64 n] 3) = w' := by
  subst hg
  exact twithin_one lo n hi _ _ (cell_of_row _ _ 0 _ _ _ (heap_alloc_new _ _))

set_option maxRecDepth 100000 in
set_option maxHeartbeats 1000000 in
theorem trules_any (x0 x1 x2 x3 : Int) (w : World) : Calls Tryz.prog 60 #[.agg #[.int .i64 x0, .int .i64 x1, .int .i64 x2, .int .i64 x3]] w fun e w' => e = .returned (.bool (vMot x0 x1 x2 x3)) ∧ Frame w w' [] := by
  cases h0 : inB 1 x0 10000000
  · have H := Lib.hid (show vMot x0 x1 x2 x3 = false by simp [vMot, h0])
    go_enter Tryz.func60, Tryz.ntmps60
    go_wp2_with fail
    refine (twithin_new 1 x0 10000000 _ _ (by simp)).mono ?_
    rintro e w' ⟨rfl, rfl⟩
    go_wp2_with fail
    go_ret
    refine ⟨by rw [H.out]; rfl, ?_⟩
    repeat (first | exact Frame.refl _ _ | refine Frame.alloc ?_ _)
  cases h1 : inB 0 x1 1000000
  · have H := Lib.hid (show vMot x0 x1 x2 x3 = false by simp [vMot, h1])
    go_enter Tryz.func60, Tryz.ntmps60
    go_wp2_with fail
    refine (twithin_new 1 x0 10000000 _ _ (by simp)).mono ?_
    rintro e w' ⟨rfl, rfl⟩
    go_wp2_with fail
    refine (twithin_new 0 x1 1000000 _ _ (by simp)).mono ?_
    rintro e w' ⟨rfl, rfl⟩
    go_wp2_with fail
    go_ret
    refine ⟨by rw [H.out]; rfl, ?_⟩
    repeat (first | exact Frame.refl _ _ | refine Frame.alloc ?_ _)
  cases h2 : inB 0 x2 100000
  · have H := Lib.hid (show vMot x0 x1 x2 x3 = false by simp [vMot, h2])
    go_enter Tryz.func60, Tryz.ntmps60
    go_wp2_with fail
    refine (twithin_new 1 x0 10000000 _ _ (by simp)).mono ?_
    rintro e w' ⟨rfl, rfl⟩
    go_wp2_with fail
    refine (twithin_new 0 x1 1000000 _ _ (by simp)).mono ?_
    rintro e w' ⟨rfl, rfl⟩
    go_wp2_with fail
    refine (twithin_new 0 x2 100000 _ _ (by simp)).mono ?_
    rintro e w' ⟨rfl, rfl⟩
    go_wp2_with fail
    go_ret
    refine ⟨by rw [H.out]; rfl, ?_⟩
    repeat (first | exact Frame.refl _ _ | refine Frame.alloc ?_ _)
  cases h3 : inB 0 x3 10000000
  · have H := Lib.hid (show vMot x0 x1 x2 x3 = false by simp [vMot, h3])
    go_enter Tryz.func60, Tryz.ntmps60
    go_wp2_with fail
    refine (twithin_new 1 x0 10000000 _ _ (by simp)).mono ?_
    rintro e w' ⟨rfl, rfl⟩
    go_wp2_with fail
    refine (twithin_new 0 x1 1000000 _ _ (by simp)).mono ?_
    rintro e w' ⟨rfl, rfl⟩
    go_wp2_with fail
    refine (twithin_new 0 x2 100000 _ _ (by simp)).mono ?_
    rintro e w' ⟨rfl, rfl⟩
    go_wp2_with fail
    refine (twithin_new 0 x3 10000000 _ _ (by simp)).mono ?_
    rintro e w' ⟨rfl, rfl⟩
    go_wp2_with fail
    go_ret
    refine ⟨by rw [H.out]; rfl, ?_⟩
    repeat (first | exact Frame.refl _ _ | refine Frame.alloc ?_ _)
  have H := Lib.hid (show vMot x0 x1 x2 x3 = true by simp [vMot, h0, h1, h2, h3])
  go_enter Tryz.func60, Tryz.ntmps60
  go_wp2_with fail
  refine (twithin_new 1 x0 10000000 _ _ (by simp)).mono ?_
  rintro e w' ⟨rfl, rfl⟩
  go_wp2_with fail
  refine (twithin_new 0 x1 1000000 _ _ (by simp)).mono ?_
  rintro e w' ⟨rfl, rfl⟩
  go_wp2_with fail
  refine (twithin_new 0 x2 100000 _ _ (by simp)).mono ?_
  rintro e w' ⟨rfl, rfl⟩
  go_wp2_with fail
  refine (twithin_new 0 x3 10000000 _ _ (by simp)).mono ?_
  rintro e w' ⟨rfl, rfl⟩
  go_wp2_with fail
  go_ret
  refine ⟨by rw [H.out]; rfl, ?_⟩
  repeat (first | exact Frame.refl _ _ | refine Frame.alloc ?_ _)

set_option maxRecDepth 100000 in
set_option maxHeartbeats 1000000 in
theorem rrules4_any (x0 x1 x2 x3 : Int) (w : World) : Calls Tryz.prog 29 #[.agg #[.int .i64 x0, .int .i64 x1, .int .i64 x2, .int .i64 x3]] w fun e w' => e = .returned (.bool (vMot x0 x1 x2 x3)) ∧ Frame w w' [] := by
  cases h0 : inB 1 x0 10000000
  · have H := Lib.hid (show vMot x0 x1 x2 x3 = false by simp [vMot, h0])
    go_enter Tryz.func29, Tryz.ntmps29
    go_wp2_with (go_at_call 66; refine (rfrom4_any _ _ _ _).mono ?_; rintro e w' ⟨rfl, rfl⟩)
    go_ret
    refine ⟨by rw [H.out]; rfl, ?_⟩
    repeat (first | exact Frame.refl _ _ | refine Frame.alloc ?_ _)
  cases h1 : inB 0 x1 1000000
  · have H := Lib.hid (show vMot x0 x1 x2 x3 = false by simp [vMot, h1])
    go_enter Tryz.func29, Tryz.ntmps29
    go_wp2_with (go_at_call 66; refine (rfrom4_any _ _ _ _).mono ?_; rintro e w' ⟨rfl, rfl⟩)
    go_ret
    refine ⟨by rw [H.out]; rfl, ?_⟩
    repeat (first | exact Frame.refl _ _ | refine Frame.alloc ?_ _)
  cases h2 : inB 0 x2 100000
  · have H := Lib.hid (show vMot x0 x1 x2 x3 = false by simp [vMot, h2])
    go_enter Tryz.func29, Tryz.ntmps29
    go_wp2_with (go_at_call 66; refine (rfrom4_any _ _ _ _).mono ?_; rintro e w' ⟨rfl, rfl⟩)
    go_ret
    refine ⟨by rw [H.out]; rfl, ?_⟩
    repeat (first | exact Frame.refl _ _ | refine Frame.alloc ?_ _)
  cases h3 : inB 0 x3 10000000
  · have H := Lib.hid (show vMot x0 x1 x2 x3 = false by simp [vMot, h3])
    go_enter Tryz.func29, Tryz.ntmps29
    go_wp2_with (go_at_call 66; refine (rfrom4_any _ _ _ _).mono ?_; rintro e w' ⟨rfl, rfl⟩)
    go_ret
    refine ⟨by rw [H.out]; rfl, ?_⟩
    repeat (first | exact Frame.refl _ _ | refine Frame.alloc ?_ _)
  have H := Lib.hid (show vMot x0 x1 x2 x3 = true by simp [vMot, h0, h1, h2, h3])
  go_enter Tryz.func29, Tryz.ntmps29
  go_wp2_with (go_at_call 66; refine (rfrom4_any _ _ _ _).mono ?_; rintro e w' ⟨rfl, rfl⟩)
  go_ret
  refine ⟨by rw [H.out]; rfl, ?_⟩
  repeat (first | exact Frame.refl _ _ | refine Frame.alloc ?_ _)

set_option maxRecDepth 100000 in
set_option maxHeartbeats 2000000 in
theorem rrules7_any (x0 x1 x2 x3 x4 x5 x6 x7 x8 x9 : Int) (w : World) : Calls Tryz.prog 30 #[.agg #[.int .i64 x0, .int .i64 x1, .int .i64 x2, .int .i64 x3, .int .i64 x4, .int .i64 x5, .int .i64 x6, .int .i64 x7, .int .i64 x8, .int .i64 x9]] w fun e w' => e = .returned (.bool (vTer x0 x1 x2 x3 x4 x5 x6 x7 x8 x9)) ∧ Frame w w' [] := by
  cases h0 : inB 1 x0 10000000
  · have H := Lib.hid (show vTer x0 x1 x2 x3 x4 x5 x6 x7 x8 x9 = false by simp [vTer, h0])
    go_enter Tryz.func30, Tryz.ntmps30
    go_wp2_with (go_at_call 67; refine (rwithin7_any _ _ _ _).mono ?_; rintro e w' ⟨rfl, rfl⟩)
    go_ret
    refine ⟨by rw [H.out]; rfl, ?_⟩
    repeat (first | exact Frame.refl _ _ | refine Frame.alloc ?_ _)
  cases h1 : inB 0 x1 1000000
  · have H := Lib.hid (show vTer x0 x1 x2 x3 x4 x5 x6 x7 x8 x9 = false by simp [vTer, h1])
    go_enter Tryz.func30, Tryz.ntmps30
    go_wp2_with (go_at_call 67; refine (rwithin7_any _ _ _ _).mono ?_; rintro e w' ⟨rfl, rfl⟩)
    go_ret
    refine ⟨by rw [H.out]; rfl, ?_⟩
    repeat (first | exact Frame.refl _ _ | refine Frame.alloc ?_ _)
  cases h2 : inB 0 x2 100000
  · have H := Lib.hid (show vTer x0 x1 x2 x3 x4 x5 x6 x7 x8 x9 = false by simp [vTer, h2])
    go_enter Tryz.func30, Tryz.ntmps30
    go_wp2_with (go_at_call 67; refine (rwithin7_any _ _ _ _).mono ?_; rintro e w' ⟨rfl, rfl⟩)
    go_ret
    refine ⟨by rw [H.out]; rfl, ?_⟩
    repeat (first | exact Frame.refl _ _ | refine Frame.alloc ?_ _)
  cases h3 : inB 1 x3 1000000
  · have H := Lib.hid (show vTer x0 x1 x2 x3 x4 x5 x6 x7 x8 x9 = false by simp [vTer, h3])
    go_enter Tryz.func30, Tryz.ntmps30
    go_wp2_with (go_at_call 67; refine (rwithin7_any _ _ _ _).mono ?_; rintro e w' ⟨rfl, rfl⟩)
    go_ret
    refine ⟨by rw [H.out]; rfl, ?_⟩
    repeat (first | exact Frame.refl _ _ | refine Frame.alloc ?_ _)
  cases h4 : inB 0 x4 1000000
  · have H := Lib.hid (show vTer x0 x1 x2 x3 x4 x5 x6 x7 x8 x9 = false by simp [vTer, h4])
    go_enter Tryz.func30, Tryz.ntmps30
    go_wp2_with (go_at_call 67; refine (rwithin7_any _ _ _ _).mono ?_; rintro e w' ⟨rfl, rfl⟩)
    go_ret
    refine ⟨by rw [H.out]; rfl, ?_⟩
    repeat (first | exact Frame.refl _ _ | refine Frame.alloc ?_ _)
  cases h5 : inB 0 x5 1000000
  · have H := Lib.hid (show vTer x0 x1 x2 x3 x4 x5 x6 x7 x8 x9 = false by simp [vTer, h5])
    go_enter Tryz.func30, Tryz.ntmps30
    go_wp2_with (go_at_call 67; refine (rwithin7_any _ _ _ _).mono ?_; rintro e w' ⟨rfl, rfl⟩)
    go_ret
    refine ⟨by rw [H.out]; rfl, ?_⟩
    repeat (first | exact Frame.refl _ _ | refine Frame.alloc ?_ _)
  cases h6 : inB 0 x6 1000000
  · have H := Lib.hid (show vTer x0 x1 x2 x3 x4 x5 x6 x7 x8 x9 = false by simp [vTer, h6])
    go_enter Tryz.func30, Tryz.ntmps30
    go_wp2_with (go_at_call 67; refine (rwithin7_any _ _ _ _).mono ?_; rintro e w' ⟨rfl, rfl⟩)
    go_ret
    refine ⟨by rw [H.out]; rfl, ?_⟩
    repeat (first | exact Frame.refl _ _ | refine Frame.alloc ?_ _)
  cases h7 : inB 0 x7 1000000
  · have H := Lib.hid (show vTer x0 x1 x2 x3 x4 x5 x6 x7 x8 x9 = false by simp [vTer, h7])
    go_enter Tryz.func30, Tryz.ntmps30
    go_wp2_with (go_at_call 67; refine (rwithin7_any _ _ _ _).mono ?_; rintro e w' ⟨rfl, rfl⟩)
    go_ret
    refine ⟨by rw [H.out]; rfl, ?_⟩
    repeat (first | exact Frame.refl _ _ | refine Frame.alloc ?_ _)
  cases h8 : inB 0 x8 1000000
  · have H := Lib.hid (show vTer x0 x1 x2 x3 x4 x5 x6 x7 x8 x9 = false by simp [vTer, h8])
    go_enter Tryz.func30, Tryz.ntmps30
    go_wp2_with (go_at_call 67; refine (rwithin7_any _ _ _ _).mono ?_; rintro e w' ⟨rfl, rfl⟩)
    go_ret
    refine ⟨by rw [H.out]; rfl, ?_⟩
    repeat (first | exact Frame.refl _ _ | refine Frame.alloc ?_ _)
  cases h9 : inB 1 x9 1024
  · have H := Lib.hid (show vTer x0 x1 x2 x3 x4 x5 x6 x7 x8 x9 = false by simp [vTer, h9])
    go_enter Tryz.func30, Tryz.ntmps30
    go_wp2_with (go_at_call 67; refine (rwithin7_any _ _ _ _).mono ?_; rintro e w' ⟨rfl, rfl⟩)
    go_ret
    refine ⟨by rw [H.out]; rfl, ?_⟩
    repeat (first | exact Frame.refl _ _ | refine Frame.alloc ?_ _)
  have H := Lib.hid (show vTer x0 x1 x2 x3 x4 x5 x6 x7 x8 x9 = true by simp [vTer, h0, h1, h2, h3, h4, h5, h6, h7, h8, h9])
  go_enter Tryz.func30, Tryz.ntmps30
  go_wp2_with (go_at_call 67; refine (rwithin7_any _ _ _ _).mono ?_; rintro e w' ⟨rfl, rfl⟩)
  go_ret
  refine ⟨by rw [H.out]; rfl, ?_⟩
  repeat (first | exact Frame.refl _ _ | refine Frame.alloc ?_ _)

set_option maxRecDepth 100000 in
set_option maxHeartbeats 4000000 in
theorem lrules_any (x0 x1 x2 x3 x4 x5 x6 x7 x8 x9 : Int) (w : World) : Calls Tryz.prog 61 #[.agg #[.int .i64 x0, .int .i64 x1, .int .i64 x2, .int .i64 x3, .int .i64 x4, .int .i64 x5, .int .i64 x6, .int .i64 x7, .int .i64 x8, .int .i64 x9]] w fun e w' => e = .returned (.bool (vTer x0 x1 x2 x3 x4 x5 x6 x7 x8 x9)) ∧ Frame w w' [] := by
  have i0 : ∀ w, (Instr.index 291 (.agg #[.int .i64 x1, .int .i64 x4, .int .i64 x5, .int .i64 x6, .int .i64 x7, .int .i64 x8]) (.int .i64 0)).run Tryz.prog w = .ok (.int .i64 x1) w := fun _ => by kernel_rfl
  have i1 : ∀ w, (Instr.index 291 (.agg #[.int .i64 x1, .int .i64 x4, .int .i64 x5, .int .i64 x6, .int .i64 x7, .int .i64 x8]) (.int .i64 1)).run Tryz.prog w = .ok (.int .i64 x4) w := fun _ => by kernel_rfl
  have i2 : ∀ w, (Instr.index 291 (.agg #[.int .i64 x1, .int .i64 x4, .int .i64 x5, .int .i64 x6, .int .i64 x7, .int .i64 x8]) (.int .i64 2)).run Tryz.prog w = .ok (.int .i64 x5) w := fun _ => by kernel_rfl
  have i3 : ∀ w, (Instr.index 291 (.agg #[.int .i64 x1, .int .i64 x4, .int .i64 x5, .int .i64 x6, .int .i64 x7, .int .i64 x8]) (.int .i64 3)).run Tryz.prog w = .ok (.int .i64 x6) w := fun _ => by kernel_rfl
  have i4 : ∀ w, (Instr.index 291 (.agg #[.int .i64 x1, .int .i64 x4, .int .i64 x5, .int .i64 x6, .int .i64 x7, .int .i64 x8]) (.int .i64 4)).run Tryz.prog w = .ok (.int .i64 x7) w := fun _ => by kernel_rfl
  have i5 : ∀ w, (Instr.index 291 (.agg #[.int .i64 x1, .int .i64 x4, .int .i64 x5, .int .i64 x6, .int .i64 x7, .int .i64 x8]) (.int .i64 5)).run Tryz.prog w = .ok (.int .i64 x8) w := fun _ => by kernel_rfl
  cases h1 : inB 0 x1 1000000
  · have H := Lib.hid (show vTer x0 x1 x2 x3 x4 x5 x6 x7 x8 x9 = false by simp [vTer, h1])
    go_enter Tryz.func61, Tryz.ntmps61
    go_wp2_with fail
    refine wp_loop_rounds 7 ?_
    rw [rounds_succ]
    go_wp2_with (go_at_call 132; refine (lwithin_any _ _ _ _).mono ?_; rintro e w' ⟨rfl, rfl⟩)
    go_ret
    refine ⟨by rw [H.out]; rfl, ?_⟩
    repeat (first | exact Frame.refl _ _ | refine Frame.alloc ?_ _)
  cases h4 : inB 0 x4 1000000
  · have H := Lib.hid (show vTer x0 x1 x2 x3 x4 x5 x6 x7 x8 x9 = false by simp [vTer, h4])
    go_enter Tryz.func61, Tryz.ntmps61
    go_wp2_with fail
    refine wp_loop_rounds 7 ?_
    rw [rounds_succ]
    go_wp2_with (go_at_call 132; refine (lwithin_any _ _ _ _).mono ?_; rintro e w' ⟨rfl, rfl⟩)
    rw [rounds_succ]
    go_wp2_with (go_at_call 132; refine (lwithin_any _ _ _ _).mono ?_; rintro e w' ⟨rfl, rfl⟩)
    go_ret
    refine ⟨by rw [H.out]; rfl, ?_⟩
    repeat (first | exact Frame.refl _ _ | refine Frame.alloc ?_ _)
  cases h5 : inB 0 x5 1000000
  · have H := Lib.hid (show vTer x0 x1 x2 x3 x4 x5 x6 x7 x8 x9 = false by simp [vTer, h5])
    go_enter Tryz.func61, Tryz.ntmps61
    go_wp2_with fail
    refine wp_loop_rounds 7 ?_
    rw [rounds_succ]
    go_wp2_with (go_at_call 132; refine (lwithin_any _ _ _ _).mono ?_; rintro e w' ⟨rfl, rfl⟩)
    rw [rounds_succ]
    go_wp2_with (go_at_call 132; refine (lwithin_any _ _ _ _).mono ?_; rintro e w' ⟨rfl, rfl⟩)
    rw [rounds_succ]
    go_wp2_with (go_at_call 132; refine (lwithin_any _ _ _ _).mono ?_; rintro e w' ⟨rfl, rfl⟩)
    go_ret
    refine ⟨by rw [H.out]; rfl, ?_⟩
    repeat (first | exact Frame.refl _ _ | refine Frame.alloc ?_ _)
  cases h6 : inB 0 x6 1000000
  · have H := Lib.hid (show vTer x0 x1 x2 x3 x4 x5 x6 x7 x8 x9 = false by simp [vTer, h6])
    go_enter Tryz.func61, Tryz.ntmps61
    go_wp2_with fail
    refine wp_loop_rounds 7 ?_
    rw [rounds_succ]
    go_wp2_with (go_at_call 132; refine (lwithin_any _ _ _ _).mono ?_; rintro e w' ⟨rfl, rfl⟩)
    rw [rounds_succ]
    go_wp2_with (go_at_call 132; refine (lwithin_any _ _ _ _).mono ?_; rintro e w' ⟨rfl, rfl⟩)
    rw [rounds_succ]
    go_wp2_with (go_at_call 132; refine (lwithin_any _ _ _ _).mono ?_; rintro e w' ⟨rfl, rfl⟩)
    rw [rounds_succ]
    go_wp2_with (go_at_call 132; refine (lwithin_any _ _ _ _).mono ?_; rintro e w' ⟨rfl, rfl⟩)
    go_ret
    refine ⟨by rw [H.out]; rfl, ?_⟩
    repeat (first | exact Frame.refl _ _ | refine Frame.alloc ?_ _)
  cases h7 : inB 0 x7 1000000
  · have H := Lib.hid (show vTer x0 x1 x2 x3 x4 x5 x6 x7 x8 x9 = false by simp [vTer, h7])
    go_enter Tryz.func61, Tryz.ntmps61
    go_wp2_with fail
    refine wp_loop_rounds 7 ?_
    rw [rounds_succ]
    go_wp2_with (go_at_call 132; refine (lwithin_any _ _ _ _).mono ?_; rintro e w' ⟨rfl, rfl⟩)
    rw [rounds_succ]
    go_wp2_with (go_at_call 132; refine (lwithin_any _ _ _ _).mono ?_; rintro e w' ⟨rfl, rfl⟩)
    rw [rounds_succ]
    go_wp2_with (go_at_call 132; refine (lwithin_any _ _ _ _).mono ?_; rintro e w' ⟨rfl, rfl⟩)
    rw [rounds_succ]
    go_wp2_with (go_at_call 132; refine (lwithin_any _ _ _ _).mono ?_; rintro e w' ⟨rfl, rfl⟩)
    rw [rounds_succ]
    go_wp2_with (go_at_call 132; refine (lwithin_any _ _ _ _).mono ?_; rintro e w' ⟨rfl, rfl⟩)
    go_ret
    refine ⟨by rw [H.out]; rfl, ?_⟩
    repeat (first | exact Frame.refl _ _ | refine Frame.alloc ?_ _)
  cases h8 : inB 0 x8 1000000
  · have H := Lib.hid (show vTer x0 x1 x2 x3 x4 x5 x6 x7 x8 x9 = false by simp [vTer, h8])
    go_enter Tryz.func61, Tryz.ntmps61
    go_wp2_with fail
    refine wp_loop_rounds 7 ?_
    rw [rounds_succ]
    go_wp2_with (go_at_call 132; refine (lwithin_any _ _ _ _).mono ?_; rintro e w' ⟨rfl, rfl⟩)
    rw [rounds_succ]
    go_wp2_with (go_at_call 132; refine (lwithin_any _ _ _ _).mono ?_; rintro e w' ⟨rfl, rfl⟩)
    rw [rounds_succ]
    go_wp2_with (go_at_call 132; refine (lwithin_any _ _ _ _).mono ?_; rintro e w' ⟨rfl, rfl⟩)
    rw [rounds_succ]
    go_wp2_with (go_at_call 132; refine (lwithin_any _ _ _ _).mono ?_; rintro e w' ⟨rfl, rfl⟩)
    rw [rounds_succ]
    go_wp2_with (go_at_call 132; refine (lwithin_any _ _ _ _).mono ?_; rintro e w' ⟨rfl, rfl⟩)
    rw [rounds_succ]
    go_wp2_with (go_at_call 132; refine (lwithin_any _ _ _ _).mono ?_; rintro e w' ⟨rfl, rfl⟩)
    go_ret
    refine ⟨by rw [H.out]; rfl, ?_⟩
    repeat (first | exact Frame.refl _ _ | refine Frame.alloc ?_ _)
  cases h0 : inB 1 x0 10000000
  · have H := Lib.hid (show vTer x0 x1 x2 x3 x4 x5 x6 x7 x8 x9 = false by simp [vTer, h0])
    go_enter Tryz.func61, Tryz.ntmps61
    go_wp2_with fail
    refine wp_loop_rounds 7 ?_
    rw [rounds_succ]
    go_wp2_with (go_at_call 132; refine (lwithin_any _ _ _ _).mono ?_; rintro e w' ⟨rfl, rfl⟩)
    rw [rounds_succ]
    go_wp2_with (go_at_call 132; refine (lwithin_any _ _ _ _).mono ?_; rintro e w' ⟨rfl, rfl⟩)
    rw [rounds_succ]
    go_wp2_with (go_at_call 132; refine (lwithin_any _ _ _ _).mono ?_; rintro e w' ⟨rfl, rfl⟩)
    rw [rounds_succ]
    go_wp2_with (go_at_call 132; refine (lwithin_any _ _ _ _).mono ?_; rintro e w' ⟨rfl, rfl⟩)
    rw [rounds_succ]
    go_wp2_with (go_at_call 132; refine (lwithin_any _ _ _ _).mono ?_; rintro e w' ⟨rfl, rfl⟩)
    rw [rounds_succ]
    go_wp2_with (go_at_call 132; refine (lwithin_any _ _ _ _).mono ?_; rintro e w' ⟨rfl, rfl⟩)
    rw [rounds_succ]
    go_wp2_with (go_at_call 132; refine (lwithin_any _ _ _ _).mono ?_; rintro e w' ⟨rfl, rfl⟩)
    go_ret
    refine ⟨by rw [H.out]; rfl, ?_⟩
    repeat (first | exact Frame.refl _ _ | refine Frame.alloc ?_ _)
  cases h2 : inB 0 x2 100000
  · have H := Lib.hid (show vTer x0 x1 x2 x3 x4 x5 x6 x7 x8 x9 = false by simp [vTer, h2])
    go_enter Tryz.func61, Tryz.ntmps61
    go_wp2_with fail
    refine wp_loop_rounds 7 ?_
    rw [rounds_succ]
    go_wp2_with (go_at_call 132; refine (lwithin_any _ _ _ _).mono ?_; rintro e w' ⟨rfl, rfl⟩)
    rw [rounds_succ]
    go_wp2_with (go_at_call 132; refine (lwithin_any _ _ _ _).mono ?_; rintro e w' ⟨rfl, rfl⟩)
    rw [rounds_succ]
    go_wp2_with (go_at_call 132; refine (lwithin_any _ _ _ _).mono ?_; rintro e w' ⟨rfl, rfl⟩)
    rw [rounds_succ]
    go_wp2_with (go_at_call 132; refine (lwithin_any _ _ _ _).mono ?_; rintro e w' ⟨rfl, rfl⟩)
    rw [rounds_succ]
    go_wp2_with (go_at_call 132; refine (lwithin_any _ _ _ _).mono ?_; rintro e w' ⟨rfl, rfl⟩)
    rw [rounds_succ]
    go_wp2_with (go_at_call 132; refine (lwithin_any _ _ _ _).mono ?_; rintro e w' ⟨rfl, rfl⟩)
    rw [rounds_succ]
    go_wp2_with (go_at_call 132; refine (lwithin_any _ _ _ _).mono ?_; rintro e w' ⟨rfl, rfl⟩)
    go_ret
    refine ⟨by rw [H.out]; rfl, ?_⟩
    repeat (first | exact Frame.refl _ _ | refine Frame.alloc ?_ _)
  cases h3 : inB 1 x3 1000000
  · have H := Lib.hid (show vTer x0 x1 x2 x3 x4 x5 x6 x7 x8 x9 = false by simp [vTer, h3])
    go_enter Tryz.func61, Tryz.ntmps61
    go_wp2_with fail
    refine wp_loop_rounds 7 ?_
    rw [rounds_succ]
    go_wp2_with (go_at_call 132; refine (lwithin_any _ _ _ _).mono ?_; rintro e w' ⟨rfl, rfl⟩)
    rw [rounds_succ]
    go_wp2_with (go_at_call 132; refine (lwithin_any _ _ _ _).mono ?_; rintro e w' ⟨rfl, rfl⟩)
    rw [rounds_succ]
    go_wp2_with (go_at_call 132; refine (lwithin_any _ _ _ _).mono ?_; rintro e w' ⟨rfl, rfl⟩)
    rw [rounds_succ]
    go_wp2_with (go_at_call 132; refine (lwithin_any _ _ _ _).mono ?_; rintro e w' ⟨rfl, rfl⟩)
    rw [rounds_succ]
    go_wp2_with (go_at_call 132; refine (lwithin_any _ _ _ _).mono ?_; rintro e w' ⟨rfl, rfl⟩)
    rw [rounds_succ]
    go_wp2_with (go_at_call 132; refine (lwithin_any _ _ _ _).mono ?_; rintro e w' ⟨rfl, rfl⟩)
    rw [rounds_succ]
    go_wp2_with (go_at_call 132; refine (lwithin_any _ _ _ _).mono ?_; rintro e w' ⟨rfl, rfl⟩)
    go_ret
    refine ⟨by rw [H.out]; rfl, ?_⟩
    repeat (first | exact Frame.refl _ _ | refine Frame.alloc ?_ _)
  cases h9 : inB 1 x9 1024
  · have H := Lib.hid (show vTer x0 x1 x2 x3 x4 x5 x6 x7 x8 x9 = false by simp [vTer, h9])
    go_enter Tryz.func61, Tryz.ntmps61
    go_wp2_with fail
    refine wp_loop_rounds 7 ?_
    rw [rounds_succ]
    go_wp2_with (go_at_call 132; refine (lwithin_any _ _ _ _).mono ?_; rintro e w' ⟨rfl, rfl⟩)
    rw [rounds_succ]
    go_wp2_with (go_at_call 132; refine (lwithin_any _ _ _ _).mono ?_; rintro e w' ⟨rfl, rfl⟩)
    rw [rounds_succ]
    go_wp2_with (go_at_call 132; refine (lwithin_any _ _ _ _).mono ?_; rintro e w' ⟨rfl, rfl⟩)
    rw [rounds_succ]
    go_wp2_with (go_at_call 132; refine (lwithin_any _ _ _ _).mono ?_; rintro e w' ⟨rfl, rfl⟩)
    rw [rounds_succ]
    go_wp2_with (go_at_call 132; refine (lwithin_any _ _ _ _).mono ?_; rintro e w' ⟨rfl, rfl⟩)
    rw [rounds_succ]
    go_wp2_with (go_at_call 132; refine (lwithin_any _ _ _ _).mono ?_; rintro e w' ⟨rfl, rfl⟩)
    rw [rounds_succ]
    go_wp2_with (go_at_call 132; refine (lwithin_any _ _ _ _).mono ?_; rintro e w' ⟨rfl, rfl⟩)
    go_ret
    refine ⟨by rw [H.out]; rfl, ?_⟩
    repeat (first | exact Frame.refl _ _ | refine Frame.alloc ?_ _)
  have H := Lib.hid (show vTer x0 x1 x2 x3 x4 x5 x6 x7 x8 x9 = true by simp [vTer, h1, h4, h5, h6, h7, h8, h0, h2, h3, h9])
  go_enter Tryz.func61, Tryz.ntmps61
  go_wp2_with fail
  refine wp_loop_rounds 7 ?_
  rw [rounds_succ]
  go_wp2_with (go_at_call 132; refine (lwithin_any _ _ _ _).mono ?_; rintro e w' ⟨rfl, rfl⟩)
  rw [rounds_succ]
  go_wp2_with (go_at_call 132; refine (lwithin_any _ _ _ _).mono ?_; rintro e w' ⟨rfl, rfl⟩)
  rw [rounds_succ]
  go_wp2_with (go_at_call 132; refine (lwithin_any _ _ _ _).mono ?_; rintro e w' ⟨rfl, rfl⟩)
  rw [rounds_succ]
  go_wp2_with (go_at_call 132; refine (lwithin_any _ _ _ _).mono ?_; rintro e w' ⟨rfl, rfl⟩)
  rw [rounds_succ]
  go_wp2_with (go_at_call 132; refine (lwithin_any _ _ _ _).mono ?_; rintro e w' ⟨rfl, rfl⟩)
  rw [rounds_succ]
  go_wp2_with (go_at_call 132; refine (lwithin_any _ _ _ _).mono ?_; rintro e w' ⟨rfl, rfl⟩)
  rw [rounds_succ]
  go_wp2_with (go_at_call 132; refine (lwithin_any _ _ _ _).mono ?_; rintro e w' ⟨rfl, rfl⟩)
  go_ret
  refine ⟨by rw [H.out]; rfl, ?_⟩
  repeat (first | exact Frame.refl _ _ | refine Frame.alloc ?_ _)

end Go.Proofs.YtpkfgmebngpfkaaGreat
