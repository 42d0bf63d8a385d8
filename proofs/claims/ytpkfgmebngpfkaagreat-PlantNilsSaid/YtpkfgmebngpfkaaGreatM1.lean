/- What a nil and a zero plant return, method by method. No condition. -/
import Derived.Test.YtpkfgmebngpfkaaGreatP8
namespace Go.Proofs.YtpkfgmebngpfkaaGreat
open Go.RowKit Go

/-- A nil plant, or one whose archive is nil. -/
def NilP (w : World) (p : Value) : Prop := p = .pointer none ∨ ∃ z, p = .pointer (some ⟨z, 0, none⟩) ∧ w.cell? ⟨z, 23, none⟩ = some (.pointer none)
theorem NilP.frame {w w' : World} {p : Value} (h : NilP w p) (hf : Frame w w' []) : NilP w' p := by
  rcases h with h | ⟨z, h, hc⟩
  · exact .inl h
  · exact .inr ⟨z, h, hf.cell hc (by simp)⟩

set_option maxRecDepth 100000 in
set_option maxHeartbeats 1000000 in
theorem none_any (p : Value) (w : World) (h : NilP w p) : Calls Tryz.prog 34 #[p] w fun e w' => e = .returned (.bool true) ∧ w = w' := by
  rcases h with rfl | ⟨z, rfl, hz⟩
  · go_enter Tryz.func34, Tryz.ntmps34
    go_wp2_with fail
    go_ret
    exact ⟨rfl, rfl⟩
  · go_enter Tryz.func34, Tryz.ntmps34
    go_wp2_with fail
    go_ret
    exact ⟨rfl, rfl⟩

set_option maxRecDepth 100000 in
set_option maxHeartbeats 1000000 in
theorem feed_nil (p : Value) (v : Value) (w : World) (h : NilP w p) : Calls Tryz.prog 9 #[p, v] w fun e w' => e = .returned (.tuple #[.agg #[.int .i64 0, .int .i64 0, .int .i64 0, .int .i64 0], .int .i64 2]) ∧ Frame w w' [] := by
  go_enter Tryz.func9, Tryz.ntmps9
  go_wp2_with (go_at_call 34; refine (none_any p _ (h.frame (by repeat (first | exact Frame.refl _ _ | refine Frame.alloc ?_ _)))).mono ?_; rintro e w' ⟨rfl, rfl⟩)
  refine bodyPost_ret (v := .tuple #[.agg #[.int .i64 0, .int .i64 0, .int .i64 0, .int .i64 0], .int .i64 2]) (by simp [results, Tryz.results9, go_sem]) rfl ⟨rfl, ?_⟩
  repeat (first | exact Frame.refl _ _ | refine Frame.alloc ?_ _)

set_option maxRecDepth 100000 in
set_option maxHeartbeats 1000000 in
theorem publish_nil (p : Value)  (w : World) (h : NilP w p) : Calls Tryz.prog 10 #[p] w fun e w' => e = .returned (.tuple #[.int .i64 0, .int .i64 2]) ∧ Frame w w' [] := by
  go_enter Tryz.func10, Tryz.ntmps10
  go_wp2_with (go_at_call 34; refine (none_any p _ (h.frame (by repeat (first | exact Frame.refl _ _ | refine Frame.alloc ?_ _)))).mono ?_; rintro e w' ⟨rfl, rfl⟩)
  go_ret2
  refine ⟨rfl, ?_⟩
  repeat (first | exact Frame.refl _ _ | refine Frame.alloc ?_ _)

set_option maxRecDepth 100000 in
set_option maxHeartbeats 1000000 in
theorem points_nil (p : Value) (a : Int) (w : World) (h : NilP w p) : Calls Tryz.prog 11 #[p, .int .i64 a] w fun e w' => e = .returned (.tuple #[.slice none 0 0, .int .i64 2]) ∧ Frame w w' [] := by
  go_enter Tryz.func11, Tryz.ntmps11
  go_wp2_with (go_at_call 34; refine (none_any p _ (h.frame (by repeat (first | exact Frame.refl _ _ | refine Frame.alloc ?_ _)))).mono ?_; rintro e w' ⟨rfl, rfl⟩)
  go_ret2
  refine ⟨rfl, ?_⟩
  repeat (first | exact Frame.refl _ _ | refine Frame.alloc ?_ _)

set_option maxRecDepth 100000 in
set_option maxHeartbeats 1000000 in
theorem order_nil (p : Value) (a l e : Int) (A1 A2 : Option Addr) (n1 c1 n2 c2 : Nat) (w : World) (h : NilP w p) : Calls Tryz.prog 12 #[p, .int .i64 a, .agg #[.int .i64 l, .slice A1 n1 c1, .slice A2 n2 c2, .int .i64 e]] w fun e w' => e = .returned (.tuple #[.slice none 0 0, .int .i64 2]) ∧ Frame w w' [] := by
  go_enter Tryz.func12, Tryz.ntmps12
  go_wp2_with (go_at_call 34; refine (none_any p _ (h.frame (by repeat (first | exact Frame.refl _ _ | refine Frame.alloc ?_ _)))).mono ?_; rintro e w' ⟨rfl, rfl⟩)
  go_ret2
  refine ⟨rfl, ?_⟩
  repeat (first | exact Frame.refl _ _ | refine Frame.alloc ?_ _)

set_option maxRecDepth 100000 in
set_option maxHeartbeats 1000000 in
theorem profile_nil (p : Value) (a x0 x1 x2 x3 : Int) (w : World) (h : NilP w p) : Calls Tryz.prog 13 #[p, .int .i64 a, .agg #[.int .i64 x0, .int .i64 x1], .agg #[.int .i64 x2, .int .i64 x3]] w fun e w' => e = .returned (.tuple #[.slice none 0 0, .int .i64 2]) ∧ Frame w w' [] := by
  go_enter Tryz.func13, Tryz.ntmps13
  go_wp2_with (go_at_call 34; refine (none_any p _ (h.frame (by repeat (first | exact Frame.refl _ _ | refine Frame.alloc ?_ _)))).mono ?_; rintro e w' ⟨rfl, rfl⟩)
  go_ret2
  refine ⟨rfl, ?_⟩
  repeat (first | exact Frame.refl _ _ | refine Frame.alloc ?_ _)

set_option maxRecDepth 100000 in
set_option maxHeartbeats 1000000 in
theorem changes_nil (p : Value) (a b : Int) (w : World) (h : NilP w p) : Calls Tryz.prog 14 #[p, .int .i64 a, .int .i64 b] w fun e w' => e = .returned (.tuple #[.slice none 0 0, .int .i64 2]) ∧ Frame w w' [] := by
  go_enter Tryz.func14, Tryz.ntmps14
  go_wp2_with (go_at_call 34; refine (none_any p _ (h.frame (by repeat (first | exact Frame.refl _ _ | refine Frame.alloc ?_ _)))).mono ?_; rintro e w' ⟨rfl, rfl⟩)
  go_ret2
  refine ⟨rfl, ?_⟩
  repeat (first | exact Frame.refl _ _ | refine Frame.alloc ?_ _)

set_option maxRecDepth 100000 in
set_option maxHeartbeats 1000000 in
theorem change_nil (p : Value) (a b x0 x1 x2 x3 x4 l f : Int) (w : World) (h : NilP w p) : Calls Tryz.prog 15 #[p, .int .i64 a, .int .i64 b, .agg #[.int .i64 x0, .int .i64 x1, .int .i64 x2, .int .i64 x3, .int .i64 x4], .int .i64 l, .int .i64 f] w fun e w' => e = .returned (.tuple #[.slice none 0 0, .int .i64 2]) ∧ Frame w w' [] := by
  go_enter Tryz.func15, Tryz.ntmps15
  go_wp2_with (go_at_call 34; refine (none_any p _ (h.frame (by repeat (first | exact Frame.refl _ _ | refine Frame.alloc ?_ _)))).mono ?_; rintro e w' ⟨rfl, rfl⟩)
  go_ret2
  refine ⟨rfl, ?_⟩
  repeat (first | exact Frame.refl _ _ | refine Frame.alloc ?_ _)

set_option maxRecDepth 100000 in
set_option maxHeartbeats 1000000 in
theorem giveUp_nil (p : Value) (a b : Int) (w : World) (h : NilP w p) : Calls Tryz.prog 16 #[p, .int .i64 a, .int .i64 b] w fun e w' => e = .returned (.int .i64 2) ∧ Frame w w' [] := by
  go_enter Tryz.func16, Tryz.ntmps16
  go_wp2_with (go_at_call 34; refine (none_any p _ (h.frame (by repeat (first | exact Frame.refl _ _ | refine Frame.alloc ?_ _)))).mono ?_; rintro e w' ⟨rfl, rfl⟩)
  go_ret
  refine ⟨rfl, ?_⟩
  repeat (first | exact Frame.refl _ _ | refine Frame.alloc ?_ _)

set_option maxRecDepth 100000 in
set_option maxHeartbeats 1000000 in
theorem tie_nil (p : Value) (x0 x1 x2 x3 x4 x5 x6 : Int) (w : World) (h : NilP w p) : Calls Tryz.prog 17 #[p, .agg #[.int .i64 x0, .int .i64 x1, .int .i64 x2, .int .i64 x3, .int .i64 x4, .int .i64 x5, .int .i64 x6]] w fun e w' => e = .returned (.int .i64 2) ∧ Frame w w' [] := by
  go_enter Tryz.func17, Tryz.ntmps17
  go_wp2_with (go_at_call 34; refine (none_any p _ (h.frame (by repeat (first | exact Frame.refl _ _ | refine Frame.alloc ?_ _)))).mono ?_; rintro e w' ⟨rfl, rfl⟩)
  go_ret
  refine ⟨rfl, ?_⟩
  repeat (first | exact Frame.refl _ _ | refine Frame.alloc ?_ _)

set_option maxRecDepth 100000 in
set_option maxHeartbeats 1000000 in
theorem correct_nil (p : Value) (x0 x1 x2 : Int) (A1 : Option Addr) (n1 c1 : Nat) (w : World) (h : NilP w p) : Calls Tryz.prog 18 #[p, .agg #[.int .i64 x0, .slice A1 n1 c1, .int .i64 x1, .int .i64 x2]] w fun e w' => e = .returned (.int .i64 2) ∧ Frame w w' [] := by
  go_enter Tryz.func18, Tryz.ntmps18
  go_wp2_with (go_at_call 34; refine (none_any p _ (h.frame (by repeat (first | exact Frame.refl _ _ | refine Frame.alloc ?_ _)))).mono ?_; rintro e w' ⟨rfl, rfl⟩)
  go_ret
  refine ⟨rfl, ?_⟩
  repeat (first | exact Frame.refl _ _ | refine Frame.alloc ?_ _)

set_option maxRecDepth 100000 in
set_option maxHeartbeats 1000000 in
theorem brk_nil (p : Value) (a b : Int) (w : World) (h : NilP w p) : Calls Tryz.prog 19 #[p, .int .i64 a, .int .i64 b] w fun e w' => e = .returned (.int .i64 2) ∧ Frame w w' [] := by
  go_enter Tryz.func19, Tryz.ntmps19
  go_wp2_with (go_at_call 34; refine (none_any p _ (h.frame (by repeat (first | exact Frame.refl _ _ | refine Frame.alloc ?_ _)))).mono ?_; rintro e w' ⟨rfl, rfl⟩)
  go_ret
  refine ⟨rfl, ?_⟩
  repeat (first | exact Frame.refl _ _ | refine Frame.alloc ?_ _)

set_option maxRecDepth 100000 in
set_option maxHeartbeats 1000000 in
theorem reopen_nil (p : Value)  (w : World) (h : NilP w p) : Calls Tryz.prog 20 #[p] w fun e w' => e = .returned (.int .i64 2) ∧ Frame w w' [] := by
  go_enter Tryz.func20, Tryz.ntmps20
  go_wp2_with (go_at_call 34; refine (none_any p _ (h.frame (by repeat (first | exact Frame.refl _ _ | refine Frame.alloc ?_ _)))).mono ?_; rintro e w' ⟨rfl, rfl⟩)
  go_ret
  refine ⟨rfl, ?_⟩
  repeat (first | exact Frame.refl _ _ | refine Frame.alloc ?_ _)

set_option maxRecDepth 100000 in
set_option maxHeartbeats 1000000 in
theorem strips_nil (p : Value)  (w : World) (h : NilP w p) : Calls Tryz.prog 21 #[p] w fun e w' => e = .returned (.slice none 0 0) ∧ Frame w w' [] := by
  go_enter Tryz.func21, Tryz.ntmps21
  go_wp2_with (go_at_call 34; refine (none_any p _ (h.frame (by repeat (first | exact Frame.refl _ _ | refine Frame.alloc ?_ _)))).mono ?_; rintro e w' ⟨rfl, rfl⟩)
  go_ret
  refine ⟨rfl, ?_⟩
  repeat (first | exact Frame.refl _ _ | refine Frame.alloc ?_ _)

set_option maxRecDepth 100000 in
set_option maxHeartbeats 1000000 in
theorem version_nil (p : Value)  (w : World) (h : NilP w p) : Calls Tryz.prog 22 #[p] w fun e w' => e = .returned (.int .i64 0) ∧ Frame w w' [] := by
  go_enter Tryz.func22, Tryz.ntmps22
  go_wp2_with (go_at_call 34; refine (none_any p _ (h.frame (by repeat (first | exact Frame.refl _ _ | refine Frame.alloc ?_ _)))).mono ?_; rintro e w' ⟨rfl, rfl⟩)
  go_ret
  refine ⟨rfl, ?_⟩
  repeat (first | exact Frame.refl _ _ | refine Frame.alloc ?_ _)

end Go.Proofs.YtpkfgmebngpfkaaGreat
