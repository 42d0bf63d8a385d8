/- The law's 'alike': it says true of two disks that are alike. No condition. -/
import Derived.Test.YtaidpmflfimkgaaT15
import Derived.Laws.IdiomStrings
import Derived.Laws.BytesArg
namespace Go.Proofs.Ytaidpmflfimkgaa
open Go.RowKit

theorem run_str {W : World} {v : Value} (l : List UInt8) (h : Rd W v l.length 1 (bv l)) : (convert 27 9 v).run Try.prog W = .ok (.string ⟨l.toArray⟩) W := by
  obtain ⟨_, A, c, rfl, hc, hA, hcell⟩ := h
  cases A with
  | none =>
    have := hA rfl
    have hl : l = [] := List.eq_nil_of_length_eq_zero (by omega)
    subst hl
    exact run_convert_bytes_nil W 27 5 Try.underlying27 Try.underlying5 0 c 9 Try.underlying9
  | some a =>
    exact run_convert_bytes_back W 27 9 5 a c l Try.underlying27 Try.underlying5 Try.underlying9 fun j hj => hcell a rfl j _ (by simp [bv, hj])

theorem Like.refused {s t : DS} (h : Like s t) (i : Int) : refusedN s i = refusedN t i := by unfold refusedN; rw [h.down]
theorem Like.read {s t : DS} (h : Like s t) (i : Int) : (if refusedN s i = 0 then s.b i else []) = (if refusedN t i = 0 then t.b i else []) := by
  rw [h.refused i]
  unfold DS.b
  rw [h.b0, h.b1]

def readL (s : DS) (i : Int) : List UInt8 := if refusedN s i = 0 then s.b i else []

set_option maxRecDepth 100000 in
set_option maxHeartbeats 4000000 in
theorem alike_any {B ga gb : Nat} {s t : DS} {v0 v1 u0 u1 : Value} (w : World) (h : Pair w B ga gb s t v0 v1 u0 u1) :
    Calls Try.prog 9 #[.pointer (some ⟨ga, 0, none⟩), .pointer (some ⟨gb, 0, none⟩)] w fun e w' => e = .returned (.bool true) ∧ Frame w w' [] := by
  have H := Lib.hid h
  have hne : ∀ i, (refusedN s i != refusedN t i) = false := fun i => by rw [h.like.refused i]; simp
  have HR : Hid (∀ i, readL s i = readL t i) := Lib.hid (fun i => h.like.read i)
  have hd : (s.down == t.down) = true := by rw [h.like.down]; simp
  clear h
  go_enter Try.func9, Try.ntmps9
  go_wp2_with fail
  refine wp_loop_rounds 5 ?_
  rw [rounds_succ]
  go_wp2_with fail
  refine (read_any (-1) w H.out.a).mono ?_
  rintro e w0a ⟨x0, rfl, o1, f1⟩
  have P0a := Lib.hid (H.out.frame f1)
  go_wp2_with fail
  refine (rread_any (-1) w0a P0a.out.b).mono ?_
  rintro e w0b ⟨y0, rfl, o2, f2⟩
  have P0b := Lib.hid (P0a.out.frame f2)
  have F0 := Lib.hid (f1.trans f2)
  have z1 := run_str (readL s (-1)) ((Rd.of_own o1).frame f2 (by simp))
  have z2 := run_str (readL t (-1)) (Rd.of_own o2)
  rw [← HR.out (-1)] at z2
  clear o1 o2 f1 f2
  go_wp2_with fail
  clear z1 z2
  rw [rounds_succ]
  go_wp2_with fail
  refine (read_any 0 w0b P0b.out.a).mono ?_
  rintro e w1a ⟨x1, rfl, o1, f1⟩
  have P1a := Lib.hid (P0b.out.frame f1)
  go_wp2_with fail
  refine (rread_any 0 w1a P1a.out.b).mono ?_
  rintro e w1b ⟨y1, rfl, o2, f2⟩
  have P1b := Lib.hid (P1a.out.frame f2)
  have F1 := Lib.hid (F0.out.trans (f1.trans f2))
  have z1 := run_str (readL s 0) ((Rd.of_own o1).frame f2 (by simp))
  have z2 := run_str (readL t 0) (Rd.of_own o2)
  rw [← HR.out 0] at z2
  clear o1 o2 f1 f2
  go_wp2_with fail
  clear z1 z2
  rw [rounds_succ]
  go_wp2_with fail
  refine (read_any 1 w1b P1b.out.a).mono ?_
  rintro e w2a ⟨x2, rfl, o1, f1⟩
  have P2a := Lib.hid (P1b.out.frame f1)
  go_wp2_with fail
  refine (rread_any 1 w2a P2a.out.b).mono ?_
  rintro e w2b ⟨y2, rfl, o2, f2⟩
  have P2b := Lib.hid (P2a.out.frame f2)
  have F2 := Lib.hid (F1.out.trans (f1.trans f2))
  have z1 := run_str (readL s 1) ((Rd.of_own o1).frame f2 (by simp))
  have z2 := run_str (readL t 1) (Rd.of_own o2)
  rw [← HR.out 1] at z2
  clear o1 o2 f1 f2
  go_wp2_with fail
  clear z1 z2
  rw [rounds_succ]
  go_wp2_with fail
  refine (read_any 2 w2b P2b.out.a).mono ?_
  rintro e w3a ⟨x3, rfl, o1, f1⟩
  have P3a := Lib.hid (P2b.out.frame f1)
  go_wp2_with fail
  refine (rread_any 2 w3a P3a.out.b).mono ?_
  rintro e w3b ⟨y3, rfl, o2, f2⟩
  have P3b := Lib.hid (P3a.out.frame f2)
  have F3 := Lib.hid (F2.out.trans (f1.trans f2))
  have z1 := run_str (readL s 2) ((Rd.of_own o1).frame f2 (by simp))
  have z2 := run_str (readL t 2) (Rd.of_own o2)
  rw [← HR.out 2] at z2
  clear o1 o2 f1 f2
  go_wp2_with fail
  clear z1 z2
  rw [rounds_succ]
  go_wp2_with fail
  obtain ⟨c0, c1, c2, c3, c4, c5, fz⟩ := P3b.out.b.cells
  go_quiet ((go_at_call 28; exact Calls.quiet_of_same ((down_any (w3b.drewN _) (P3b.out.a.frame ((Frame.refl w3b []).drewN _) (by simp))).mono fun _ _ hh => ⟨hh.1, hh.2.symm⟩)))
  go_wp2_with fail
  go_ret
  exact ⟨rfl, F3.out.drewN _⟩
end Go.Proofs.Ytaidpmflfimkgaa
