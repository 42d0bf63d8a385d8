/- The other ways of the law's 'call'. No condition. -/
import Derived.Test.YtaidpmflfimkgaaT14
namespace Go.Proofs.Ytaidpmflfimkgaa
open Go.RowKit

set_option maxRecDepth 100000 in
set_option maxHeartbeats 2000000 in
theorem call_sync {B ga gb : Nat} {s t : DS} {v0 v1 u0 u1 : Value} (kind file n k0 k1 : Int) (xv : Value) (w : World) (h : Pair w B ga gb s t v0 v1 u0 u1) (hk0 : ((IntKind.u64.wrap kind).tmod 8 == 0) = false) (hk1 : ((IntKind.u64.wrap kind).tmod 8 == 1) = true) :
    Calls Try.prog 8 #[.pointer (some ⟨ga, 0, none⟩), .pointer (some ⟨gb, 0, none⟩), .agg #[.int .i64 kind, .int .i64 file, .int .i64 n, xv, .int .i64 k0, .int .i64 k1]] w (CallPost w B ga gb v0 v1 u0 u1 (s.sync file) (t.sync file)) := by
  have hla : ∀ k, k ∈ foot ga v0 v1 → k < w.heap.size := h.a.lt
  have hlb : ∀ k, k ∈ foot gb u0 u1 → k < w.heap.size := h.b.lt
  have fA : Frame w (w.alloc (.cells #[.int .i64 kind, .int .i64 file, .int .i64 n, xv, .int .i64 k0, .int .i64 k1] 33)) [] := (Frame.refl w []).alloc _
  have kA : (w.alloc (.cells #[.int .i64 kind, .int .i64 file, .int .i64 n, xv, .int .i64 k0, .int .i64 k1] 33)).heap[w.heap.size]? = some (.cells #[.int .i64 kind, .int .i64 file, .int .i64 n, xv, .int .i64 k0, .int .i64 k1] 33 (0, 0)) := heap_alloc_new _ _
  have pA := (h.frame fA).frame (Frame.refl _ []).drew
  have nA : w.heap.size ∉ foot ga v0 v1 := fun hm => absurd (hla _ hm) (Nat.lt_irrefl _)
  have nB : w.heap.size ≠ gb := fun hm => absurd (hlb w.heap.size (by simp [foot, hm])) (Nat.lt_irrefl _)
  have hbe : ((s.begin_ file).1 == (t.begin_ file).1) = true := by rw [h.like.begin1 file]; simp
  have HL := Lib.hid (h.like.sync file)
  clear h hla hlb
  go_enter Try.func8, Try.ntmps8
  go_wp2_with fail
  generalize w.alloc (.cells #[.int .i64 kind, .int .i64 file, .int .i64 n, xv, .int .i64 k0, .int .i64 k1] 33) = WA at fA kA pA ⊢
  have e1 : WA.cell? ⟨w.heap.size, 1, none⟩ = some (.int .i64 file) := cell_of_row _ _ _ _ _ _ kA
  have PA := Lib.hid pA
  have NA := Lib.hid nA
  clear kA pA nA
  go_region_held3 (fun w' => w'.cell? ⟨w.heap.size, 1, none⟩ = some (.int .i64 file)) (go_keep)
    (first
      | (go_at_call 16; refine (sync_any file WA.drew PA.out.a).mono ?_; rintro e w1 ⟨rfl, hp⟩; have g1 := hp.cell (a := ⟨w.heap.size, 1, none⟩) e1 NA.out)
      | (go_at_call 17; refine (rsync_any file w1 (PA.out.first hp)).mono ?_; rintro e w2 ⟨rfl, hq⟩; have q1 := hq.cell (a := ⟨w.heap.size, 1, none⟩) g1 nB))
  all_goals go_wp2
  all_goals go_ret
  all_goals exact ⟨rfl, (PA.out.second hp hq HL.out).pre (fA.trans (Frame.refl WA []).drew)⟩

set_option maxRecDepth 100000 in
set_option maxHeartbeats 2000000 in
theorem call_clear_ {B ga gb : Nat} {s t : DS} {v0 v1 u0 u1 : Value} (kind file n k0 k1 : Int) (xv : Value) (w : World) (h : Pair w B ga gb s t v0 v1 u0 u1) (hk0 : ((IntKind.u64.wrap kind).tmod 8 == 0) = false) (hk1 : ((IntKind.u64.wrap kind).tmod 8 == 1) = false) (hk2 : ((IntKind.u64.wrap kind).tmod 8 == 2) = true) :
    Calls Try.prog 8 #[.pointer (some ⟨ga, 0, none⟩), .pointer (some ⟨gb, 0, none⟩), .agg #[.int .i64 kind, .int .i64 file, .int .i64 n, xv, .int .i64 k0, .int .i64 k1]] w (CallPost w B ga gb v0 v1 u0 u1 (s.clear_ file) (t.clear_ file)) := by
  have hla : ∀ k, k ∈ foot ga v0 v1 → k < w.heap.size := h.a.lt
  have hlb : ∀ k, k ∈ foot gb u0 u1 → k < w.heap.size := h.b.lt
  have fA : Frame w (w.alloc (.cells #[.int .i64 kind, .int .i64 file, .int .i64 n, xv, .int .i64 k0, .int .i64 k1] 33)) [] := (Frame.refl w []).alloc _
  have kA : (w.alloc (.cells #[.int .i64 kind, .int .i64 file, .int .i64 n, xv, .int .i64 k0, .int .i64 k1] 33)).heap[w.heap.size]? = some (.cells #[.int .i64 kind, .int .i64 file, .int .i64 n, xv, .int .i64 k0, .int .i64 k1] 33 (0, 0)) := heap_alloc_new _ _
  have pA := (h.frame fA).frame (Frame.refl _ []).drew
  have nA : w.heap.size ∉ foot ga v0 v1 := fun hm => absurd (hla _ hm) (Nat.lt_irrefl _)
  have nB : w.heap.size ≠ gb := fun hm => absurd (hlb w.heap.size (by simp [foot, hm])) (Nat.lt_irrefl _)
  have hbe : ((s.begin_ file).1 == (t.begin_ file).1) = true := by rw [h.like.begin1 file]; simp
  have HL := Lib.hid (h.like.clear_ file)
  clear h hla hlb
  go_enter Try.func8, Try.ntmps8
  go_wp2_with fail
  generalize w.alloc (.cells #[.int .i64 kind, .int .i64 file, .int .i64 n, xv, .int .i64 k0, .int .i64 k1] 33) = WA at fA kA pA ⊢
  have e1 : WA.cell? ⟨w.heap.size, 1, none⟩ = some (.int .i64 file) := cell_of_row _ _ _ _ _ _ kA
  have PA := Lib.hid pA
  have NA := Lib.hid nA
  clear kA pA nA
  go_region_held3 (fun w' => w'.cell? ⟨w.heap.size, 1, none⟩ = some (.int .i64 file)) (go_keep)
    (first
      | (go_at_call 18; refine (clear_any file WA.drew PA.out.a).mono ?_; rintro e w1 ⟨rfl, hp⟩; have g1 := hp.cell (a := ⟨w.heap.size, 1, none⟩) e1 NA.out)
      | (go_at_call 19; refine (rclear_any file w1 (PA.out.first hp)).mono ?_; rintro e w2 ⟨rfl, hq⟩; have q1 := hq.cell (a := ⟨w.heap.size, 1, none⟩) g1 nB))
  all_goals go_wp2
  all_goals go_ret
  all_goals exact ⟨rfl, (PA.out.second hp hq HL.out).pre (fA.trans (Frame.refl WA []).drew)⟩

set_option maxRecDepth 100000 in
set_option maxHeartbeats 2000000 in
theorem call_arm {B ga gb : Nat} {s t : DS} {v0 v1 u0 u1 : Value} (kind file n k0 k1 : Int) (xv : Value) (w : World) (h : Pair w B ga gb s t v0 v1 u0 u1) (hk0 : ((IntKind.u64.wrap kind).tmod 8 == 0) = false) (hk1 : ((IntKind.u64.wrap kind).tmod 8 == 1) = false) (hk2 : ((IntKind.u64.wrap kind).tmod 8 == 2) = false) (hk4 : ((IntKind.u64.wrap kind).tmod 8 == 4) = true) (hn : n ≤ 9223372036854775807) :
    Calls Try.prog 8 #[.pointer (some ⟨ga, 0, none⟩), .pointer (some ⟨gb, 0, none⟩), .agg #[.int .i64 kind, .int .i64 file, .int .i64 n, xv, .int .i64 k0, .int .i64 k1]] w (CallPost w B ga gb v0 v1 u0 u1 (s.arm n) (t.rarm n)) := by
  have hla : ∀ k, k ∈ foot ga v0 v1 → k < w.heap.size := h.a.lt
  have hlb : ∀ k, k ∈ foot gb u0 u1 → k < w.heap.size := h.b.lt
  have fA : Frame w (w.alloc (.cells #[.int .i64 kind, .int .i64 file, .int .i64 n, xv, .int .i64 k0, .int .i64 k1] 33)) [] := (Frame.refl w []).alloc _
  have kA : (w.alloc (.cells #[.int .i64 kind, .int .i64 file, .int .i64 n, xv, .int .i64 k0, .int .i64 k1] 33)).heap[w.heap.size]? = some (.cells #[.int .i64 kind, .int .i64 file, .int .i64 n, xv, .int .i64 k0, .int .i64 k1] 33 (0, 0)) := heap_alloc_new _ _
  have pA := (h.frame fA)
  have nA : w.heap.size ∉ foot ga v0 v1 := fun hm => absurd (hla _ hm) (Nat.lt_irrefl _)
  have nB : w.heap.size ≠ gb := fun hm => absurd (hlb w.heap.size (by simp [foot, hm])) (Nat.lt_irrefl _)
  have HL := Lib.hid (h.like.arm n)
  clear h hla hlb
  go_enter Try.func8, Try.ntmps8
  go_wp2_with fail
  generalize w.alloc (.cells #[.int .i64 kind, .int .i64 file, .int .i64 n, xv, .int .i64 k0, .int .i64 k1] 33) = WA at fA kA pA ⊢
  have e2 : WA.cell? ⟨w.heap.size, 2, none⟩ = some (.int .i64 n) := cell_of_row _ _ _ _ _ _ kA
  have PA := Lib.hid pA
  have NA := Lib.hid nA
  clear kA pA nA
  go_wp2_with (first
    | (go_at_call 20; refine (arm_any n WA PA.out.a hn).mono ?_; rintro e w1 ⟨rfl, hp⟩; have g2 := hp.cell (a := ⟨w.heap.size, 2, none⟩) e2 NA.out)
    | (go_at_call 21; refine (rarm_any n w1 (PA.out.first hp) hn).mono ?_; rintro e w2 ⟨rfl, hq⟩))
  all_goals go_wp2
  all_goals go_ret
  all_goals exact ⟨rfl, (PA.out.second hp hq HL.out).pre (fA)⟩

set_option maxRecDepth 100000 in
set_option maxHeartbeats 2000000 in
theorem call_crash {B ga gb : Nat} {s t : DS} {v0 v1 u0 u1 : Value} (kind file n k0 k1 : Int) (xv : Value) (w : World) (h : Pair w B ga gb s t v0 v1 u0 u1) (hk0 : ((IntKind.u64.wrap kind).tmod 8 == 0) = false) (hk1 : ((IntKind.u64.wrap kind).tmod 8 == 1) = false) (hk2 : ((IntKind.u64.wrap kind).tmod 8 == 2) = false) (hk4 : ((IntKind.u64.wrap kind).tmod 8 == 4) = false) (hk5 : ((IntKind.u64.wrap kind).tmod 8 == 5) = true) (hn0 : k0 ≤ 9223372036854775807) (hn1 : k1 ≤ 9223372036854775807) :
    Calls Try.prog 8 #[.pointer (some ⟨ga, 0, none⟩), .pointer (some ⟨gb, 0, none⟩), .agg #[.int .i64 kind, .int .i64 file, .int .i64 n, xv, .int .i64 k0, .int .i64 k1]] w (CallPost w B ga gb v0 v1 u0 u1 (s.crash k0 k1) (t.crash k0 k1)) := by
  have hla : ∀ k, k ∈ foot ga v0 v1 → k < w.heap.size := h.a.lt
  have hlb : ∀ k, k ∈ foot gb u0 u1 → k < w.heap.size := h.b.lt
  have fA : Frame w (w.alloc (.cells #[.int .i64 kind, .int .i64 file, .int .i64 n, xv, .int .i64 k0, .int .i64 k1] 33)) [] := (Frame.refl w []).alloc _
  have kA : (w.alloc (.cells #[.int .i64 kind, .int .i64 file, .int .i64 n, xv, .int .i64 k0, .int .i64 k1] 33)).heap[w.heap.size]? = some (.cells #[.int .i64 kind, .int .i64 file, .int .i64 n, xv, .int .i64 k0, .int .i64 k1] 33 (0, 0)) := heap_alloc_new _ _
  have pA := (h.frame fA)
  have nA : w.heap.size ∉ foot ga v0 v1 := fun hm => absurd (hla _ hm) (Nat.lt_irrefl _)
  have nB : w.heap.size ≠ gb := fun hm => absurd (hlb w.heap.size (by simp [foot, hm])) (Nat.lt_irrefl _)
  have HL := Lib.hid (h.like.crash k0 k1)
  clear h hla hlb
  go_enter Try.func8, Try.ntmps8
  go_wp2_with fail
  generalize w.alloc (.cells #[.int .i64 kind, .int .i64 file, .int .i64 n, xv, .int .i64 k0, .int .i64 k1] 33) = WA at fA kA pA ⊢
  have e4 : WA.cell? ⟨w.heap.size, 4, none⟩ = some (.int .i64 k0) := cell_of_row _ _ _ _ _ _ kA
  have e5 : WA.cell? ⟨w.heap.size, 5, none⟩ = some (.int .i64 k1) := cell_of_row _ _ _ _ _ _ kA
  have PA := Lib.hid pA
  have NA := Lib.hid nA
  clear kA pA nA
  go_wp2_with (first
    | (go_at_call 22; refine (crash_any k0 k1 WA PA.out.a hn0 hn1).mono ?_; rintro e w1 ⟨rfl, hp⟩; have g4 := hp.cell (a := ⟨w.heap.size, 4, none⟩) e4 NA.out; have g5 := hp.cell (a := ⟨w.heap.size, 5, none⟩) e5 NA.out)
    | (go_at_call 23; refine (rcrash_any k0 k1 w1 (PA.out.first hp) hn0 hn1).mono ?_; rintro e w2 ⟨rfl, hq⟩))
  all_goals go_wp2
  all_goals go_ret
  all_goals exact ⟨rfl, (PA.out.second hp hq HL.out).pre (fA)⟩

set_option maxRecDepth 100000 in
set_option maxHeartbeats 2000000 in
theorem call_start {B ga gb : Nat} {s t : DS} {v0 v1 u0 u1 : Value} (kind file n k0 k1 : Int) (xv : Value) (w : World) (h : Pair w B ga gb s t v0 v1 u0 u1) (hk0 : ((IntKind.u64.wrap kind).tmod 8 == 0) = false) (hk1 : ((IntKind.u64.wrap kind).tmod 8 == 1) = false) (hk2 : ((IntKind.u64.wrap kind).tmod 8 == 2) = false) (hk4 : ((IntKind.u64.wrap kind).tmod 8 == 4) = false) (hk5 : ((IntKind.u64.wrap kind).tmod 8 == 5) = false) (hk6 : ((IntKind.u64.wrap kind).tmod 8 == 6) = true) :
    Calls Try.prog 8 #[.pointer (some ⟨ga, 0, none⟩), .pointer (some ⟨gb, 0, none⟩), .agg #[.int .i64 kind, .int .i64 file, .int .i64 n, xv, .int .i64 k0, .int .i64 k1]] w (CallPost w B ga gb v0 v1 u0 u1 s.start t.start) := by
  have hla : ∀ k, k ∈ foot ga v0 v1 → k < w.heap.size := h.a.lt
  have hlb : ∀ k, k ∈ foot gb u0 u1 → k < w.heap.size := h.b.lt
  have fA : Frame w (w.alloc (.cells #[.int .i64 kind, .int .i64 file, .int .i64 n, xv, .int .i64 k0, .int .i64 k1] 33)) [] := (Frame.refl w []).alloc _
  have kA : (w.alloc (.cells #[.int .i64 kind, .int .i64 file, .int .i64 n, xv, .int .i64 k0, .int .i64 k1] 33)).heap[w.heap.size]? = some (.cells #[.int .i64 kind, .int .i64 file, .int .i64 n, xv, .int .i64 k0, .int .i64 k1] 33 (0, 0)) := heap_alloc_new _ _
  have pA := (h.frame fA)
  have nA : w.heap.size ∉ foot ga v0 v1 := fun hm => absurd (hla _ hm) (Nat.lt_irrefl _)
  have nB : w.heap.size ≠ gb := fun hm => absurd (hlb w.heap.size (by simp [foot, hm])) (Nat.lt_irrefl _)
  have HL := Lib.hid (h.like.start)
  clear h hla hlb
  go_enter Try.func8, Try.ntmps8
  go_wp2_with fail
  generalize w.alloc (.cells #[.int .i64 kind, .int .i64 file, .int .i64 n, xv, .int .i64 k0, .int .i64 k1] 33) = WA at fA kA pA ⊢
  have PA := Lib.hid pA
  have NA := Lib.hid nA
  clear kA pA nA
  go_wp2_with (first
    | (go_at_call 24; refine (start_any WA PA.out.a).mono ?_; rintro e w1 ⟨rfl, hp⟩)
    | (go_at_call 25; refine (rstart_any w1 (PA.out.first hp)).mono ?_; rintro e w2 ⟨rfl, hq⟩))
  all_goals go_wp2
  all_goals go_ret
  all_goals exact ⟨rfl, (PA.out.second hp hq HL.out).pre (fA)⟩

theorem Pair.stay {w w' : World} {B ga gb : Nat} {s t : DS} {v0 v1 u0 u1 : Value} (h : Pair w B ga gb s t v0 v1 u0 u1) (hf : Frame w w' []) : PairPost w B ga gb v0 v1 u0 u1 s t w' :=
  ⟨v0, v1, u0, u1, h.frame hf, hf.sub _, fun _ hk => .inl hk, fun _ hk => .inl hk⟩

set_option maxRecDepth 100000 in
set_option maxHeartbeats 2000000 in
theorem call_none {B ga gb : Nat} {s t : DS} {v0 v1 u0 u1 : Value} (kind file n k0 k1 : Int) (xv : Value) (w : World) (h : Pair w B ga gb s t v0 v1 u0 u1) (hk0 : ((IntKind.u64.wrap kind).tmod 8 == 0) = false) (hk1 : ((IntKind.u64.wrap kind).tmod 8 == 1) = false) (hk2 : ((IntKind.u64.wrap kind).tmod 8 == 2) = false) (hk4 : ((IntKind.u64.wrap kind).tmod 8 == 4) = false) (hk5 : ((IntKind.u64.wrap kind).tmod 8 == 5) = false) (hk6 : ((IntKind.u64.wrap kind).tmod 8 == 6) = false) :
    Calls Try.prog 8 #[.pointer (some ⟨ga, 0, none⟩), .pointer (some ⟨gb, 0, none⟩), .agg #[.int .i64 kind, .int .i64 file, .int .i64 n, xv, .int .i64 k0, .int .i64 k1]] w (CallPost w B ga gb v0 v1 u0 u1 s t) := by
  have H := Lib.hid h
  clear h
  go_enter Try.func8, Try.ntmps8
  go_wp2_with fail
  go_ret
  exact ⟨rfl, H.out.stay ((Frame.refl w []).alloc _)⟩
end Go.Proofs.Ytaidpmflfimkgaa
