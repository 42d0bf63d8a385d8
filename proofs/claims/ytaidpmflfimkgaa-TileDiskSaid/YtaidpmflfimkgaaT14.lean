/- The law's 'call': both disks alike. No condition. -/
import Derived.Test.YtaidpmflfimkgaaT13
namespace Go.Proofs.Ytaidpmflfimkgaa
open Go.RowKit

/-- The two disks are alike: all but the armed number, which is alike where they are up. -/
structure Like (s t : DS) : Prop where
  b0 : s.b0 = t.b0
  b1 : s.b1 = t.b1
  s0 : s.s0 = t.s0
  s1 : s.s1 = t.s1
  down : s.down = t.down
  left : s.down = false → s.left = t.left

theorem Like.eq {s t : DS} (h : Like s t) (hd : s.down = false) : s = t := by
  obtain ⟨h0, h1, h2, h3, h4, h5⟩ := h
  cases s; cases t
  simp_all
theorem Like.refl (s : DS) : Like s s := ⟨rfl, rfl, rfl, rfl, rfl, fun _ => rfl⟩
theorem Like.up {s t : DS} (h : Like s t) : s = t ∨ (s.down = true ∧ t.down = true) := by
  cases hd : s.down
  · exact .inl (h.eq hd)
  · exact .inr ⟨rfl, h.down ▸ hd⟩
theorem begin_down {s : DS} (i : Int) (h : s.down = true) : (s.begin_ i).2 = s ∧ (s.begin_ i).1 = (if i < 0 ∨ 2 ≤ i then 2 else 82) := by
  unfold DS.begin_
  by_cases hi : i < 0 ∨ 2 ≤ i <;> simp [hi, h]
theorem Like.begin1 {s t : DS} (h : Like s t) (i : Int) : (s.begin_ i).1 = (t.begin_ i).1 := by
  rcases h.up with rfl | ⟨h1, h2⟩
  · rfl
  · rw [(begin_down i h1).2, (begin_down i h2).2]
theorem op_down {s : DS} (i : Int) (h : s.down = true) (l : List UInt8) : s.append i l = s ∧ s.sync i = s ∧ s.clear_ i = s := by
  have hb := begin_down i h
  have hn : (s.begin_ i).1 ≠ 0 := by
    rw [hb.2]
    split <;> simp
  refine ⟨?_, ?_, ?_⟩
  · unfold DS.append; rw [if_neg hn]; exact hb.1
  · unfold DS.sync; rw [if_neg hn]; exact hb.1
  · unfold DS.clear_; rw [if_neg hn]; exact hb.1
theorem Like.append {s t : DS} (h : Like s t) (i : Int) (l : List UInt8) : Like (s.append i l) (t.append i l) := by
  rcases h.up with rfl | ⟨h1, h2⟩
  · exact Like.refl _
  · rw [(op_down i h1 l).1, (op_down i h2 l).1]; exact h
theorem Like.sync {s t : DS} (h : Like s t) (i : Int) : Like (s.sync i) (t.sync i) := by
  rcases h.up with rfl | ⟨h1, h2⟩
  · exact Like.refl _
  · rw [(op_down i h1 []).2.1, (op_down i h2 []).2.1]; exact h
theorem Like.clear_ {s t : DS} (h : Like s t) (i : Int) : Like (s.clear_ i) (t.clear_ i) := by
  rcases h.up with rfl | ⟨h1, h2⟩
  · exact Like.refl _
  · rw [(op_down i h1 []).2.2, (op_down i h2 []).2.2]; exact h
theorem Like.arm {s t : DS} (h : Like s t) (n : Int) : Like (s.arm n) (t.rarm n) := by
  unfold DS.rarm
  rcases h.up with rfl | ⟨h1, h2⟩
  · cases hd : s.down
    · exact Like.refl _
    · exact ⟨rfl, rfl, rfl, rfl, rfl, fun hq => by
        have : s.down = false := hq
        rw [hd] at this
        cases this⟩
  · rw [if_pos h2]
    exact ⟨h.b0, h.b1, h.s0, h.s1, h.down, fun hq => by
      have : s.down = false := hq
      rw [h1] at this
      cases this⟩
theorem Like.crash {s t : DS} (h : Like s t) (k0 k1 : Int) : Like (s.crash k0 k1) (t.crash k0 k1) := by
  unfold DS.crash
  rw [h.b0, h.b1, h.s0, h.s1]
  exact Like.refl _
theorem Like.start {s t : DS} (h : Like s t) : Like s.start t.start := by
  unfold DS.start
  rcases h.up with rfl | ⟨h1, h2⟩
  · exact Like.refl _
  · rw [if_pos h1, if_pos h2]
    unfold DS.crash
    rw [h.b0, h.b1, h.s0, h.s1]
    exact Like.refl _

/-- Both disks, apart in memory. -/
structure Pair (w : World) (B ga gb : Nat) (s t : DS) (v0 v1 u0 u1 : Value) : Prop where
  a : TD w B ga s v0 v1
  b : RD w B gb t u0 u1
  like : Like s t
  apart : ∀ k, k ∈ foot ga v0 v1 → k ∉ foot gb u0 u1

def PairPost (w : World) (B ga gb : Nat) (v0 v1 u0 u1 : Value) (s t : DS) (w' : World) : Prop :=
  ∃ v0' v1' u0' u1', Pair w' B ga gb s t v0' v1' u0' u1' ∧ Frame w w' (foot ga v0 v1 ++ [gb]) ∧ (∀ k, k ∈ foot ga v0' v1' → k ∈ foot ga v0 v1 ∨ w.heap.size ≤ k) ∧ (∀ k, k ∈ foot gb u0' u1' → k ∈ foot gb u0 u1 ∨ w.heap.size ≤ k)

/-- The first disk's call leaves the second disk. -/
theorem Pair.first {w w1 : World} {B ga gb : Nat} {s t s' : DS} {v0 v1 u0 u1 : Value} (h : Pair w B ga gb s t v0 v1 u0 u1) (hp : TDPost w B ga v0 v1 s' w1) : RD w1 B gb t u0 u1 := by
  obtain ⟨v0', v1', _, hf, _⟩ := hp
  exact h.b.frame hf (fun k hk hn => h.apart k hn hk)
theorem Pair.second {w w1 w2 : World} {B ga gb : Nat} {s t s' t' : DS} {v0 v1 u0 u1 : Value} (h : Pair w B ga gb s t v0 v1 u0 u1) (hp : TDPost w B ga v0 v1 s' w1) (hq : RDPost w1 B gb u0 u1 t' w2) (hl : Like s' t') : PairPost w B ga gb v0 v1 u0 u1 s' t' w2 := by
  obtain ⟨v0', v1', ta, hf, hk⟩ := hp
  obtain ⟨u0', u1', tb, hf2, hk2⟩ := hq
  have hgb : gb ∉ foot ga v0' v1' := by
    intro hm
    rcases hk gb hm with h1 | h1
    · exact h.apart gb h1 (by simp [foot])
    · exact absurd (h.b.lt gb (by simp [foot])) (Nat.not_lt.2 h1)
  refine ⟨v0', v1', u0', u1', ⟨ta.frame hf2 (fun k hk' => by simp; rintro rfl; exact hgb hk'), tb, hl, fun k hk' hk'' => ?_⟩, ?_, hk, fun k hk' => ?_⟩
  · rcases hk2 k hk'' with h1 | h1
    · rcases hk k hk' with h2 | h2
      · exact h.apart k h2 h1
      · exact absurd (h.b.lt k h1) (Nat.not_lt.2 h2)
    · exact absurd (ta.lt k hk') (Nat.not_lt.2 h1)
  · exact (hf.mono fun k _ hk => List.mem_append_left _ hk).trans (hf2.mono fun k _ hk => List.mem_append_right _ hk)
  · rcases hk2 k hk' with h1 | h1
    · exact .inl h1
    · exact .inr (Nat.le_trans hf.size h1)

theorem Pair.frame {w w' : World} {B ga gb : Nat} {s t : DS} {v0 v1 u0 u1 : Value} (h : Pair w B ga gb s t v0 v1 u0 u1) (hf : Frame w w' []) : Pair w' B ga gb s t v0 v1 u0 u1 :=
  ⟨h.a.frame hf (by simp), h.b.frame hf (by simp), h.like, h.apart⟩
theorem PairPost.pre {w W w' : World} {B ga gb : Nat} {s t : DS} {v0 v1 u0 u1 : Value} (hf : Frame w W []) (h : PairPost W B ga gb v0 v1 u0 u1 s t w') : PairPost w B ga gb v0 v1 u0 u1 s t w' := by
  obtain ⟨v0', v1', u0', u1', hp, hfr, h1, h2⟩ := h
  exact ⟨v0', v1', u0', u1', hp, (hf.sub _).trans hfr, fun k hk => (h1 k hk).imp id (Nat.le_trans hf.size), fun k hk => (h2 k hk).imp id (Nat.le_trans hf.size)⟩
theorem TDPost.cell {w w1 : World} {B g : Nat} {v0 v1 v : Value} {s : DS} {a : Addr} (h : TDPost w B g v0 v1 s w1) (hc : w.cell? a = some v) (hn : a.block ∉ foot g v0 v1) : w1.cell? a = some v := by
  obtain ⟨_, _, _, hf, _⟩ := h
  exact hf.cell hc hn
theorem RDPost.cell {w w1 : World} {B g : Nat} {v0 v1 v : Value} {s : DS} {a : Addr} (h : RDPost w B g v0 v1 s w1) (hc : w.cell? a = some v) (hn : a.block ≠ g) : w1.cell? a = some v := by
  obtain ⟨_, _, _, hf, _⟩ := h
  exact hf.cell hc (by simpa using hn)
theorem TDPost.rd {w w1 : World} {B g n size : Nat} {v0 v1 v : Value} {s : DS} {xs : List Value} (h : TDPost w B g v0 v1 s w1) (hc : Rd w v n size xs) (hn : 0 < n → ∀ k, v.ownBlock = some k → k ∉ foot g v0 v1) : Rd w1 v n size xs := by
  obtain ⟨_, _, _, hf, _⟩ := h
  exact hc.frame' hf hn
theorem TD.low {w : World} {B g : Nat} {s : DS} {v0 v1 : Value} (h : TD w B g s v0 v1) : ∀ k, k ∈ foot g v0 v1 → B ≤ k := by
  intro k hk
  simp only [foot, List.mem_cons, List.mem_append, Option.mem_toList] at hk
  rcases hk with rfl | hk | hk
  · exact h.hB
  · exact (h.o0.lt k hk).1
  · exact (h.o1.lt k hk).1
theorem RD.low {w : World} {B g : Nat} {s : DS} {v0 v1 : Value} (h : RD w B g s v0 v1) : ∀ k, k ∈ foot g v0 v1 → B ≤ k := by
  intro k hk
  simp only [foot, List.mem_cons, List.mem_append, Option.mem_toList] at hk
  rcases hk with rfl | hk | hk
  · exact h.hB
  · exact (h.o0.lt k hk).1
  · exact (h.o1.lt k hk).1

def CallPost (w : World) (B ga gb : Nat) (v0 v1 u0 u1 : Value) (s t : DS) (e : Ending) (w' : World) : Prop := e = .returned (.bool true) ∧ PairPost w B ga gb v0 v1 u0 u1 s t w'

set_option maxRecDepth 100000 in
set_option maxHeartbeats 2000000 in
theorem call_0 {B ga gb : Nat} {s t : DS} {v0 v1 u0 u1 : Value} (kind file n k0 k1 : Int) (xv : Value) (l : List UInt8) (w : World) (h : Pair w B ga gb s t v0 v1 u0 u1) (hk : ((IntKind.u64.wrap kind).tmod 8 == 0) = true)
    (hx : Rd w xv l.length 1 (bv l)) (hxB : 0 < l.length → ∀ k, xv.ownBlock = some k → k < B) (h0 : s.b0.length + l.length ≤ 1073741824) (h1 : s.b1.length + l.length ≤ 1073741824) :
    Calls Try.prog 8 #[.pointer (some ⟨ga, 0, none⟩), .pointer (some ⟨gb, 0, none⟩), .agg #[.int .i64 kind, .int .i64 file, .int .i64 n, xv, .int .i64 k0, .int .i64 k1]] w (CallPost w B ga gb v0 v1 u0 u1 (s.append file l) (t.append file l)) := by
  have hla : ∀ k, k ∈ foot ga v0 v1 → k < w.heap.size := h.a.lt
  have hlb : ∀ k, k ∈ foot gb u0 u1 → k < w.heap.size := h.b.lt
  have fA : Frame w (w.alloc (.cells #[.int .i64 kind, .int .i64 file, .int .i64 n, xv, .int .i64 k0, .int .i64 k1] 33)) [] := (Frame.refl w []).alloc _
  have kA : (w.alloc (.cells #[.int .i64 kind, .int .i64 file, .int .i64 n, xv, .int .i64 k0, .int .i64 k1] 33)).heap[w.heap.size]? = some (.cells #[.int .i64 kind, .int .i64 file, .int .i64 n, xv, .int .i64 k0, .int .i64 k1] 33 (0, 0)) := heap_alloc_new _ _
  have pA := (h.frame fA).frame (Frame.refl _ []).drew
  have xA := (hx.frame fA (by simp)).frame (Frame.refl _ []).drew (by simp)
  have nA : w.heap.size ∉ foot ga v0 v1 := fun hm => absurd (hla _ hm) (Nat.lt_irrefl _)
  have nB : w.heap.size ≠ gb := fun hm => absurd (hlb w.heap.size (by simp [foot, hm])) (Nat.lt_irrefl _)
  have xga : 0 < l.length → xv.ownBlock ≠ some ga := fun h0 hq => absurd (hxB h0 _ hq) (Nat.not_lt.2 h.a.hB)
  have xgb : 0 < l.length → xv.ownBlock ≠ some gb := fun h0 hq => absurd (hxB h0 _ hq) (Nat.not_lt.2 h.b.hB)
  have xfa : 0 < l.length → ∀ k, xv.ownBlock = some k → k ∉ foot ga v0 v1 := fun h0 k hq hm => absurd (hxB h0 _ hq) (Nat.not_lt.2 (h.a.low k hm))
  have hbe : ((s.begin_ file).1 == (t.begin_ file).1) = true := by rw [h.like.begin1 file]; simp
  have h0' : t.b0.length + l.length ≤ 1073741824 := by rw [← h.like.b0]; exact h0
  have h1' : t.b1.length + l.length ≤ 1073741824 := by rw [← h.like.b1]; exact h1
  have HL := Lib.hid (h.like.append file l)
  clear h hx hxB hla hlb
  go_enter Try.func8, Try.ntmps8
  go_wp2_with fail
  generalize w.alloc (.cells #[.int .i64 kind, .int .i64 file, .int .i64 n, xv, .int .i64 k0, .int .i64 k1] 33) = WA at fA kA pA xA ⊢
  have e1 : WA.cell? ⟨w.heap.size, 1, none⟩ = some (.int .i64 file) := cell_of_row _ _ _ _ _ _ kA
  have e3 : WA.cell? ⟨w.heap.size, 3, none⟩ = some xv := cell_of_row _ _ _ _ _ _ kA
  have KA := Lib.hid kA
  have PA := Lib.hid pA
  have XA := Lib.hid xA
  have NA := Lib.hid nA
  have XFA := Lib.hid xfa
  clear kA pA xA nA xfa
  go_region_held3 (fun w' => w'.cell? ⟨w.heap.size, 1, none⟩ = some (.int .i64 file) ∧ w'.cell? ⟨w.heap.size, 3, none⟩ = some xv) (go_keep)
    (first
      | (go_at_call 14; refine (append_any file xv l WA.drew PA.out.a XA.out xga h0 h1).mono ?_; rintro e w1 ⟨rfl, hp⟩; have g1 := hp.cell (a := ⟨w.heap.size, 1, none⟩) e1 NA.out; have g3 := hp.cell (a := ⟨w.heap.size, 3, none⟩) e3 NA.out)
      | (go_at_call 15; refine (rappend_any file xv l w1 (PA.out.first hp) (hp.rd XA.out XFA.out) xgb h0' h1').mono ?_; rintro e w2 ⟨rfl, hq⟩; have q1 := hq.cell (a := ⟨w.heap.size, 1, none⟩) g1 nB; have q3 := hq.cell (a := ⟨w.heap.size, 3, none⟩) g3 nB))
  all_goals go_wp2
  all_goals go_ret
  all_goals exact ⟨rfl, (PA.out.second hp hq HL.out).pre (fA.trans (Frame.refl WA []).drew)⟩
end Go.Proofs.Ytaidpmflfimkgaa
