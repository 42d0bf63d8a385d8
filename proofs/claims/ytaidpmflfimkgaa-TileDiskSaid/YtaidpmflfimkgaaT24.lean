/- TileDisk's walk. No condition. -/
import Derived.Test.YtaidpmflfimkgaaT22
import Derived.Test.YtaidpmflfimkgaaT23
namespace Go.Proofs.Ytaidpmflfimkgaa
open Go.RowKit

/-- What the script's elements are, in the world w with B blocks. -/
def ScriptAt (w : World) (B b off : Nat) (n : Nat) : Prop :=
  b < B ∧ ∀ k, k < n → ∃ (kind file m k0 k1 : Int) (xv : Value) (l : List UInt8),
    w.cell? ⟨b, off + k * 6, none⟩ = some (.int .i64 kind) ∧ w.cell? ⟨b, off + k * 6 + 1, none⟩ = some (.int .i64 file) ∧ w.cell? ⟨b, off + k * 6 + 2, none⟩ = some (.int .i64 m) ∧ w.cell? ⟨b, off + k * 6 + 3, none⟩ = some xv ∧
    w.cell? ⟨b, off + k * 6 + 4, none⟩ = some (.int .i64 k0) ∧ w.cell? ⟨b, off + k * 6 + 5, none⟩ = some (.int .i64 k1) ∧ Rd w xv l.length 1 (bv l) ∧ (0 < l.length → ∀ g, xv.ownBlock = some g → g < B) ∧
    m ≤ 9223372036854775807 ∧ k0 ≤ 9223372036854775807 ∧ k1 ≤ 9223372036854775807 ∧ l.length ≤ 9223372036854775807

/-- The two disks that a fork has left, apart from those with which the script goes on. -/
def LeftIs (w : World) (B ga gb : Nat) (v0 v1 u0 u1 vl vw : Value) : Prop :=
  (vl = .pointer none ∧ vw = .pointer none) ∨ ∃ gl gw s t x0 x1 y0 y1, vl = .pointer (some ⟨gl, 0, none⟩) ∧ vw = .pointer (some ⟨gw, 0, none⟩) ∧ Pair w B gl gw s t x0 x1 y0 y1 ∧
    ∀ k, (k ∈ foot gl x0 x1 ∨ k ∈ foot gw y0 y1) → k ∉ foot ga v0 v1 ∧ k ∉ foot gb u0 u1

def Inv (w : World) (n : Nat) (va vb vl vw i : Value) (wr : World) : Prop :=
  ∃ (k ga gb : Nat) (s t : DS) (v0 v1 u0 u1 : Value), k ≤ n ∧ i = .int .i64 k ∧ va = .pointer (some ⟨ga, 0, none⟩) ∧ vb = .pointer (some ⟨gb, 0, none⟩) ∧ Pair wr w.heap.size ga gb s t v0 v1 u0 u1 ∧ Frame w wr [] ∧
    s.b0.length ≤ 64 * k ∧ s.b1.length ≤ 64 * k ∧ LeftIs wr w.heap.size ga gb v0 v1 u0 u1 vl vw

theorem LeftIs.frame {w w' : World} {B ga gb : Nat} {v0 v1 u0 u1 vl vw : Value} (h : LeftIs w B ga gb v0 v1 u0 u1 vl vw) (hf : Frame w w' []) : LeftIs w' B ga gb v0 v1 u0 u1 vl vw := by
  rcases h with h | ⟨gl, gw, s, t, x0, x1, y0, y1, h1, h2, hp, hn⟩
  · exact .inl h
  · exact .inr ⟨gl, gw, s, t, x0, x1, y0, y1, h1, h2, hp.frame hf, hn⟩
/-- A call of the disks with which the script goes on leaves those that a fork has left. -/
theorem LeftIs.call {w w' : World} {B ga gb : Nat} {v0 v1 u0 u1 v0' v1' u0' u1' vl vw : Value} (h : LeftIs w B ga gb v0 v1 u0 u1 vl vw) (hf : Frame w w' (foot ga v0 v1 ++ [gb])) (h1 : ∀ k, k ∈ foot ga v0' v1' → k ∈ foot ga v0 v1 ∨ w.heap.size ≤ k) (h2 : ∀ k, k ∈ foot gb u0' u1' → k ∈ foot gb u0 u1 ∨ w.heap.size ≤ k) :
    LeftIs w' B ga gb v0' v1' u0' u1' vl vw := by
  rcases h with h | ⟨gl, gw, s, t, x0, x1, y0, y1, e1, e2, hp, hn⟩
  · exact .inl h
  · have hn' : ∀ k, (k ∈ foot gl x0 x1 ∨ k ∈ foot gw y0 y1) → k ∉ foot ga v0 v1 ++ [gb] := by
      intro k hk hm
      rcases List.mem_append.1 hm with hm | hm
      · exact (hn k hk).1 hm
      · simp at hm
        exact (hn k hk).2 (by simp [foot, hm])
    have hlt : ∀ k, (k ∈ foot gl x0 x1 ∨ k ∈ foot gw y0 y1) → k < w.heap.size := fun k hk => hk.elim (hp.a.lt k) (hp.b.lt k)
    refine .inr ⟨gl, gw, s, t, x0, x1, y0, y1, e1, e2, ⟨hp.a.frame hf (fun k hk => hn' k (.inl hk)), hp.b.frame hf (fun k hk => hn' k (.inr hk)), hp.like, hp.apart⟩, fun k hk => ⟨fun hm => ?_, fun hm => ?_⟩⟩
    · rcases h1 k hm with hm | hm
      · exact (hn k hk).1 hm
      · exact absurd (hlt k hk) (Nat.not_lt.2 hm)
    · rcases h2 k hm with hm | hm
      · exact (hn k hk).2 hm
      · exact absurd (hlt k hk) (Nat.not_lt.2 hm)
theorem Frame.low {w wr w' : World} {F : List Nat} (h : Frame w wr []) (hf : Frame wr w' F) (hF : ∀ k, k ∈ F → w.heap.size ≤ k) : Frame w w' [] :=
  (h.mono (G := F) (fun k _ hk => by simp at hk)).trans hf |>.mono fun k hk hm => absurd (hF k hm) (Nat.not_le.2 hk)
theorem Pair.low {w : World} {B ga gb : Nat} {s t : DS} {v0 v1 u0 u1 : Value} (h : Pair w B ga gb s t v0 v1 u0 u1) : ∀ k, k ∈ foot ga v0 v1 ++ [gb] → B ≤ k := by
  intro k hk
  rcases List.mem_append.1 hk with hk | hk
  · exact h.a.low k hk
  · simp at hk
    subst hk
    exact h.b.low k (by simp [foot])

/-- A new pair of disks is alike and apart. -/
theorem Inv.start {w w1 : World} {n ga : Nat} {v0 v1 : Value} (ta : TD w1 w.heap.size ga ⟨[], [], 0, 0, false, 0⟩ v0 v1) (f1 : Frame w w1 []) :
    Inv w n (.pointer (some ⟨ga, 0, none⟩)) (.pointer (some ⟨w1.heap.size, 0, none⟩)) (.pointer none) (.pointer none) (.int .i64 0) (w1.alloc (.cells #[.slice none 0 0, .slice none 0 0, .int .i64 0, .int .i64 0, .bool false, .int .i64 0] 31)) := by
  have fa : Frame w1 (w1.alloc (.cells #[.slice none 0 0, .slice none 0 0, .int .i64 0, .int .i64 0, .bool false, .int .i64 0] 31)) [] := (Frame.refl w1 []).alloc _
  refine ⟨0, ga, w1.heap.size, ⟨[], [], 0, 0, false, 0⟩, ⟨[], [], 0, 0, false, 0⟩, v0, v1, .slice none 0 0, .slice none 0 0, Nat.zero_le _, rfl, rfl, rfl, ⟨ta.frame fa (by simp), ⟨⟨heap_alloc_new _ _, World.ownsRow_nil _ _ _ _, World.ownsRow_nil _ _ _ _, f1.size⟩, Nat.le_refl _, Nat.le_refl _, by simp, by simp, by simp⟩, Like.refl _, ?_⟩, f1.trans fa, by simp, by simp, .inl ⟨rfl, rfl⟩⟩
  intro k hk hk'
  have := ta.lt k hk
  simp [foot, Value.ownBlock] at hk'
  omega

set_option maxRecDepth 100000 in
set_option maxHeartbeats 400000 in
theorem tileDisk_long (A : Option Addr) (n c : Nat) (w : World) (hn : 60 < n) (hm : n ≤ 9223372036854775807) :
    Calls Try.prog 3 #[.slice A n c] w fun e w' => e = .returned (.bool true) ∧ Frame w w' [] := by
  go_enter Try.func3, Try.ntmps3
  go_wp2_with (go_at_call 4; refine (awake_any _).mono ?_; rintro e w1 ⟨rfl, f1⟩)
  go_ret
  exact ⟨rfl, f1⟩

set_option maxRecDepth 100000 in
set_option maxHeartbeats 4000000 in
theorem tileDisk_any (b off : Nat) (n c : Nat) (w : World) (hn : n ≤ 60) (hs : ScriptAt w w.heap.size b off n) :
    Calls Try.prog 3 #[.slice (some ⟨b, off, none⟩) n c] w fun e w' => e = .returned (.bool true) ∧ Frame w w' [] := by
  have HS := Lib.hid hs
  clear hs
  go_enter Try.func3, Try.ntmps3
  go_wp2_with (go_at_call 5; refine (newDisk_any _).mono ?_; rintro e w1 ⟨ga, v0, v1, rfl, ta, f1, hk1⟩)
  go_loopw [3, 4, 5, 6, 20] (fun va vb vl vw i wr => Inv w n va vb vl vw i wr) (fun _ _ _ _ i _ => n - (intOf i).toNat)
  case atStart => exact Inv.start ta f1
  case round =>
    obtain ⟨k, ga', gb, s, t, x0, x1, u0, u1, hk, rfl, rfl, rfl, hp, hf, hl0, hl1, hleft⟩ := hrel
    by_cases hlt : k < n
    · obtain ⟨kind, file, m, k0, k1, xv, l, e0, e1, e2, e3, e4, e5, hx, hxB, hm, hk0, hk1', hll⟩ := HS.out.2 k hlt
      have hb : b < w.heap.size := HS.out.1
      have c0 := hf.cell e0 (by simp)
      have c1 := hf.cell e1 (by simp)
      have c2 := hf.cell e2 (by simp)
      have c3 := hf.cell e3 (by simp)
      have c4 := hf.cell e4 (by simp)
      have c5 := hf.cell e5 (by simp)
      have hbr : b < wr.heap.size := Nat.lt_of_lt_of_le hb hf.size
      have hxl := hx
      obtain ⟨hx1, X, xc, rfl, hx2, hx3, hx4⟩ := hx
      have HX := Lib.hid (hxl.frame hf (by simp))
      have HXB := Lib.hid hxB
      have HP := Lib.hid hp
      have HF := Lib.hid hf
      have HL := Lib.hid hleft
      clear e0 e1 e2 e3 e4 e5 hxB hp hf hleft hx1 hx2 hx3 hx4 hxl
      by_cases h64 : 64 < l.length
      · go_wp2_with (go_at_call 4; refine (awake_any _).mono ?_; rintro e w3 ⟨rfl, f3⟩)
        go_ret
        exact ⟨rfl, HF.out.trans (((Frame.refl wr []).alloc _).trans f3)⟩
      · have h64' : l.length ≤ 64 := by omega
        have fA : Frame wr (wr.alloc (.cells #[.int .i64 kind, .int .i64 file, .int .i64 m, (.slice X l.length xc), .int .i64 k0, .int .i64 k1] 33)) [] := (Frame.refl wr []).alloc _
        have kA : (wr.alloc (.cells #[.int .i64 kind, .int .i64 file, .int .i64 m, (.slice X l.length xc), .int .i64 k0, .int .i64 k1] 33)).heap[wr.heap.size]? = some (.cells #[.int .i64 kind, .int .i64 file, .int .i64 m, (.slice X l.length xc), .int .i64 k0, .int .i64 k1] 33 (0, 0)) := heap_alloc_new _ _
        cases q7 : ((IntKind.u64.wrap kind).tmod 8 == 7)
        · go_wp2_with fail
          generalize wr.alloc (.cells #[.int .i64 kind, .int .i64 file, .int .i64 m, (.slice X l.length xc), .int .i64 k0, .int .i64 k1] 33) = wA at fA kA ⊢
          refine (call_any kind file m k0 k1 (.slice X l.length xc) l wA (HP.out.frame fA) (HX.out.frame fA (by simp)) HXB.out (by omega) (by omega) hm hk0 hk1').mono ?_
          rintro e w2 ⟨rfl, s', t', hpp, hgr⟩
          obtain ⟨x0', x1', u0', u1', hp', hf', hn1, hn2⟩ := hpp
          have HP2 := Lib.hid hp'
          have HL2 := Lib.hid ((HL.out.frame fA).call hf' hn1 hn2)
          have HF2 := Lib.hid ((HF.out.trans fA).low hf' (HP.out.frame fA).low)
          clear hp' hf' hn1 hn2
          go_wp2_with (go_at_call 9; refine (alike_any _ HP2.out).mono ?_; rintro e w3 ⟨rfl, f3⟩)
          go_roundw
          case rel => exact ⟨k + 1, ga', gb, s', t', x0', x1', u0', u1', by omega, by go_num, rfl, rfl, HP2.out.frame f3, HF2.out.trans f3, by have := hgr.1; omega, by have := hgr.2; omega, HL2.out.frame f3⟩
          case measure => simp [intOf]; omega
        · go_wp2_with fail
          generalize wr.alloc (.cells #[.int .i64 kind, .int .i64 file, .int .i64 m, (.slice X l.length xc), .int .i64 k0, .int .i64 k1] 33) = wA at fA kA ⊢
          have hbA : ∀ j u, (#[Value.int .i64 kind, .int .i64 file, .int .i64 m, (.slice X l.length xc), .int .i64 k0, .int .i64 k1] : Array Value)[j]? = some u → wA.cell? ⟨wr.heap.size, j, none⟩ = some u := fun j u hu => (cell_of_row _ _ _ _ _ _ kA).trans hu
          have PA := Lib.hid (HP.out.frame fA)
          refine (fork_any wA PA.out.a).mono ?_
          rintro e w2 ⟨na, y0, y1, rfl, td, f2, hk2⟩
          have TDn := Lib.hid td
          have P2 := Lib.hid (PA.out.frame f2)
          go_wp2_with fail
          refine (rfork_any w2 P2.out.b).mono ?_
          rintro e w4 ⟨nb, z0, z1, rfl, rd, f4, hk4⟩
          have f24 := f2.trans f4
          have FA := Lib.hid (fA.trans f24)
          have P4 := Lib.hid (P2.out.frame f4)
          have PN := Lib.hid (show Pair w4 w.heap.size na nb s t y0 y1 z0 z1 from ⟨TDn.out.frame f4 (by simp), rd, P4.out.like, fun q hq hq' => absurd (TDn.out.lt q hq) (Nat.not_lt.2 (hk4 q hq'))⟩)
          have LN := Lib.hid (show LeftIs w4 w.heap.size na nb y0 y1 z0 z1 (.pointer (some ⟨ga', 0, none⟩)) (.pointer (some ⟨gb, 0, none⟩)) from
            .inr ⟨ga', gb, s, t, x0, x1, u0, u1, rfl, rfl, P4.out, fun q hq => ⟨fun hm => absurd (hq.elim (PA.out.a.lt q) (PA.out.b.lt q)) (Nat.not_lt.2 (hk2 q hm)), fun hm => absurd (hq.elim (PA.out.a.lt q) (PA.out.b.lt q)) (Nat.not_lt.2 (Nat.le_trans f2.size (hk4 q hm)))⟩⟩)
          have g0 := f24.cell (hbA 0 _ rfl) (by simp)
          have g1 := f24.cell (hbA 1 _ rfl) (by simp)
          have g2 := f24.cell (hbA 2 _ rfl) (by simp)
          have g3 := f24.cell (hbA 3 _ rfl) (by simp)
          have g4 := f24.cell (hbA 4 _ rfl) (by simp)
          have g5 := f24.cell (hbA 5 _ rfl) (by simp)
          clear td rd f2 f4 f24 hk2 hk4 hbA kA
          go_wp2_with fail
          refine (call_any kind file m k0 k1 (.slice X l.length xc) l w4 PN.out (HX.out.frame FA.out (by simp)) HXB.out (by omega) (by omega) hm hk0 hk1').mono ?_
          rintro e w5 ⟨rfl, s', t', hpp, hgr⟩
          obtain ⟨x0', x1', u0', u1', hp', hf', hn1, hn2⟩ := hpp
          have HP2 := Lib.hid hp'
          have HL2 := Lib.hid (LN.out.call hf' hn1 hn2)
          have HF2 := Lib.hid ((HF.out.trans FA.out).low hf' PN.out.low)
          clear hp' hf' hn1 hn2
          go_wp2_with (go_at_call 9; refine (alike_any _ HP2.out).mono ?_; rintro e w3 ⟨rfl, f3⟩)
          go_roundw
          case rel => exact ⟨k + 1, na, nb, s', t', x0', x1', u0', u1', by omega, by go_num, rfl, rfl, HP2.out.frame f3, HF2.out.trans f3, by have := hgr.1; omega, by have := hgr.2; omega, HL2.out.frame f3⟩
          case measure => simp [intOf]; omega
    · have hge : n ≤ k := by omega
      have HP := Lib.hid hp
      have HF := Lib.hid hf
      clear hp hf
      rcases hleft with ⟨rfl, rfl⟩ | ⟨gl, gw, s', t', z0, z1, y0, y1, rfl, rfl, hpl, _⟩
      · go_wp2_with (first
          | (go_at_call 4; refine (awake_any _).mono ?_; rintro e w3 ⟨rfl, f3⟩))
        go_ret
        exact ⟨rfl, HF.out.trans f3⟩
      · have HL := Lib.hid hpl
        clear hpl
        go_wp2_with (first
          | (go_at_call 9; refine (alike_any _ HL.out).mono ?_; rintro e w2 ⟨rfl, f2⟩)
          | (go_at_call 4; refine (awake_any _).mono ?_; rintro e w3 ⟨rfl, f3⟩))
        go_ret
        exact ⟨rfl, HF.out.trans (f2.trans f3)⟩

set_option maxRecDepth 100000 in
set_option maxHeartbeats 1000000 in
theorem tileDisk_zero (A : Option Addr) (c : Nat) (w : World) :
    Calls Try.prog 3 #[.slice A 0 c] w fun e w' => e = .returned (.bool true) ∧ Frame w w' [] := by
  go_enter Try.func3, Try.ntmps3
  go_wp2_with (go_at_call 5; refine (newDisk_any _).mono ?_; rintro e w1 ⟨ga, v0, v1, rfl, ta, f1, hk1⟩)
  refine wp_loop_rounds 1 ?_
  rw [rounds_succ]
  go_wp2_with (go_at_call 4; refine (awake_any _).mono ?_; rintro e w3 ⟨rfl, f3⟩)
  go_ret
  exact ⟨rfl, f1.trans (((Frame.refl w1 []).alloc _).trans f3)⟩
end Go.Proofs.Ytaidpmflfimkgaa
