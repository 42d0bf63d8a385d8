/- The law's 'call', all ways in one. No condition. -/
import Derived.Test.YtaidpmflfimkgaaT16
namespace Go.Proofs.Ytaidpmflfimkgaa
open Go.RowKit

theorem spend_len (s : DS) : s.spend.b0 = s.b0 ∧ s.spend.b1 = s.b1 := ⟨spend_b0 s, spend_b1 s⟩
theorem begin_len (s : DS) (i : Int) : (s.begin_ i).2.b0 = s.b0 ∧ (s.begin_ i).2.b1 = s.b1 := by
  unfold DS.begin_
  by_cases h : i < 0 ∨ 2 ≤ i
  · simp [h]
  · cases hd : s.down
    · cases hs : s.spend.down <;> simp [h, spend_len]
    · simp [h]
/-- No file is longer than before by more than m. -/
def Grew (s s' : DS) (m : Nat) : Prop := s'.b0.length ≤ s.b0.length + m ∧ s'.b1.length ≤ s.b1.length + m
theorem Grew.refl (s : DS) (m : Nat) : Grew s s m := ⟨by omega, by omega⟩
theorem setb_len (s : DS) (i : Int) (b : List UInt8) (n : Nat) : (s.setb i b n).b0.length ≤ max s.b0.length b.length ∧ (s.setb i b n).b1.length ≤ max s.b1.length b.length := by
  unfold DS.setb
  by_cases h : i = 0
  · rw [if_pos h]; exact ⟨by simp only; omega, by simp only; omega⟩
  · rw [if_neg h]; exact ⟨by simp only; omega, by simp only; omega⟩
theorem b_in (s : DS) (i : Int) : s.b i = s.b0 ∨ s.b i = s.b1 := by
  unfold DS.b
  by_cases h : i = 0
  · exact .inl (if_pos h)
  · exact .inr (if_neg h)
theorem append_file (s : DS) (i : Int) (l : List UInt8) : Grew s (s.append i l) l.length := by
  unfold DS.append
  have hb := begin_len s i
  by_cases h : (s.begin_ i).1 = 0
  · rw [if_pos h]
    obtain ⟨hi, hk⟩ := begin_zero h
    rw [hk]
    show Grew s (s.spend.setb i (s.b i ++ l) (s.safe i)) l.length
    unfold DS.setb Grew
    rcases hi with rfl | rfl
    · simp [DS.b, spend_b1]
    · simp [DS.b, spend_b0]
  · rw [if_neg h]
    exact ⟨by rw [hb.1]; omega, by rw [hb.2]; omega⟩
theorem sync_file (s : DS) (i : Int) (m : Nat) : Grew s (s.sync i) m := by
  unfold DS.sync
  have hb := begin_len s i
  by_cases h : (s.begin_ i).1 = 0
  · rw [if_pos h]
    obtain ⟨hi, hk⟩ := begin_zero h
    rw [hk]
    show Grew s (s.spend.setb i (s.b i) (s.b i).length) m
    unfold DS.setb Grew
    rcases hi with rfl | rfl
    · simp [DS.b, spend_b1]
    · simp [DS.b, spend_b0]
  · rw [if_neg h]
    exact ⟨by rw [hb.1]; omega, by rw [hb.2]; omega⟩
theorem clear_file (s : DS) (i : Int) (m : Nat) : Grew s (s.clear_ i) m := by
  unfold DS.clear_
  have hb := begin_len s i
  by_cases h : (s.begin_ i).1 = 0
  · rw [if_pos h]
    obtain ⟨hi, hk⟩ := begin_zero h
    rw [hk]
    show Grew s (s.spend.setb i [] 0) m
    unfold DS.setb Grew
    rcases hi with rfl | rfl
    · simp [spend_b1]
    · simp [spend_b0]
  · rw [if_neg h]
    exact ⟨by rw [hb.1]; omega, by rw [hb.2]; omega⟩
theorem crash_file (s : DS) (k0 k1 : Int) (m : Nat) : Grew s (s.crash k0 k1) m :=
  ⟨Nat.le_trans (List.length_take_le' _ _) (by omega), Nat.le_trans (List.length_take_le' _ _) (by omega)⟩
theorem start_file (s : DS) (m : Nat) : Grew s s.start m := by
  unfold DS.start
  split
  · exact crash_file s 0 0 m
  · exact Grew.refl s m
theorem arm_file (s : DS) (n : Int) (m : Nat) : Grew s (s.arm n) m := Grew.refl s m

def CallAny (w : World) (B ga gb : Nat) (v0 v1 u0 u1 : Value) (s : DS) (m : Nat) (e : Ending) (w' : World) : Prop :=
  e = .returned (.bool true) ∧ ∃ s' t', PairPost w B ga gb v0 v1 u0 u1 s' t' w' ∧ Grew s s' m

theorem call_any {B ga gb : Nat} {s t : DS} {v0 v1 u0 u1 : Value} (kind file n k0 k1 : Int) (xv : Value) (l : List UInt8) (w : World) (h : Pair w B ga gb s t v0 v1 u0 u1)
    (hx : Rd w xv l.length 1 (bv l)) (hxB : 0 < l.length → ∀ k, xv.ownBlock = some k → k < B) (h0 : s.b0.length + l.length ≤ 1073741824) (h1 : s.b1.length + l.length ≤ 1073741824)
    (hn : n ≤ 9223372036854775807) (hn0 : k0 ≤ 9223372036854775807) (hn1 : k1 ≤ 9223372036854775807) :
    Calls Try.prog 8 #[.pointer (some ⟨ga, 0, none⟩), .pointer (some ⟨gb, 0, none⟩), .agg #[.int .i64 kind, .int .i64 file, .int .i64 n, xv, .int .i64 k0, .int .i64 k1]] w (CallAny w B ga gb v0 v1 u0 u1 s l.length) := by
  cases q0 : ((IntKind.u64.wrap kind).tmod 8 == 0)
  · cases q1 : ((IntKind.u64.wrap kind).tmod 8 == 1)
    · cases q2 : ((IntKind.u64.wrap kind).tmod 8 == 2)
      · cases q4 : ((IntKind.u64.wrap kind).tmod 8 == 4)
        · cases q5 : ((IntKind.u64.wrap kind).tmod 8 == 5)
          · cases q6 : ((IntKind.u64.wrap kind).tmod 8 == 6)
            · exact (call_none kind file n k0 k1 xv w h q0 q1 q2 q4 q5 q6).mono fun e w' hq => ⟨hq.1, _, _, hq.2, Grew.refl _ _⟩
            · exact (call_start kind file n k0 k1 xv w h q0 q1 q2 q4 q5 q6).mono fun e w' hq => ⟨hq.1, _, _, hq.2, start_file _ _⟩
          · exact (call_crash kind file n k0 k1 xv w h q0 q1 q2 q4 q5 hn0 hn1).mono fun e w' hq => ⟨hq.1, _, _, hq.2, crash_file _ _ _ _⟩
        · exact (call_arm kind file n k0 k1 xv w h q0 q1 q2 q4 hn).mono fun e w' hq => ⟨hq.1, _, _, hq.2, arm_file _ _ _⟩
      · exact (call_clear_ kind file n k0 k1 xv w h q0 q1 q2).mono fun e w' hq => ⟨hq.1, _, _, hq.2, clear_file _ _ _⟩
    · exact (call_sync kind file n k0 k1 xv w h q0 q1).mono fun e w' hq => ⟨hq.1, _, _, hq.2, sync_file _ _ _⟩
  · exact (call_0 kind file n k0 k1 xv l w h q0 hx hxB h0 h1).mono fun e w' hq => ⟨hq.1, _, _, hq.2, append_file _ _ _⟩
end Go.Proofs.Ytaidpmflfimkgaa
