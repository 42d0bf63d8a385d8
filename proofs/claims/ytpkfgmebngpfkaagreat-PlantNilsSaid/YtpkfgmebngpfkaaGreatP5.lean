/- Reading a delivery: bytes, numbers. No condition. -/
import Derived.Test.YtpkfgmebngpfkaaGreatP4
namespace Go.Proofs.YtpkfgmebngpfkaaGreat
open Go.RowKit Go

set_option maxRecDepth 100000 in
set_option maxHeartbeats 1000000 in
theorem cloneB_any (a : Addr) (c : Nat) (l : List Int) (W : World) (h : Bv W (.slice (some a) l.length c) l) (hl : l.length ≤ 900) :
    Calls Tryz.prog 78 #[.slice (some a) l.length c] W (AppPost W W.heap.size (.slice none 0 0) l) := by
  obtain ⟨i0, hi0, hz0, hz1, hz2⟩ := info_parts info_u8
  have hq := fun w => Lib.run_eql_slice_nil (P := Tryz.prog) w 38 5 (some a) l.length c 0 0 Tryz.underlying38
  have Hr := Lib.hid (Bv.frame h ((Frame.refl W []).alloc (.cells #[] 5)) (by simp))
  clear h
  go_enter Tryz.func78, Tryz.ntmps78
  go_wp2_with (at_builtin; refine wpList_app _ rfl (.tmp 5) (.tmp 6) _ rfl W.heap.size 5 i0 _ 1 1 Tryz.underlying38 hi0 hz0 hz1 hz2 rfl (by omega) _ 0 [] rfl ?c1 _ l.length (ub l) rfl Hr.out (ub_one _) ?c3 ?c4 ?c5 ?_)
  case c1 => exact World.ownsRow_lit (size := 1) W #[] 0 (Nat.le_refl _) (Nat.zero_le _) rfl
  case c3 => unfold maxLen; omega
  case c4 => omega
  case c5 => simp
  intro v' w' hown hg hob _
  obtain ⟨A', c', rfl⟩ := own_len hown
  have o2 : Ob w' W.heap.size (.slice A' l.length c') l := hown
  go_wp2
  go_ret
  refine ⟨_, rfl, o2, ((Frame.refl W []).alloc _).grown hg ?_, ?_⟩
  · intro k hk hlt
    simp [Value.ownBlock] at hk
    omega
  · rcases hob with h | h
    · refine .inr ⟨_, h, Nat.le_refl _⟩
    · refine .inr ⟨_, h, by simp⟩

def EqInv (w : World) (n : Nat) (vi : Value) (wr : World) : Prop := ∃ i k : Nat, vi = .int .i64 i ∧ i ≤ n ∧ wr = w.drewN k

set_option maxRecDepth 100000 in
set_option maxHeartbeats 1000000 in
theorem equalB_any (a b : Addr) (c d : Nat) (l : List Int) (w : World) (ha : Bv w (.slice (some a) l.length c) l) (hb : Bv w (.slice (some b) l.length d) l) (hl : l.length ≤ 900) :
    Calls Tryz.prog 77 #[.slice (some a) l.length c, .slice (some b) l.length d] w fun e w' => e = .returned (.bool true) ∧ Frame w w' [] := by
  have HA := Lib.hid ha
  have HB := Lib.hid hb
  have hll : ((l.length : Int) != l.length) = false := by simp
  clear ha hb
  go_enter Tryz.func77, Tryz.ntmps77
  go_wp2_with fail
  go_loopw [13] (fun vi wr => EqInv w l.length vi wr) (fun vi _ => l.length - (intOf vi).toNat)
  case atStart => exact ⟨0, 0, rfl, Nat.zero_le _, rfl⟩
  case round =>
    obtain ⟨i, k, rfl, hi, rfl⟩ := hrel
    by_cases hlt : i < l.length
    · obtain ⟨x, hx⟩ : ∃ x, l[i]? = some x := ⟨l[i], List.getElem?_eq_getElem hlt⟩
      have hc := HA.out.cell hx
      have hd := HB.out.cell hx
      have hxx : (x != x) = false := by simp
      go_wp2_with fail
      go_quiet (fail)
      go_wp2_with fail
      exact ⟨⟨i + 1, _, by go_num, by omega, rfl⟩, by simp [intOf]; omega⟩
    · go_wp2_with fail
      go_ret
      exact ⟨rfl, (Frame.refl _ _).drewN _⟩

def byteOk (x : Int) : Prop := x = 0 ∨ x = 1 ∨ x = 2 ∨ x = 4 ∨ x = 7

set_option maxRecDepth 100000 in
set_option maxHeartbeats 1000000 in
theorem readNumber_at (a : Addr) (n c : Nat) (x : Int) (w : World) (hn : 0 < n) (hc : w.cell? a = some (.int .u8 x)) (hx : byteOk x) :
    Calls Tryz.prog 138 #[.slice (some a) n c] w fun e w' => e = .returned (.tuple #[.int .i64 x, .int .i64 1, .int .i64 0]) ∧ w = w' := by
  have hc0 : w.cell? (a.add 0) = some (.int .u8 x) := by rw [Addr.add_zero']; exact hc
  have q0 : bits BinOp.or IntKind.u64 0 0 = 0 := by kernel_rfl
  have q1 : bits BinOp.or IntKind.u64 0 1 = 1 := by kernel_rfl
  have q2 : bits BinOp.or IntKind.u64 0 2 = 2 := by kernel_rfl
  have q4 : bits BinOp.or IntKind.u64 0 4 = 4 := by kernel_rfl
  have q7 : bits BinOp.or IntKind.u64 0 7 = 7 := by kernel_rfl
  unfold byteOk at hx
  rcases hx with rfl | rfl | rfl | rfl | rfl
  all_goals
    go_enter Tryz.func138, Tryz.ntmps138
    go_wp2_with fail
    refine wp_loop_rounds 1 ?_
    rw [rounds_succ]
    go_wp2_with fail
    go_ret3
    exact ⟨rfl, rfl⟩

set_option maxRecDepth 100000 in
set_option maxHeartbeats 1000000 in
theorem readSigned_at (a : Addr) (n c : Nat) (x y : Int) (w : World) (hn : 0 < n) (hc : w.cell? a = some (.int .u8 x)) (hx : (x = 0 ∧ y = 0) ∨ (x = 2 ∧ y = 1) ∨ (x = 4 ∧ y = 2)) :
    Calls Tryz.prog 224 #[.slice (some a) n c] w fun e w' => e = .returned (.tuple #[.int .i64 y, .int .i64 1, .int .i64 0]) ∧ w = w' := by
  have hr := readNumber_at a n c x w hn hc (by unfold byteOk; omega)
  clear hc
  rcases hx with ⟨rfl, rfl⟩ | ⟨rfl, rfl⟩ | ⟨rfl, rfl⟩
  all_goals
    go_enter Tryz.func224, Tryz.ntmps224
    go_wp2_with (go_at_call 138; refine hr.mono ?_; rintro e w' ⟨rfl, rfl⟩)
    go_ret3
    exact ⟨rfl, rfl⟩
end Go.Proofs.YtpkfgmebngpfkaaGreat
