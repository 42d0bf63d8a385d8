/- Contracts of the small functions of both disks. No condition. -/
import Derived.Test.YtaidpmflfimkgaaMem
namespace Go.Proofs.Ytaidpmflfimkgaa
open Go.RowKit

/-- slices.Clone of bytes: a new row (or nil) that reads the same. -/
def ClonePost (W : World) (n : Nat) (xs : List Value) (e : Ending) (w' : World) : Prop := ∃ v', e = .returned v' ∧ w'.ownsRow W.heap.size 5 1 v' n xs ∧ Frame W w' []

set_option maxHeartbeats 400000 in
theorem clone_any (v : Value) (n : Nat) (xs : List Value) (W : World) (h : Rd W v n 1 xs) (h1 : ∀ u ∈ xs, u.oneCell' = true) (hn : n ≤ 1099511627776) :
    Calls Try.prog 13 #[v] W (ClonePost W n xs) := by
  obtain ⟨i0, hi, hz0, hz1, hz2⟩ := info_parts info_u8
  have hrd := h
  obtain ⟨hl, A, c, rfl, hnc, hc0, hcell⟩ := h
  have Hc0 := Lib.hid hc0
  clear hc0 hcell
  cases A with
  | none =>
    obtain rfl := Hc0.out rfl
    obtain rfl : n = 0 := by omega
    have hxs : xs = [] := List.eq_nil_of_length_eq_zero (by simpa using hl)
    subst hxs
    clear hrd
    have hq := fun w => Lib.run_eql_slice_nil (P := Try.prog) w 27 5 none 0 0 0 0 Try.underlying27
    go_enter Try.func13, Try.ntmps13
    go_wp2
    go_ret
    exact ⟨_, rfl, World.ownsRow_nil _ _ _ _, Frame.refl _ _⟩
  | some a =>
    have hq := fun w => Lib.run_eql_slice_nil (P := Try.prog) w 27 5 (some a) n c 0 0 Try.underlying27
    have Hl := Lib.hid hl
    clear hl
    go_enter Try.func13, Try.ntmps13
    go_wp2_with (at_builtin; refine wpList_app _ rfl (.tmp 5) (.tmp 6) _ rfl W.heap.size 5 i0 _ 1 1 Try.underlying27 hi hz0 hz1 hz2 rfl (by omega) _ 0 [] rfl ?c1 _ n xs rfl ?c2 h1 ?c3 ?c4 ?c5 ?_)
    case c1 => exact World.ownsRow_lit (size := 1) W #[] 0 (Nat.le_refl _) (Nat.zero_le _) rfl
    case c2 => exact hrd.frame ((Frame.refl W []).alloc _) (fun _ _ => by simp)
    case c3 => unfold maxLen; omega
    case c4 => omega
    case c5 => simp
    intro v' w' hown hg _ _
    go_wp2
    go_ret
    refine ⟨_, rfl, by simpa using hown, ((Frame.refl W []).alloc _).grown hg ?_⟩
    intro k hk hlt
    simp [Value.ownBlock] at hk
    omega
end Go.Proofs.Ytaidpmflfimkgaa
