/- Reading a delivery: the unpacker. No condition. -/
import Derived.Test.YtpkfgmebngpfkaaGreatP5
namespace Go.Proofs.YtpkfgmebngpfkaaGreat
open Go.RowKit Go

/-- The unpacker at block ub: n bytes are left, from place j of block g on. -/
structure UB (W : World) (ub g c j n : Nat) : Prop where
  blk : W.heap[ub]? = some (.cells #[.slice (some ⟨g, j, none⟩) n (c + n), .bool false] 200 (0, 0))
  cell : ∀ (i : Nat) (x : Int), body[i]? = some x → W.cell? ⟨g, i, none⟩ = some (.int .u8 x)
  ne : g ≠ ub
  cpos : 0 < c
def UPost (w : World) (ub g c j n : Nat) (x : Int) (e : Ending) (w' : World) : Prop := e = .returned (.int .i64 x) ∧ UB w' ub g c j n ∧ Frame w w' [ub]

theorem UB.step {W : World} {ub g c j n : Nat} (h : UB W ub g c j (n + 1)) : UB (W.setCell ⟨ub, 0, none⟩ (.slice (some ⟨g, j + 1, none⟩) n (c + n))) ub g c (j + 1) n :=
  ⟨heap_setCell_same _ _ 0 _ _ _ h.blk, fun i x hx => ((Frame.refl W [ub]).set _ _ (fun _ => by simp)).cell (h.cell i x hx) (by simpa using h.ne), h.ne, h.cpos⟩

def signedOk (x y : Int) : Prop := (x = 0 ∧ y = 0) ∨ (x = 2 ∧ y = 1) ∨ (x = 4 ∧ y = 2)

set_option maxRecDepth 100000 in
set_option maxHeartbeats 1000000 in
theorem take1_at (ub g c j n : Nat) (x : Int) (w : World) (h : UB w ub g c j (n + 1)) (hx : body[j]? = some x) (hb : byteOk x) :
    Calls Tryz.prog 137 #[.pointer (some ⟨ub, 0, none⟩), .func (.func 138) #[] #[]] w (UPost w ub g c (j + 1) n x) := by
  have hr := readNumber_at ⟨g, j, none⟩ (n + 1) (c + (n + 1)) x w (by omega) (h.cell j x hx) hb
  have c0 := cell_of_row _ _ 0 _ _ _ h.blk
  have c1 := cell_of_row _ _ 1 _ _ _ h.blk
  have z := frozen_of_row _ _ 0 _ _ h.blk
  have hcp := h.cpos
  have H := Lib.hid h
  clear h hx hb
  go_enter Tryz.func137, Tryz.ntmps137
  go_wp2_with (go_at_call 138; refine hr.mono ?_; rintro e w' ⟨rfl, rfl⟩)
  go_ret
  exact ⟨rfl, H.out.step, (Frame.refl _ _).set _ _ (fun _ => by simp)⟩

set_option maxRecDepth 100000 in
set_option maxHeartbeats 1000000 in
theorem take2_at (ub g c j n : Nat) (x y : Int) (w : World) (h : UB w ub g c j (n + 1)) (hx : body[j]? = some x) (hb : signedOk x y) :
    Calls Tryz.prog 137 #[.pointer (some ⟨ub, 0, none⟩), .func (.func 224) #[] #[]] w (UPost w ub g c (j + 1) n y) := by
  have hr := readSigned_at ⟨g, j, none⟩ (n + 1) (c + (n + 1)) x y w (by omega) (h.cell j x hx) hb
  have c0 := cell_of_row _ _ 0 _ _ _ h.blk
  have c1 := cell_of_row _ _ 1 _ _ _ h.blk
  have z := frozen_of_row _ _ 0 _ _ h.blk
  have hcp := h.cpos
  have H := Lib.hid h
  clear h hx hb
  go_enter Tryz.func137, Tryz.ntmps137
  go_wp2_with (go_at_call 224; refine hr.mono ?_; rintro e w' ⟨rfl, rfl⟩)
  go_ret
  exact ⟨rfl, H.out.step, (Frame.refl _ _).set _ _ (fun _ => by simp)⟩

set_option maxRecDepth 100000 in
set_option maxHeartbeats 1000000 in
theorem number_at (ub g c j n : Nat) (x : Int) (w : World) (h : UB w ub g c j (n + 1)) (hx : body[j]? = some x) (hb : byteOk x) :
    Calls Tryz.prog 79 #[.pointer (some ⟨ub, 0, none⟩)] w (UPost w ub g c (j + 1) n x) := by
  have hr := take1_at ub g c j n x w h hx hb
  clear h hx hb
  go_enter Tryz.func79, Tryz.ntmps79
  go_wp2_with (go_at_call 137; refine hr.mono ?_; rintro e w' ⟨rfl, u1, f1⟩)
  go_ret
  exact ⟨rfl, u1, f1⟩

set_option maxRecDepth 100000 in
set_option maxHeartbeats 1000000 in
theorem usigned_at (ub g c j n : Nat) (x y : Int) (w : World) (h : UB w ub g c j (n + 1)) (hx : body[j]? = some x) (hb : signedOk x y) :
    Calls Tryz.prog 139 #[.pointer (some ⟨ub, 0, none⟩)] w (UPost w ub g c (j + 1) n y) := by
  have hr := take2_at ub g c j n x y w h hx hb
  clear h hx hb
  go_enter Tryz.func139, Tryz.ntmps139
  go_wp2_with (go_at_call 137; refine hr.mono ?_; rintro e w' ⟨rfl, u1, f1⟩)
  go_ret
  exact ⟨rfl, u1, f1⟩

end Go.Proofs.YtpkfgmebngpfkaaGreat
