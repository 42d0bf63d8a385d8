/- What the form's reading of an argument gives to the walk: the shape of its cells. No condition. -/
import Derived.Test.YtpkfgmebngpfkaaGreatM3
import Derived.ProofKit
import Derived.OpenShut
import Derived.Deep.Slices
import Derived.Carry
namespace Go.Proofs.YtpkfgmebngpfkaaGreat
open Go.RowKit Go Go.ChangeShapes Go.WideShapes Go.Deep

/-- Cells of a shape: true: an int; false: a slice. -/
def Fits : List Bool → List Value → Prop
  | [], cs => cs = []
  | true :: p, cs => ∃ n r, cs = .int .i64 n :: r ∧ Fits p r
  | false :: p, cs => ∃ A n c r, cs = .slice A n c :: r ∧ Fits p r
theorem Fits.append : ∀ {p q : List Bool} {a b : List Value}, Fits p a → Fits q b → Fits (p ++ q) (a ++ b)
  | [], _, _, _, hp, hq => by
    obtain rfl := hp
    exact hq
  | true :: p, _, _, _, hp, hq => by
    obtain ⟨n, r, rfl, hp⟩ := hp
    exact ⟨n, _, rfl, hp.append hq⟩
  | false :: p, _, _, _, hp, hq => by
    obtain ⟨A, n, c, r, rfl, hp⟩ := hp
    exact ⟨A, n, c, _, rfl, hp.append hq⟩
theorem Fits.next {p q : List Bool} {cs : List Value} {n m : Nat} (hp : Fits p (cs.take n)) (hq : Fits q ((cs.drop n).take m)) : Fits (p ++ q) (cs.take (n + m)) := by
  rw [List.take_add]
  exact hp.append hq
theorem Fits.nil (cs : List Value) : Fits [] (cs.take 0) := by simp [Fits]
theorem Fits.whole {p : List Bool} {cs : List Value} {n : Nat} (h : Fits p (cs.take n)) (hn : cs.length = n) : Fits p cs := by
  rwa [List.take_of_length_le (by omega)] at h

section
variable {H : Type} {enc : TypeId × Value → H} {W : World} {spare : Nat → Bool} {held : Bool} {fuel : Nat} {cs : List Value} {x : DataW H × List MemPlace}
theorem fits_int (h : DataW.trod enc Tryz.prog W 0 spare held fuel 3 cs = some x) : Fits [true] cs := by
  obtain ⟨n, rfl, _, _⟩ := DataW.trod_int Tryz.underlying3 h
  exact ⟨n, [], rfl, rfl⟩
theorem fits_slice {t e : TypeId} (ht : Tryz.prog.underlying t = some (.slice e)) (h : DataW.trod enc Tryz.prog W 0 spare held fuel t cs = some x) : Fits [false] cs := by
  rcases open_slice ht h with ⟨rfl, _⟩ | ⟨a, len, cap, _, _, _, _, rfl, _⟩
  · exact ⟨_, _, _, [], rfl, rfl⟩
  · exact ⟨_, _, _, [], rfl, rfl⟩
theorem ex_at {α : Type} {xs : List α} {n i : Nat} (h : xs.length = n) (hi : i < n) : ∃ y, xs[i]? = some y := ⟨xs[i], List.getElem?_eq_getElem (by omega)⟩
set_option maxRecDepth 100000 in
theorem fits_a2 (h : DataW.trod enc Tryz.prog W 0 spare held fuel 52 cs = some x) : Fits (List.replicate 2 true) cs := by
  obtain ⟨ks, m', _, _, hl, hkl, hg⟩ := DataW.trod_array Tryz.underlying52 h
  rw [show Tryz.prog.cellsOf 52 = 2 by kernel_rfl] at hl
  rw [show Tryz.prog.cellsOf 3 = 1 by kernel_rfl] at hg
  have f : Fits [] (cs.take 0) := Fits.nil cs
  obtain ⟨y0, hy0⟩ := ex_at hkl (show 0 < 2 by decide)
  have f := f.next (fits_int ((hg 0 (by decide)).trans hy0))
  obtain ⟨y1, hy1⟩ := ex_at hkl (show 1 < 2 by decide)
  have f := f.next (fits_int ((hg 1 (by decide)).trans hy1))
  exact f.whole hl
set_option maxRecDepth 100000 in
theorem fits_a3 (h : DataW.trod enc Tryz.prog W 0 spare held fuel 39 cs = some x) : Fits (List.replicate 3 true) cs := by
  obtain ⟨ks, m', _, _, hl, hkl, hg⟩ := DataW.trod_array Tryz.underlying39 h
  rw [show Tryz.prog.cellsOf 39 = 3 by kernel_rfl] at hl
  rw [show Tryz.prog.cellsOf 3 = 1 by kernel_rfl] at hg
  have f : Fits [] (cs.take 0) := Fits.nil cs
  obtain ⟨y0, hy0⟩ := ex_at hkl (show 0 < 3 by decide)
  have f := f.next (fits_int ((hg 0 (by decide)).trans hy0))
  obtain ⟨y1, hy1⟩ := ex_at hkl (show 1 < 3 by decide)
  have f := f.next (fits_int ((hg 1 (by decide)).trans hy1))
  obtain ⟨y2, hy2⟩ := ex_at hkl (show 2 < 3 by decide)
  have f := f.next (fits_int ((hg 2 (by decide)).trans hy2))
  exact f.whole hl
set_option maxRecDepth 100000 in
theorem fits_detector (h : DataW.trod enc Tryz.prog W 0 spare held fuel 23 cs = some x) : Fits [true, true, true, true] cs := by
  obtain ⟨xs, n', _, _, hl, hxl, hf⟩ := DataW.trod_struct Tryz.underlying23 h
  rw [show Tryz.prog.cellsOf 23 = 4 by kernel_rfl] at hl
  have f : Fits [] (cs.take 0) := Fits.nil cs
  obtain ⟨y0, hy0⟩ := ex_at hxl (show 0 < 4 by decide)
  have h0 : DataW.trod enc Tryz.prog W 0 spare held n' 3 ((cs.drop 0).take (Tryz.prog.cellsOf 3)) = xs[0]? := hf 0 _ rfl
  rw [show Tryz.prog.cellsOf 3 = 1 by kernel_rfl, hy0] at h0
  have f := f.next (fits_int h0)
  obtain ⟨y1, hy1⟩ := ex_at hxl (show 1 < 4 by decide)
  have h1 : DataW.trod enc Tryz.prog W 0 spare held n' 3 ((cs.drop 1).take (Tryz.prog.cellsOf 3)) = xs[1]? := hf 1 _ rfl
  rw [show Tryz.prog.cellsOf 3 = 1 by kernel_rfl, hy1] at h1
  have f := f.next (fits_int h1)
  obtain ⟨y2, hy2⟩ := ex_at hxl (show 2 < 4 by decide)
  have h2 : DataW.trod enc Tryz.prog W 0 spare held n' 3 ((cs.drop 2).take (Tryz.prog.cellsOf 3)) = xs[2]? := hf 2 _ rfl
  rw [show Tryz.prog.cellsOf 3 = 1 by kernel_rfl, hy2] at h2
  have f := f.next (fits_int h2)
  obtain ⟨y3, hy3⟩ := ex_at hxl (show 3 < 4 by decide)
  have h3 : DataW.trod enc Tryz.prog W 0 spare held n' 3 ((cs.drop 3).take (Tryz.prog.cellsOf 3)) = xs[3]? := hf 3 _ rfl
  rw [show Tryz.prog.cellsOf 3 = 1 by kernel_rfl, hy3] at h3
  have f := f.next (fits_int h3)
  exact f.whole hl
set_option maxRecDepth 100000 in
theorem fits_motion (h : DataW.trod enc Tryz.prog W 0 spare held fuel 25 cs = some x) : Fits [true, true, true, true] cs := by
  obtain ⟨xs, n', _, _, hl, hxl, hf⟩ := DataW.trod_struct Tryz.underlying25 h
  rw [show Tryz.prog.cellsOf 25 = 4 by kernel_rfl] at hl
  have f : Fits [] (cs.take 0) := Fits.nil cs
  obtain ⟨y0, hy0⟩ := ex_at hxl (show 0 < 4 by decide)
  have h0 : DataW.trod enc Tryz.prog W 0 spare held n' 3 ((cs.drop 0).take (Tryz.prog.cellsOf 3)) = xs[0]? := hf 0 _ rfl
  rw [show Tryz.prog.cellsOf 3 = 1 by kernel_rfl, hy0] at h0
  have f := f.next (fits_int h0)
  obtain ⟨y1, hy1⟩ := ex_at hxl (show 1 < 4 by decide)
  have h1 : DataW.trod enc Tryz.prog W 0 spare held n' 3 ((cs.drop 1).take (Tryz.prog.cellsOf 3)) = xs[1]? := hf 1 _ rfl
  rw [show Tryz.prog.cellsOf 3 = 1 by kernel_rfl, hy1] at h1
  have f := f.next (fits_int h1)
  obtain ⟨y2, hy2⟩ := ex_at hxl (show 2 < 4 by decide)
  have h2 : DataW.trod enc Tryz.prog W 0 spare held n' 3 ((cs.drop 2).take (Tryz.prog.cellsOf 3)) = xs[2]? := hf 2 _ rfl
  rw [show Tryz.prog.cellsOf 3 = 1 by kernel_rfl, hy2] at h2
  have f := f.next (fits_int h2)
  obtain ⟨y3, hy3⟩ := ex_at hxl (show 3 < 4 by decide)
  have h3 : DataW.trod enc Tryz.prog W 0 spare held n' 3 ((cs.drop 3).take (Tryz.prog.cellsOf 3)) = xs[3]? := hf 3 _ rfl
  rw [show Tryz.prog.cellsOf 3 = 1 by kernel_rfl, hy3] at h3
  have f := f.next (fits_int h3)
  exact f.whole hl
set_option maxRecDepth 100000 in
theorem fits_terrain (h : DataW.trod enc Tryz.prog W 0 spare held fuel 27 cs = some x) : Fits [true, true, true, true, true, true, true, true, true, true] cs := by
  obtain ⟨xs, n', _, _, hl, hxl, hf⟩ := DataW.trod_struct Tryz.underlying27 h
  rw [show Tryz.prog.cellsOf 27 = 10 by kernel_rfl] at hl
  have f : Fits [] (cs.take 0) := Fits.nil cs
  obtain ⟨y0, hy0⟩ := ex_at hxl (show 0 < 10 by decide)
  have h0 : DataW.trod enc Tryz.prog W 0 spare held n' 3 ((cs.drop 0).take (Tryz.prog.cellsOf 3)) = xs[0]? := hf 0 _ rfl
  rw [show Tryz.prog.cellsOf 3 = 1 by kernel_rfl, hy0] at h0
  have f := f.next (fits_int h0)
  obtain ⟨y1, hy1⟩ := ex_at hxl (show 1 < 10 by decide)
  have h1 : DataW.trod enc Tryz.prog W 0 spare held n' 3 ((cs.drop 1).take (Tryz.prog.cellsOf 3)) = xs[1]? := hf 1 _ rfl
  rw [show Tryz.prog.cellsOf 3 = 1 by kernel_rfl, hy1] at h1
  have f := f.next (fits_int h1)
  obtain ⟨y2, hy2⟩ := ex_at hxl (show 2 < 10 by decide)
  have h2 : DataW.trod enc Tryz.prog W 0 spare held n' 3 ((cs.drop 2).take (Tryz.prog.cellsOf 3)) = xs[2]? := hf 2 _ rfl
  rw [show Tryz.prog.cellsOf 3 = 1 by kernel_rfl, hy2] at h2
  have f := f.next (fits_int h2)
  obtain ⟨y3, hy3⟩ := ex_at hxl (show 3 < 10 by decide)
  have h3 : DataW.trod enc Tryz.prog W 0 spare held n' 3 ((cs.drop 3).take (Tryz.prog.cellsOf 3)) = xs[3]? := hf 3 _ rfl
  rw [show Tryz.prog.cellsOf 3 = 1 by kernel_rfl, hy3] at h3
  have f := f.next (fits_int h3)
  obtain ⟨y4, hy4⟩ := ex_at hxl (show 4 < 10 by decide)
  have h4 : DataW.trod enc Tryz.prog W 0 spare held n' 3 ((cs.drop 4).take (Tryz.prog.cellsOf 3)) = xs[4]? := hf 4 _ rfl
  rw [show Tryz.prog.cellsOf 3 = 1 by kernel_rfl, hy4] at h4
  have f := f.next (fits_int h4)
  obtain ⟨y5, hy5⟩ := ex_at hxl (show 5 < 10 by decide)
  have h5 : DataW.trod enc Tryz.prog W 0 spare held n' 3 ((cs.drop 5).take (Tryz.prog.cellsOf 3)) = xs[5]? := hf 5 _ rfl
  rw [show Tryz.prog.cellsOf 3 = 1 by kernel_rfl, hy5] at h5
  have f := f.next (fits_int h5)
  obtain ⟨y6, hy6⟩ := ex_at hxl (show 6 < 10 by decide)
  have h6 : DataW.trod enc Tryz.prog W 0 spare held n' 3 ((cs.drop 6).take (Tryz.prog.cellsOf 3)) = xs[6]? := hf 6 _ rfl
  rw [show Tryz.prog.cellsOf 3 = 1 by kernel_rfl, hy6] at h6
  have f := f.next (fits_int h6)
  obtain ⟨y7, hy7⟩ := ex_at hxl (show 7 < 10 by decide)
  have h7 : DataW.trod enc Tryz.prog W 0 spare held n' 3 ((cs.drop 7).take (Tryz.prog.cellsOf 3)) = xs[7]? := hf 7 _ rfl
  rw [show Tryz.prog.cellsOf 3 = 1 by kernel_rfl, hy7] at h7
  have f := f.next (fits_int h7)
  obtain ⟨y8, hy8⟩ := ex_at hxl (show 8 < 10 by decide)
  have h8 : DataW.trod enc Tryz.prog W 0 spare held n' 3 ((cs.drop 8).take (Tryz.prog.cellsOf 3)) = xs[8]? := hf 8 _ rfl
  rw [show Tryz.prog.cellsOf 3 = 1 by kernel_rfl, hy8] at h8
  have f := f.next (fits_int h8)
  obtain ⟨y9, hy9⟩ := ex_at hxl (show 9 < 10 by decide)
  have h9 : DataW.trod enc Tryz.prog W 0 spare held n' 3 ((cs.drop 9).take (Tryz.prog.cellsOf 3)) = xs[9]? := hf 9 _ rfl
  rw [show Tryz.prog.cellsOf 3 = 1 by kernel_rfl, hy9] at h9
  have f := f.next (fits_int h9)
  exact f.whole hl
set_option maxRecDepth 100000 in
theorem fits_config (h : DataW.trod enc Tryz.prog W 0 spare held fuel 29 cs = some x) : Fits [true, true, true, true, true, true, true, true, true, true, true, true, true, true, true, true, true, true, true, true, true, true] cs := by
  obtain ⟨xs, n', _, _, hl, hxl, hf⟩ := DataW.trod_struct Tryz.underlying29 h
  rw [show Tryz.prog.cellsOf 29 = 22 by kernel_rfl] at hl
  have f : Fits [] (cs.take 0) := Fits.nil cs
  obtain ⟨y0, hy0⟩ := ex_at hxl (show 0 < 7 by decide)
  have h0 : DataW.trod enc Tryz.prog W 0 spare held n' 3 ((cs.drop 0).take (Tryz.prog.cellsOf 3)) = xs[0]? := hf 0 _ rfl
  rw [show Tryz.prog.cellsOf 3 = 1 by kernel_rfl, hy0] at h0
  have f := f.next (fits_int h0)
  obtain ⟨y1, hy1⟩ := ex_at hxl (show 1 < 7 by decide)
  have h1 : DataW.trod enc Tryz.prog W 0 spare held n' 3 ((cs.drop 1).take (Tryz.prog.cellsOf 3)) = xs[1]? := hf 1 _ rfl
  rw [show Tryz.prog.cellsOf 3 = 1 by kernel_rfl, hy1] at h1
  have f := f.next (fits_int h1)
  obtain ⟨y2, hy2⟩ := ex_at hxl (show 2 < 7 by decide)
  have h2 : DataW.trod enc Tryz.prog W 0 spare held n' 3 ((cs.drop 2).take (Tryz.prog.cellsOf 3)) = xs[2]? := hf 2 _ rfl
  rw [show Tryz.prog.cellsOf 3 = 1 by kernel_rfl, hy2] at h2
  have f := f.next (fits_int h2)
  obtain ⟨y3, hy3⟩ := ex_at hxl (show 3 < 7 by decide)
  have h3 : DataW.trod enc Tryz.prog W 0 spare held n' 3 ((cs.drop 3).take (Tryz.prog.cellsOf 3)) = xs[3]? := hf 3 _ rfl
  rw [show Tryz.prog.cellsOf 3 = 1 by kernel_rfl, hy3] at h3
  have f := f.next (fits_int h3)
  obtain ⟨y4, hy4⟩ := ex_at hxl (show 4 < 7 by decide)
  have h4 : DataW.trod enc Tryz.prog W 0 spare held n' 23 ((cs.drop 4).take (Tryz.prog.cellsOf 23)) = xs[4]? := hf 4 _ rfl
  rw [show Tryz.prog.cellsOf 23 = 4 by kernel_rfl, hy4] at h4
  have f := f.next (fits_detector h4)
  obtain ⟨y5, hy5⟩ := ex_at hxl (show 5 < 7 by decide)
  have h5 : DataW.trod enc Tryz.prog W 0 spare held n' 25 ((cs.drop 8).take (Tryz.prog.cellsOf 25)) = xs[5]? := hf 5 _ rfl
  rw [show Tryz.prog.cellsOf 25 = 4 by kernel_rfl, hy5] at h5
  have f := f.next (fits_motion h5)
  obtain ⟨y6, hy6⟩ := ex_at hxl (show 6 < 7 by decide)
  have h6 : DataW.trod enc Tryz.prog W 0 spare held n' 27 ((cs.drop 12).take (Tryz.prog.cellsOf 27)) = xs[6]? := hf 6 _ rfl
  rw [show Tryz.prog.cellsOf 27 = 10 by kernel_rfl, hy6] at h6
  have f := f.next (fits_terrain h6)
  exact f.whole hl
set_option maxRecDepth 100000 in
theorem fits_match (h : DataW.trod enc Tryz.prog W 0 spare held fuel 41 cs = some x) : Fits [true, true, true, true, true, true, true] cs := by
  obtain ⟨xs, n', _, _, hl, hxl, hf⟩ := DataW.trod_struct Tryz.underlying41 h
  rw [show Tryz.prog.cellsOf 41 = 7 by kernel_rfl] at hl
  have f : Fits [] (cs.take 0) := Fits.nil cs
  obtain ⟨y0, hy0⟩ := ex_at hxl (show 0 < 5 by decide)
  have h0 : DataW.trod enc Tryz.prog W 0 spare held n' 3 ((cs.drop 0).take (Tryz.prog.cellsOf 3)) = xs[0]? := hf 0 _ rfl
  rw [show Tryz.prog.cellsOf 3 = 1 by kernel_rfl, hy0] at h0
  have f := f.next (fits_int h0)
  obtain ⟨y1, hy1⟩ := ex_at hxl (show 1 < 5 by decide)
  have h1 : DataW.trod enc Tryz.prog W 0 spare held n' 3 ((cs.drop 1).take (Tryz.prog.cellsOf 3)) = xs[1]? := hf 1 _ rfl
  rw [show Tryz.prog.cellsOf 3 = 1 by kernel_rfl, hy1] at h1
  have f := f.next (fits_int h1)
  obtain ⟨y2, hy2⟩ := ex_at hxl (show 2 < 5 by decide)
  have h2 : DataW.trod enc Tryz.prog W 0 spare held n' 39 ((cs.drop 2).take (Tryz.prog.cellsOf 39)) = xs[2]? := hf 2 _ rfl
  rw [show Tryz.prog.cellsOf 39 = 3 by kernel_rfl, hy2] at h2
  have f := f.next (fits_a3 h2)
  obtain ⟨y3, hy3⟩ := ex_at hxl (show 3 < 5 by decide)
  have h3 : DataW.trod enc Tryz.prog W 0 spare held n' 3 ((cs.drop 5).take (Tryz.prog.cellsOf 3)) = xs[3]? := hf 3 _ rfl
  rw [show Tryz.prog.cellsOf 3 = 1 by kernel_rfl, hy3] at h3
  have f := f.next (fits_int h3)
  obtain ⟨y4, hy4⟩ := ex_at hxl (show 4 < 5 by decide)
  have h4 : DataW.trod enc Tryz.prog W 0 spare held n' 3 ((cs.drop 6).take (Tryz.prog.cellsOf 3)) = xs[4]? := hf 4 _ rfl
  rw [show Tryz.prog.cellsOf 3 = 1 by kernel_rfl, hy4] at h4
  have f := f.next (fits_int h4)
  exact f.whole hl
set_option maxRecDepth 100000 in
theorem fits_edit (h : DataW.trod enc Tryz.prog W 0 spare held fuel 44 cs = some x) : Fits [true, false, true, true] cs := by
  obtain ⟨xs, n', _, _, hl, hxl, hf⟩ := DataW.trod_struct Tryz.underlying44 h
  rw [show Tryz.prog.cellsOf 44 = 4 by kernel_rfl] at hl
  have f : Fits [] (cs.take 0) := Fits.nil cs
  obtain ⟨y0, hy0⟩ := ex_at hxl (show 0 < 4 by decide)
  have h0 : DataW.trod enc Tryz.prog W 0 spare held n' 3 ((cs.drop 0).take (Tryz.prog.cellsOf 3)) = xs[0]? := hf 0 _ rfl
  rw [show Tryz.prog.cellsOf 3 = 1 by kernel_rfl, hy0] at h0
  have f := f.next (fits_int h0)
  obtain ⟨y1, hy1⟩ := ex_at hxl (show 1 < 4 by decide)
  have h1 : DataW.trod enc Tryz.prog W 0 spare held n' 42 ((cs.drop 1).take (Tryz.prog.cellsOf 42)) = xs[1]? := hf 1 _ rfl
  rw [show Tryz.prog.cellsOf 42 = 1 by kernel_rfl, hy1] at h1
  have f := f.next (fits_slice Tryz.underlying42 h1)
  obtain ⟨y2, hy2⟩ := ex_at hxl (show 2 < 4 by decide)
  have h2 : DataW.trod enc Tryz.prog W 0 spare held n' 3 ((cs.drop 2).take (Tryz.prog.cellsOf 3)) = xs[2]? := hf 2 _ rfl
  rw [show Tryz.prog.cellsOf 3 = 1 by kernel_rfl, hy2] at h2
  have f := f.next (fits_int h2)
  obtain ⟨y3, hy3⟩ := ex_at hxl (show 3 < 4 by decide)
  have h3 : DataW.trod enc Tryz.prog W 0 spare held n' 3 ((cs.drop 3).take (Tryz.prog.cellsOf 3)) = xs[3]? := hf 3 _ rfl
  rw [show Tryz.prog.cellsOf 3 = 1 by kernel_rfl, hy3] at h3
  have f := f.next (fits_int h3)
  exact f.whole hl
set_option maxRecDepth 100000 in
theorem fits_order (h : DataW.trod enc Tryz.prog W 0 spare held fuel 47 cs = some x) : Fits [true, false, false, true] cs := by
  obtain ⟨xs, n', _, _, hl, hxl, hf⟩ := DataW.trod_struct Tryz.underlying47 h
  rw [show Tryz.prog.cellsOf 47 = 4 by kernel_rfl] at hl
  have f : Fits [] (cs.take 0) := Fits.nil cs
  obtain ⟨y0, hy0⟩ := ex_at hxl (show 0 < 4 by decide)
  have h0 : DataW.trod enc Tryz.prog W 0 spare held n' 3 ((cs.drop 0).take (Tryz.prog.cellsOf 3)) = xs[0]? := hf 0 _ rfl
  rw [show Tryz.prog.cellsOf 3 = 1 by kernel_rfl, hy0] at h0
  have f := f.next (fits_int h0)
  obtain ⟨y1, hy1⟩ := ex_at hxl (show 1 < 4 by decide)
  have h1 : DataW.trod enc Tryz.prog W 0 spare held n' 42 ((cs.drop 1).take (Tryz.prog.cellsOf 42)) = xs[1]? := hf 1 _ rfl
  rw [show Tryz.prog.cellsOf 42 = 1 by kernel_rfl, hy1] at h1
  have f := f.next (fits_slice Tryz.underlying42 h1)
  obtain ⟨y2, hy2⟩ := ex_at hxl (show 2 < 4 by decide)
  have h2 : DataW.trod enc Tryz.prog W 0 spare held n' 45 ((cs.drop 2).take (Tryz.prog.cellsOf 45)) = xs[2]? := hf 2 _ rfl
  rw [show Tryz.prog.cellsOf 45 = 1 by kernel_rfl, hy2] at h2
  have f := f.next (fits_slice Tryz.underlying45 h2)
  obtain ⟨y3, hy3⟩ := ex_at hxl (show 3 < 4 by decide)
  have h3 : DataW.trod enc Tryz.prog W 0 spare held n' 3 ((cs.drop 3).take (Tryz.prog.cellsOf 3)) = xs[3]? := hf 3 _ rfl
  rw [show Tryz.prog.cellsOf 3 = 1 by kernel_rfl, hy3] at h3
  have f := f.next (fits_int h3)
  exact f.whole hl
set_option maxRecDepth 100000 in
theorem fits_xy (h : DataW.trod enc Tryz.prog W 0 spare held fuel 49 cs = some x) : Fits [true, true] cs := by
  obtain ⟨xs, n', _, _, hl, hxl, hf⟩ := DataW.trod_struct Tryz.underlying49 h
  rw [show Tryz.prog.cellsOf 49 = 2 by kernel_rfl] at hl
  have f : Fits [] (cs.take 0) := Fits.nil cs
  obtain ⟨y0, hy0⟩ := ex_at hxl (show 0 < 2 by decide)
  have h0 : DataW.trod enc Tryz.prog W 0 spare held n' 3 ((cs.drop 0).take (Tryz.prog.cellsOf 3)) = xs[0]? := hf 0 _ rfl
  rw [show Tryz.prog.cellsOf 3 = 1 by kernel_rfl, hy0] at h0
  have f := f.next (fits_int h0)
  obtain ⟨y1, hy1⟩ := ex_at hxl (show 1 < 2 by decide)
  have h1 : DataW.trod enc Tryz.prog W 0 spare held n' 3 ((cs.drop 1).take (Tryz.prog.cellsOf 3)) = xs[1]? := hf 1 _ rfl
  rw [show Tryz.prog.cellsOf 3 = 1 by kernel_rfl, hy1] at h1
  have f := f.next (fits_int h1)
  exact f.whole hl
set_option maxRecDepth 100000 in
theorem fits_raster (h : DataW.trod enc Tryz.prog W 0 spare held fuel 51 cs = some x) : Fits [true, true, true, true, true] cs := by
  obtain ⟨xs, n', _, _, hl, hxl, hf⟩ := DataW.trod_struct Tryz.underlying51 h
  rw [show Tryz.prog.cellsOf 51 = 5 by kernel_rfl] at hl
  have f : Fits [] (cs.take 0) := Fits.nil cs
  obtain ⟨y0, hy0⟩ := ex_at hxl (show 0 < 5 by decide)
  have h0 : DataW.trod enc Tryz.prog W 0 spare held n' 3 ((cs.drop 0).take (Tryz.prog.cellsOf 3)) = xs[0]? := hf 0 _ rfl
  rw [show Tryz.prog.cellsOf 3 = 1 by kernel_rfl, hy0] at h0
  have f := f.next (fits_int h0)
  obtain ⟨y1, hy1⟩ := ex_at hxl (show 1 < 5 by decide)
  have h1 : DataW.trod enc Tryz.prog W 0 spare held n' 3 ((cs.drop 1).take (Tryz.prog.cellsOf 3)) = xs[1]? := hf 1 _ rfl
  rw [show Tryz.prog.cellsOf 3 = 1 by kernel_rfl, hy1] at h1
  have f := f.next (fits_int h1)
  obtain ⟨y2, hy2⟩ := ex_at hxl (show 2 < 5 by decide)
  have h2 : DataW.trod enc Tryz.prog W 0 spare held n' 3 ((cs.drop 2).take (Tryz.prog.cellsOf 3)) = xs[2]? := hf 2 _ rfl
  rw [show Tryz.prog.cellsOf 3 = 1 by kernel_rfl, hy2] at h2
  have f := f.next (fits_int h2)
  obtain ⟨y3, hy3⟩ := ex_at hxl (show 3 < 5 by decide)
  have h3 : DataW.trod enc Tryz.prog W 0 spare held n' 3 ((cs.drop 3).take (Tryz.prog.cellsOf 3)) = xs[3]? := hf 3 _ rfl
  rw [show Tryz.prog.cellsOf 3 = 1 by kernel_rfl, hy3] at h3
  have f := f.next (fits_int h3)
  obtain ⟨y4, hy4⟩ := ex_at hxl (show 4 < 5 by decide)
  have h4 : DataW.trod enc Tryz.prog W 0 spare held n' 3 ((cs.drop 4).take (Tryz.prog.cellsOf 3)) = xs[4]? := hf 4 _ rfl
  rw [show Tryz.prog.cellsOf 3 = 1 by kernel_rfl, hy4] at h4
  have f := f.next (fits_int h4)
  exact f.whole hl
set_option maxRecDepth 100000 in
theorem fits_call (h : DataW.trod enc Tryz.prog W 0 spare held fuel 54 cs = some x) : Fits [true, true, true, false, true, true, true, true, true, true, true, true, false, true, true, true, false, false, true, true, true, true, true, true, true, true, true, true, true, true, true, true] cs := by
  obtain ⟨xs, n', _, _, hl, hxl, hf⟩ := DataW.trod_struct Tryz.underlying54 h
  rw [show Tryz.prog.cellsOf 54 = 32 by kernel_rfl] at hl
  have f : Fits [] (cs.take 0) := Fits.nil cs
  obtain ⟨y0, hy0⟩ := ex_at hxl (show 0 < 13 by decide)
  have h0 : DataW.trod enc Tryz.prog W 0 spare held n' 3 ((cs.drop 0).take (Tryz.prog.cellsOf 3)) = xs[0]? := hf 0 _ rfl
  rw [show Tryz.prog.cellsOf 3 = 1 by kernel_rfl, hy0] at h0
  have f := f.next (fits_int h0)
  obtain ⟨y1, hy1⟩ := ex_at hxl (show 1 < 13 by decide)
  have h1 : DataW.trod enc Tryz.prog W 0 spare held n' 3 ((cs.drop 1).take (Tryz.prog.cellsOf 3)) = xs[1]? := hf 1 _ rfl
  rw [show Tryz.prog.cellsOf 3 = 1 by kernel_rfl, hy1] at h1
  have f := f.next (fits_int h1)
  obtain ⟨y2, hy2⟩ := ex_at hxl (show 2 < 13 by decide)
  have h2 : DataW.trod enc Tryz.prog W 0 spare held n' 3 ((cs.drop 2).take (Tryz.prog.cellsOf 3)) = xs[2]? := hf 2 _ rfl
  rw [show Tryz.prog.cellsOf 3 = 1 by kernel_rfl, hy2] at h2
  have f := f.next (fits_int h2)
  obtain ⟨y3, hy3⟩ := ex_at hxl (show 3 < 13 by decide)
  have h3 : DataW.trod enc Tryz.prog W 0 spare held n' 38 ((cs.drop 3).take (Tryz.prog.cellsOf 38)) = xs[3]? := hf 3 _ rfl
  rw [show Tryz.prog.cellsOf 38 = 1 by kernel_rfl, hy3] at h3
  have f := f.next (fits_slice Tryz.underlying38 h3)
  obtain ⟨y4, hy4⟩ := ex_at hxl (show 4 < 13 by decide)
  have h4 : DataW.trod enc Tryz.prog W 0 spare held n' 41 ((cs.drop 4).take (Tryz.prog.cellsOf 41)) = xs[4]? := hf 4 _ rfl
  rw [show Tryz.prog.cellsOf 41 = 7 by kernel_rfl, hy4] at h4
  have f := f.next (fits_match h4)
  obtain ⟨y5, hy5⟩ := ex_at hxl (show 5 < 13 by decide)
  have h5 : DataW.trod enc Tryz.prog W 0 spare held n' 44 ((cs.drop 11).take (Tryz.prog.cellsOf 44)) = xs[5]? := hf 5 _ rfl
  rw [show Tryz.prog.cellsOf 44 = 4 by kernel_rfl, hy5] at h5
  have f := f.next (fits_edit h5)
  obtain ⟨y6, hy6⟩ := ex_at hxl (show 6 < 13 by decide)
  have h6 : DataW.trod enc Tryz.prog W 0 spare held n' 47 ((cs.drop 15).take (Tryz.prog.cellsOf 47)) = xs[6]? := hf 6 _ rfl
  rw [show Tryz.prog.cellsOf 47 = 4 by kernel_rfl, hy6] at h6
  have f := f.next (fits_order h6)
  obtain ⟨y7, hy7⟩ := ex_at hxl (show 7 < 13 by decide)
  have h7 : DataW.trod enc Tryz.prog W 0 spare held n' 49 ((cs.drop 19).take (Tryz.prog.cellsOf 49)) = xs[7]? := hf 7 _ rfl
  rw [show Tryz.prog.cellsOf 49 = 2 by kernel_rfl, hy7] at h7
  have f := f.next (fits_xy h7)
  obtain ⟨y8, hy8⟩ := ex_at hxl (show 8 < 13 by decide)
  have h8 : DataW.trod enc Tryz.prog W 0 spare held n' 49 ((cs.drop 21).take (Tryz.prog.cellsOf 49)) = xs[8]? := hf 8 _ rfl
  rw [show Tryz.prog.cellsOf 49 = 2 by kernel_rfl, hy8] at h8
  have f := f.next (fits_xy h8)
  obtain ⟨y9, hy9⟩ := ex_at hxl (show 9 < 13 by decide)
  have h9 : DataW.trod enc Tryz.prog W 0 spare held n' 51 ((cs.drop 23).take (Tryz.prog.cellsOf 51)) = xs[9]? := hf 9 _ rfl
  rw [show Tryz.prog.cellsOf 51 = 5 by kernel_rfl, hy9] at h9
  have f := f.next (fits_raster h9)
  obtain ⟨y10, hy10⟩ := ex_at hxl (show 10 < 13 by decide)
  have h10 : DataW.trod enc Tryz.prog W 0 spare held n' 3 ((cs.drop 28).take (Tryz.prog.cellsOf 3)) = xs[10]? := hf 10 _ rfl
  rw [show Tryz.prog.cellsOf 3 = 1 by kernel_rfl, hy10] at h10
  have f := f.next (fits_int h10)
  obtain ⟨y11, hy11⟩ := ex_at hxl (show 11 < 13 by decide)
  have h11 : DataW.trod enc Tryz.prog W 0 spare held n' 3 ((cs.drop 29).take (Tryz.prog.cellsOf 3)) = xs[11]? := hf 11 _ rfl
  rw [show Tryz.prog.cellsOf 3 = 1 by kernel_rfl, hy11] at h11
  have f := f.next (fits_int h11)
  obtain ⟨y12, hy12⟩ := ex_at hxl (show 12 < 13 by decide)
  have h12 : DataW.trod enc Tryz.prog W 0 spare held n' 52 ((cs.drop 30).take (Tryz.prog.cellsOf 52)) = xs[12]? := hf 12 _ rfl
  rw [show Tryz.prog.cellsOf 52 = 2 by kernel_rfl, hy12] at h12
  have f := f.next (fits_a2 h12)
  exact f.whole hl
end

theorem Fits.call {cs : List Value} (h : Fits [true, true, true, false, true, true, true, true, true, true, true, true, false, true, true, true, false, false, true, true, true, true, true, true, true, true, true, true, true, true, true, true] cs) : ∃ (x : Nat → Int) (A : Nat → Option Addr) (n c : Nat → Nat), cs = (callC x A n c).toList := by
  obtain ⟨x0, r0, rfl, h⟩ := h
  obtain ⟨x1, r1, rfl, h⟩ := h
  obtain ⟨x2, r2, rfl, h⟩ := h
  obtain ⟨A0, n0, c0, r3, rfl, h⟩ := h
  obtain ⟨x3, r4, rfl, h⟩ := h
  obtain ⟨x4, r5, rfl, h⟩ := h
  obtain ⟨x5, r6, rfl, h⟩ := h
  obtain ⟨x6, r7, rfl, h⟩ := h
  obtain ⟨x7, r8, rfl, h⟩ := h
  obtain ⟨x8, r9, rfl, h⟩ := h
  obtain ⟨x9, r10, rfl, h⟩ := h
  obtain ⟨x10, r11, rfl, h⟩ := h
  obtain ⟨A1, n1, c1, r12, rfl, h⟩ := h
  obtain ⟨x11, r13, rfl, h⟩ := h
  obtain ⟨x12, r14, rfl, h⟩ := h
  obtain ⟨x13, r15, rfl, h⟩ := h
  obtain ⟨A2, n2, c2, r16, rfl, h⟩ := h
  obtain ⟨A3, n3, c3, r17, rfl, h⟩ := h
  obtain ⟨x14, r18, rfl, h⟩ := h
  obtain ⟨x15, r19, rfl, h⟩ := h
  obtain ⟨x16, r20, rfl, h⟩ := h
  obtain ⟨x17, r21, rfl, h⟩ := h
  obtain ⟨x18, r22, rfl, h⟩ := h
  obtain ⟨x19, r23, rfl, h⟩ := h
  obtain ⟨x20, r24, rfl, h⟩ := h
  obtain ⟨x21, r25, rfl, h⟩ := h
  obtain ⟨x22, r26, rfl, h⟩ := h
  obtain ⟨x23, r27, rfl, h⟩ := h
  obtain ⟨x24, r28, rfl, h⟩ := h
  obtain ⟨x25, r29, rfl, h⟩ := h
  obtain ⟨x26, r30, rfl, h⟩ := h
  obtain ⟨x27, r31, rfl, h⟩ := h
  obtain rfl := h
  exact ⟨fun i => [x0, x1, x2, x3, x4, x5, x6, x7, x8, x9, x10, x11, x12, x13, x14, x15, x16, x17, x18, x19, x20, x21, x22, x23, x24, x25, x26, x27][i]?.getD 0, fun i => [A0, A1, A2, A3][i]?.getD none, fun i => [n0, n1, n2, n3][i]?.getD 0, fun i => [c0, c1, c2, c3][i]?.getD 0, rfl⟩
end Go.Proofs.YtpkfgmebngpfkaaGreat
