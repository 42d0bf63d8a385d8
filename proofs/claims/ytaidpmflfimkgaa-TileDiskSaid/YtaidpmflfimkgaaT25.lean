/- What the form's reading of the script gives to the walk. No condition. -/
import Derived.Test.YtaidpmflfimkgaaT24
import Derived.ProofKit
import Derived.OpenShut
import Derived.Deep.Slices
import Derived.Carry
namespace Go.Proofs.Ytaidpmflfimkgaa
open Go.RowKit Go.ChangeShapes Go.WideShapes Go.Deep

theorem cellsWrite : Try.prog.cellsOf 33 = 6 := by kernel_rfl
theorem cellsInt : Try.prog.cellsOf 3 = 1 := by kernel_rfl
theorem cellsU8 : Try.prog.cellsOf 5 = 1 := by kernel_rfl
theorem cellsBytes : Try.prog.cellsOf 27 = 1 := by kernel_rfl
theorem cellsA2 : Try.prog.cellsOf 29 = 2 := by kernel_rfl

/-- Numbers of a byte as bytes. -/
theorem nums_bv (zs : List Int) (h : ∀ n ∈ zs, (Lit.int .u8 n).wf = true) : bv (zs.map fun z => UInt8.ofNat z.toNat) = zs.map (Value.int .u8) := by
  rw [bv, List.map_map]
  refine List.map_congr_left fun z hz => ?_
  have hw := bounds_u8 (h z hz)
  show Value.int .u8 ((UInt8.ofNat z.toNat).toNat : Int) = .int .u8 z
  congr 1
  rw [UInt8.toNat_ofNat']
  omega

section
variable {H : Type} {enc : TypeId × Value → H} {W : World} {spare : Nat → Bool} {held : Bool}
theorem int_of {fuel : Nat} {v : Value} {x : DataW H × List MemPlace} (h : DataW.trod enc Try.prog W 0 spare held fuel 3 [v] = some x) : ∃ n : Int, v = .int .i64 n ∧ n ≤ 9223372036854775807 := by
  obtain ⟨n, hv, _, hw⟩ := DataW.trod_int Try.underlying3 h
  simp at hv
  have := bounds_i64 hw
  exact ⟨n, hv, by omega⟩
theorem bytes_of {fuel : Nat} {v : Value} {x : DataW H × List MemPlace} (h : DataW.trod enc Try.prog W 0 spare held fuel 27 [v] = some x) :
    ∃ l : List UInt8, Rd W v l.length 1 (bv l) ∧ (0 < l.length → ∀ g, v.ownBlock = some g → g < W.heap.size) ∧ l.length ≤ 9223372036854775807 := by
  rcases open_ints Try.underlying27 Try.underlying5 cellsU8 h with ⟨hcs, _⟩ | ⟨a, len, cap, zs, hcs, _, hl, hm, hz, _, hcell, hwz⟩
  · simp at hcs
    subst hcs
    exact ⟨[], ⟨rfl, none, 0, rfl, Nat.le_refl _, fun _ => rfl, (fun a ha => by cases ha)⟩, (fun h => by simp at h), by simp⟩
  · simp at hcs
    subst hcs
    have hlz : len ≤ zs.length := by rw [hz]; split <;> omega
    have hlen : ((zs.take len).map fun z => UInt8.ofNat z.toNat).length = len := by simp; omega
    have hbv := nums_bv (zs.take len) fun n hn => hwz n (List.mem_of_mem_take hn)
    refine ⟨(zs.take len).map fun z => UInt8.ofNat z.toNat, ?_, ?_, ?_⟩
    · rw [hbv, hlen]
      refine ⟨by simp; omega, some a, cap, rfl, hl, (fun e => by cases e), fun a' ha j u hu => ?_⟩
      obtain rfl := Option.some.inj ha
      have hj : j < len := by
        have := (List.getElem?_eq_some_iff.1 hu).1
        simp at this
        omega
      rw [hcell j (by omega)]
      simp [hj] at hu
      obtain ⟨z, hz1, hz2⟩ := hu
      rw [← hz2]
      simp [List.getD, hz1]
    · intro h0 g hg
      rw [hlen] at h0
      simp [Value.ownBlock] at hg
      subst hg
      have := World.block_lt_of_cell? W _ (hcell 0 (by omega))
      simpa [Addr.add] using this
    · rw [hlen]
      unfold maxLen at hm
      omega

set_option maxRecDepth 100000 in
/-- An element of the script. -/
theorem write_of {n : Nat} {cs : List Value} {y : DataW H × List MemPlace} (h : DataW.trod enc Try.prog W 0 spare held n 33 cs = some y) :
    ∃ (kind file m k0 k1 : Int) (xv : Value) (l : List UInt8), cs = [.int .i64 kind, .int .i64 file, .int .i64 m, xv, .int .i64 k0, .int .i64 k1] ∧ Rd W xv l.length 1 (bv l) ∧ (0 < l.length → ∀ g, xv.ownBlock = some g → g < W.heap.size) ∧
      m ≤ 9223372036854775807 ∧ k0 ≤ 9223372036854775807 ∧ k1 ≤ 9223372036854775807 ∧ l.length ≤ 9223372036854775807 := by
  obtain ⟨xs, n', _, _, hlen, hxl, hf⟩ := DataW.trod_struct Try.underlying33 h
  rw [cellsWrite] at hlen
  match cs, hlen with
  | [v0, v1, v2, v3, v4, v5], _ =>
    have h0 := hf 0 _ rfl
    have h1 := hf 1 _ rfl
    have h2 := hf 2 _ rfl
    have h3 := hf 3 _ rfl
    have h4 := hf 4 _ rfl
    have h0 : DataW.trod enc Try.prog W 0 spare held n' 3 ((([v0, v1, v2, v3, v4, v5] : List Value).drop 0).take (Try.prog.cellsOf 3)) = xs[0]? := h0
    rw [cellsInt] at h0
    have h1 : DataW.trod enc Try.prog W 0 spare held n' 3 ((([v0, v1, v2, v3, v4, v5] : List Value).drop 1).take (Try.prog.cellsOf 3)) = xs[1]? := h1
    rw [cellsInt] at h1
    have h2 : DataW.trod enc Try.prog W 0 spare held n' 3 ((([v0, v1, v2, v3, v4, v5] : List Value).drop 2).take (Try.prog.cellsOf 3)) = xs[2]? := h2
    rw [cellsInt] at h2
    have h3 : DataW.trod enc Try.prog W 0 spare held n' 27 ((([v0, v1, v2, v3, v4, v5] : List Value).drop 3).take (Try.prog.cellsOf 27)) = xs[3]? := h3
    rw [cellsBytes] at h3
    have h4 : DataW.trod enc Try.prog W 0 spare held n' 29 ((([v0, v1, v2, v3, v4, v5] : List Value).drop 4).take (Try.prog.cellsOf 29)) = xs[4]? := h4
    rw [cellsA2] at h4
    match xs, hxl with
    | [y0, y1, y2, y3, y4], _ =>
      obtain ⟨kind, rfl, _⟩ := int_of h0
      obtain ⟨file, rfl, _⟩ := int_of h1
      obtain ⟨m, rfl, hm⟩ := int_of h2
      obtain ⟨l, hr, hb, hl⟩ := bytes_of h3
      obtain ⟨ks, m', _, _, _, hkl, hg⟩ := DataW.trod_array Try.underlying29 h4
      have g0 := hg 0 (by decide)
      have g1 := hg 1 (by decide)
      rw [cellsInt] at g0
      rw [cellsInt] at g1
      match ks, hkl with
      | [z0, z1], _ =>
        obtain ⟨k0, rfl, hk0⟩ := int_of g0
        obtain ⟨k1, rfl, hk1⟩ := int_of g1
        exact ⟨kind, file, m, k0, k1, v3, l, rfl, hr, hb, hm, hk0, hk1, hl⟩

set_option maxRecDepth 100000 in
/-- The script, whatever its length but 0. -/
theorem script_of {a : Addr} {len m n : Nat} {D : Nat → DataW H} {Pl : Nat → List MemPlace} (hpos : 0 < len) (hlm : len ≤ m)
    (hel : ∀ i, i < m → ∃ cs', W.cells? 0 (a.add (i * Try.prog.cellsOf 33)) (Try.prog.cellsOf 33) = some cs' ∧ DataW.trod enc Try.prog W 0 spare held n 33 cs' = some (D i, Pl i)) :
    ∃ b off, a = ⟨b, off, none⟩ ∧ ScriptAt W W.heap.size b off len := by
  rw [cellsWrite] at hel
  obtain ⟨cs0, hc0, ht0⟩ := hel 0 (by omega)
  obtain ⟨_, hcl0, hat0⟩ := World.cells?_some hc0
  obtain ⟨kind, file, mm, k0, k1, xv, l, rfl, _⟩ := write_of ht0
  have hh := hat0 0 (by decide)
  simp only [Nat.zero_mul, List.getElem?_cons_zero] at hh
  obtain ⟨b, off, spot⟩ := a
  have hspot : spot = none := by simpa [Addr.add] using World.cell?_spot hh
  subst hspot
  refine ⟨b, off, rfl, by simpa [Addr.add] using World.block_lt_of_cell? W _ hh, fun k hk => ?_⟩
  obtain ⟨cs1, hc1, ht1⟩ := hel k (by omega)
  obtain ⟨_, hcl1, hat1⟩ := World.cells?_some hc1
  obtain ⟨kind, file, mm, k0, k1, xv, l, rfl, hr, hb, hm, hk0, hk1, hl⟩ := write_of ht1
  have e0 := hat1 0 (by decide)
  have e1 := hat1 1 (by decide)
  have e2 := hat1 2 (by decide)
  have e3 := hat1 3 (by decide)
  have e4 := hat1 4 (by decide)
  have e5 := hat1 5 (by decide)
  simp only [Addr.add_lit, List.getElem?_cons_zero, List.getElem?_cons_succ, Nat.add_zero] at e0 e1 e2 e3 e4 e5
  exact ⟨kind, file, mm, k0, k1, xv, l, e0, e1, e2, e3, e4, e5, hr, hb, hm, hk0, hk1, hl⟩
end
end Go.Proofs.Ytaidpmflfimkgaa
