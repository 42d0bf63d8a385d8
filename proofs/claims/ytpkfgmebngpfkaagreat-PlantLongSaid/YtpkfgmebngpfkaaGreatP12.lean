/- The law PlantLong's walk: more events than are allowed are refused. No condition. -/
import Derived.Test.YtpkfgmebngpfkaaGreatP11
import Derived.IntWalk
namespace Go.Proofs.YtpkfgmebngpfkaaGreat
open Go.RowKit Go

def codeOf (x : Nat → Int) : Int := if vCfg x then 2 else 100

theorem size_cfg (x : Nat → Int) : (Tryz.prog.info? 29).map (·.size) = some (cfgC x).size := by
  show _ = some 22
  kernel_rfl

set_option maxRecDepth 100000 in
set_option maxHeartbeats 4000000 in
theorem play_long (x : Nat → Int) (A : Option Addr) (n c : Nat) (w : World) (hn : 256 < n) :
    Calls Tryz.prog 5 #[.agg (cfgC x), .slice A n c] w fun e w' => e = .returned (.tuple #[.slice none 0 0, .int .i64 (codeOf x)]) ∧ Frame w w' [] := by
  have fA : Frame w (w.alloc (.cells (cfgC x) 29)) [] := (Frame.refl w []).alloc _
  have kA := Lib.hid (show (w.alloc (.cells (cfgC x) 29)).heap[w.heap.size]? = some (.cells (cfgC x) 29 (0, 0)) from heap_alloc_new _ _)
  have hp := pvalid_any x (w.alloc (.cells (cfgC x) 29))
  have hs := Lib.hid (size_cfg x)
  generalize cfgC x = cs at fA kA hp hs ⊢
  cases hv : vCfg x
  · have H := Lib.hid (show codeOf x = 100 by simp [codeOf, hv])
    rw [hv] at hp
    clear hv
    go_enter Tryz.func5, Tryz.ntmps5
    go_wp2_with (refine wpList_load_row rfl 29 _ rfl w.heap.size rfl 29 _ (0, 0) _ kA.out Tryz.underlying29 rfl hs.out ?_)
    refine hp.mono ?_
    rintro e w1 ⟨rfl, f1⟩
    go_wp2_with fail
    go_ret2
    exact ⟨by rw [H.out]; rfl, fA.trans f1⟩
  · have H := Lib.hid (show codeOf x = 2 by simp [codeOf, hv])
    rw [hv] at hp
    clear hv
    go_enter Tryz.func5, Tryz.ntmps5
    go_wp2_with (refine wpList_load_row rfl 29 _ rfl w.heap.size rfl 29 _ (0, 0) _ kA.out Tryz.underlying29 rfl hs.out ?_)
    refine hp.mono ?_
    rintro e w1 ⟨rfl, f1⟩
    go_wp2_with fail
    go_ret2
    exact ⟨by rw [H.out]; rfl, fA.trans f1⟩

def zEvent : Value := .agg #[.int .i64 0, .int .i64 0, .int .i64 0, .slice none 0 0, .int .i64 0, .int .i64 0, .int .i64 0, .int .i64 0, .int .i64 0, .int .i64 0, .int .i64 0, .int .i64 0, .slice none 0 0, .int .i64 0, .int .i64 0, .int .i64 0, .slice none 0 0, .slice none 0 0, .int .i64 0, .int .i64 0, .int .i64 0]
theorem info_event : (Tryz.prog.info? 98).map (fun i => (i.zero, i.size, i.bytes)) = some (some zEvent, 21, 232) := by kernel_rfl

theorem frame_range {w w' : World} {F : List Nat} {b : Nat} {cs : List Value} (h : w.rangeAt b 0 cs) (hf : Frame w w' F) (hb : b ∉ F) : w'.rangeAt b 0 cs := fun j v hv => hf.cell (h j v hv) hb

set_option maxRecDepth 100000 in
set_option maxHeartbeats 4000000 in
theorem plantLong_any (x : Nat → Int) (n : Int) (w : World) (h0 : 0 ≤ n) (h1 : n ≤ 255) :
    Calls Tryz.prog 3 #[.agg (cfgC x), .int .u8 n] w fun e w' => e = .returned (.bool true) ∧ Frame w w' [] := by
  obtain ⟨i0, hi0, hz0, hz1, hz2⟩ := info_parts info_event
  obtain ⟨k, hk, hk4⟩ : ∃ k : Nat, n % 4 = (k : Int) ∧ k < 4 := ⟨(n % 4).toNat, by omega, by omega⟩
  have hmk : ∀ W : World, (Instr.makeSlice 34 (.int .i64 (257 + (k : Int))) (.int .i64 (257 + (k : Int)))).run Tryz.prog W = .ok (.slice (some ⟨W.heap.size, 0, none⟩) (257 + k) (257 + k)) (W.alloc (.cells (madeCells zEvent.cells ((257 + k) * 21)) 98)) := fun W => by
    have e1 : ((257 : Int) + k).toNat = 257 + k := by omega
    have := run_makeSlice (P := Tryz.prog) W 34 98 i0 _ Tryz.underlying34 hi0 hz0 .i64 .i64 (257 + k) (257 + k) (by omega) (by omega) (by rw [hz1, e1]; omega) (by rw [hz2]; omega) (by omega)
    rw [e1, hz1] at this
    exact this
  generalize madeCells zEvent.cells ((257 + k) * 21) = mc at hmk
  have fA : Frame w (w.alloc (.cells (cfgC x) 29)) [] := (Frame.refl w []).alloc _
  have kA := Lib.hid (show (w.alloc (.cells (cfgC x) 29)).heap[w.heap.size]? = some (.cells (cfgC x) 29 (0, 0)) from heap_alloc_new _ _)
  have hs := Lib.hid (size_cfg x)
  have hPlay := fun A n c w hn => play_long x A n c w hn
  obtain ⟨q, hq⟩ : ∃ q, codeOf x = q := ⟨_, rfl⟩
  rw [hq] at hPlay
  have HQ := Lib.hid hq
  clear hq
  have hValid := fun w => rvalid_any x w
  clear hi0 hz0 hz1 hz2
  obtain ⟨cl, hcl, hl22⟩ : ∃ cl : List Value, cfgC x = cl.toArray ∧ cl.length = 22 := ⟨(cfgC x).toList, rfl, rfl⟩
  rw [hcl] at fA kA hPlay hValid hs ⊢
  clear hcl
  have hu := Tryz.underlying29
  have hi : (Tryz.prog.info? 29).map (·.size) = some cl.length := hs.out
  go_enter Tryz.func3, Tryz.ntmps3
  go_wp2_with fail
  generalize w.alloc (.cells cl.toArray 29) = w1 at fA kA ⊢
  have hra : w1.rangeAt w.heap.size 0 cl := fun j v hv => by
    rw [cell_of_row _ _ _ _ _ _ kA.out, Nat.zero_add]
    simpa using hv
  have htm : n.tmod 4 = (k : Int) := by rw [Int.tmod_eq_emod_of_nonneg h0]; exact hk
  have hwk : IntKind.i64.wrap (k : Int) = k := IntWalk.i64_in _ (by omega)
  have hws : IntKind.i64.wrap (257 + (k : Int)) = 257 + k := IntWalk.i64_in _ (by omega)
  refine wp_region_noPanic ?_
  refine wp_region_held_drew (S := fun w' => w'.rangeAt w.heap.size 0 cl) (by kernel_rfl) (frame_range hra (Frame.refl w1 []).drew (by simp)) (fun hHeld => ?_)
  refine wpAnyH_take (i := 0) rfl (by kernel_rfl) (by kernel_rfl) (by kernel_rfl) (fun _ _ _ h => h) (yieldsIf_load_mid (by rfl) _ _ rfl _ _ rfl cl _ (fun w hw => hw) hu rfl hi) hHeld ?_
  simp only [Act.put, List.setIfInBounds_toArray, List.set_cons_zero, List.set_cons_succ]
  refine wpAnyH_take (i := 1) (v := .int .u8 n) rfl (by kernel_rfl) (by kernel_rfl) (by kernel_rfl) (fun _ _ _ h => h) (Or.inl ⟨by rfl, ?_⟩) hHeld ?_
  · intro wq _
    go_simp
    all_goals (first | exact htm | exact hwk | exact hws)
  simp only [Act.put, List.setIfInBounds_toArray, List.set_cons_zero, List.set_cons_succ]
  refine wpAnyH_take (i := 2) (v := .int .u8 k) rfl (by kernel_rfl) (by kernel_rfl) (by kernel_rfl) (fun _ _ _ h => h) (Or.inl ⟨by rfl, ?_⟩) hHeld ?_
  · intro wq _
    go_simp
    all_goals (first | exact htm | exact hwk | exact hws)
  simp only [Act.put, List.setIfInBounds_toArray, List.set_cons_zero, List.set_cons_succ]
  refine wpAnyH_take (i := 3) (v := .int .i64 k) rfl (by kernel_rfl) (by kernel_rfl) (by kernel_rfl) (fun _ _ _ h => h) (Or.inl ⟨by rfl, ?_⟩) hHeld ?_
  · intro wq _
    go_simp
    all_goals (first | exact htm | exact hwk | exact hws)
  simp only [Act.put, List.setIfInBounds_toArray, List.set_cons_zero, List.set_cons_succ]
  refine wpAnyH_take (i := 4) (v := .int .i64 (257 + (k : Int))) rfl (by kernel_rfl) (by kernel_rfl) (by kernel_rfl) (fun _ _ _ h => h) (Or.inl ⟨by rfl, ?_⟩) hHeld ?_
  · intro wq _
    go_simp
    all_goals (first | exact htm | exact hwk | exact hws)
  simp only [Act.put, List.setIfInBounds_toArray, List.set_cons_zero, List.set_cons_succ]
  refine wpAnyH_ready (rs := [5]) (by kernel_rfl) (by simp) ?_
  refine AllReadyH.cons rfl (fun K5 hK5 => ?_) AllReadyH.nil
  go_simp
  refine hK5.out _ _ (frame_range hra ((Frame.refl w1 []).drew.alloc _) (by simp)) (fun hHeld5 => ?_)
  clear hK5 K5
  refine wpAnyH_ready (rs := [6]) (by kernel_rfl) (by simp) ?_
  refine AllReadyH.cons rfl (fun K6 hK6 => ?_) AllReadyH.nil
  go_simp
  refine (hPlay _ _ _ _ (by omega)).mono ?_
  rintro e w2 ⟨rfl, f2⟩
  dsimp only
  refine hK6.out _ _ (frame_range hra (((Frame.refl w1 []).drew.alloc _).trans f2) (by simp)) (fun hHeld6 => ?_)
  have F2 := Lib.hid (fA.trans (((Frame.refl w1 []).drew.alloc _).trans f2))
  have k2 := Lib.hid ((((Frame.refl w1 []).drew.alloc _).trans f2).heap kA.out (by simp))
  clear hK6 K6 f2 hmk hHeld5 hHeld hra
  refine wpAnyH_take (i := 7) (v := .tuple #[.slice none 0 0, .int .i64 q]) rfl (by kernel_rfl) (by kernel_rfl) (by kernel_rfl) (fun _ _ _ h => h) (Or.inl ⟨by rfl, ?_⟩) hHeld6 ?_
  · intro wq _
    go_simp
  simp only [Act.put, List.setIfInBounds_toArray, List.set_cons_zero, List.set_cons_succ]
  refine wpAnyH_take (i := 8) (v := .slice none 0 0) rfl (by kernel_rfl) (by kernel_rfl) (by kernel_rfl) (fun _ _ _ h => h) (Or.inl ⟨by rfl, ?_⟩) hHeld6 ?_
  · intro wq _
    go_simp
  simp only [Act.put, List.setIfInBounds_toArray, List.set_cons_zero, List.set_cons_succ]
  refine wpAnyH_take (i := 9) (v := .int .i64 q) rfl (by kernel_rfl) (by kernel_rfl) (by kernel_rfl) (fun _ _ _ h => h) (Or.inl ⟨by rfl, ?_⟩) hHeld6 ?_
  · intro wq _
    go_simp
  simp only [Act.put, List.setIfInBounds_toArray, List.set_cons_zero, List.set_cons_succ]
  refine wpAnyH_take (i := 10) (v := .slice none 0 0) rfl (by kernel_rfl) (by kernel_rfl) (by kernel_rfl) (fun _ _ _ h => h) (Or.inl ⟨by rfl, ?_⟩) hHeld6 ?_
  · intro wq _
    go_simp
  simp only [Act.put, List.setIfInBounds_toArray, List.set_cons_zero, List.set_cons_succ]
  refine wpAnyH_take (i := 11) (v := .int .i64 q) rfl (by kernel_rfl) (by kernel_rfl) (by kernel_rfl) (fun _ _ _ h => h) (Or.inl ⟨by rfl, ?_⟩) hHeld6 ?_
  · intro wq _
    go_simp
  simp only [Act.put, List.setIfInBounds_toArray, List.set_cons_zero, List.set_cons_succ]
  refine wpAnyH_done (by kernel_rfl) ?_ _
  refine NoPanic.normal ?_
  cases hv : vCfg x
  · have hqq : q = 100 := by rw [← HQ.out]; simp [codeOf, hv]
    subst hqq
    go_wp2_with (first
      | (refine wpList_load_row rfl 29 _ rfl w.heap.size rfl 29 _ (0, 0) _ k2.out Tryz.underlying29 rfl hs.out ?_)
      | (go_at_call 6; refine (hValid _).mono ?_; rintro e w3 ⟨rfl, f3⟩; have F3 := Lib.hid (F2.out.trans f3); clear f3)
      | (go_at_call 7; refine (awake_any _).mono ?_; rintro e w4 ⟨rfl, f4⟩))
    go_ret
    exact ⟨rfl, F3.out.trans f4⟩
  · have hqq : q = 2 := by rw [← HQ.out]; simp [codeOf, hv]
    subst hqq
    go_wp2_with (first
      | (refine wpList_load_row rfl 29 _ rfl w.heap.size rfl 29 _ (0, 0) _ k2.out Tryz.underlying29 rfl hs.out ?_)
      | (go_at_call 6; refine (hValid _).mono ?_; rintro e w3 ⟨rfl, f3⟩; have F3 := Lib.hid (F2.out.trans f3); clear f3)
      | (go_at_call 7; refine (awake_any _).mono ?_; rintro e w4 ⟨rfl, f4⟩))
    go_ret
    exact ⟨rfl, F3.out.trans f4⟩
end Go.Proofs.YtpkfgmebngpfkaaGreat
