/- The law PlantNils' walk. No condition. -/
import Derived.Test.YtpkfgmebngpfkaaGreatM2
namespace Go.Proofs.YtpkfgmebngpfkaaGreat
open Go.RowKit Go

theorem size_call (x : Nat → Int) (A : Nat → Option Addr) (n c : Nat → Nat) : (Tryz.prog.info? 54).map (·.size) = some (callC x A n c).size := by
  show _ = some 32
  kernel_rfl
def zeroP : Array Value := #[.int .i64 0, .int .i64 0, .int .i64 0, .int .i64 0, .int .i64 0, .int .i64 0, .int .i64 0, .int .i64 0, .int .i64 0, .int .i64 0, .int .i64 0, .int .i64 0, .int .i64 0, .int .i64 0, .int .i64 0, .int .i64 0, .int .i64 0, .int .i64 0, .int .i64 0, .int .i64 0, .int .i64 0, .int .i64 0, .pointer none, .pointer none, .bool false, .slice none 0 0, .slice none 0 0, .slice none 0 0, .slice none 0 0, .slice none 0 0]

set_option maxRecDepth 100000 in
set_option maxHeartbeats 16000000 in
theorem plantNils_any (x : Nat → Int) (A : Nat → Option Addr) (n c : Nat → Nat) (w : World) : Calls Tryz.prog 4 #[.agg (callC x A n c)] w fun e w' => e = .returned (.bool true) ∧ Frame w w' [] := by
  have kA := Lib.hid (show (w.alloc (.cells (callC x A n c) 54)).heap[w.heap.size]? = some (.cells (callC x A n c) 54 (0, 0)) from heap_alloc_new _ _)
  have fA := Lib.hid ((Frame.refl w []).alloc (.cells (callC x A n c) 54))
  have hs := Lib.hid (size_call x A n c)
  have hbig := fun w => big_any x A n c w
  have hcells : ∀ (W : World), W.heap[w.heap.size]? = some (.cells (callC x A n c) 54 (0, 0)) → ∀ i, W.cell? ⟨w.heap.size, i, none⟩ = (callC x A n c)[i]? := fun W h i => cell_of_row _ _ _ _ _ _ h
  have HCL := Lib.hid hcells
  clear hcells
  have v0 := Lib.hid (show (callC x A n c)[0]? = some (.int .i64 (x 0)) from rfl)
  have v1 := Lib.hid (show (callC x A n c)[1]? = some (.int .i64 (x 1)) from rfl)
  have v2 := Lib.hid (show (callC x A n c)[2]? = some (.int .i64 (x 2)) from rfl)
  have v3 := Lib.hid (show (callC x A n c)[3]? = some (.slice (A 0) (n 0) (c 0)) from rfl)
  have v4 := Lib.hid (show (callC x A n c)[4]? = some (.int .i64 (x 3)) from rfl)
  have v5 := Lib.hid (show (callC x A n c)[5]? = some (.int .i64 (x 4)) from rfl)
  have v6 := Lib.hid (show (callC x A n c)[6]? = some (.int .i64 (x 5)) from rfl)
  have v7 := Lib.hid (show (callC x A n c)[7]? = some (.int .i64 (x 6)) from rfl)
  have v8 := Lib.hid (show (callC x A n c)[8]? = some (.int .i64 (x 7)) from rfl)
  have v9 := Lib.hid (show (callC x A n c)[9]? = some (.int .i64 (x 8)) from rfl)
  have v10 := Lib.hid (show (callC x A n c)[10]? = some (.int .i64 (x 9)) from rfl)
  have v11 := Lib.hid (show (callC x A n c)[11]? = some (.int .i64 (x 10)) from rfl)
  have v12 := Lib.hid (show (callC x A n c)[12]? = some (.slice (A 1) (n 1) (c 1)) from rfl)
  have v13 := Lib.hid (show (callC x A n c)[13]? = some (.int .i64 (x 11)) from rfl)
  have v14 := Lib.hid (show (callC x A n c)[14]? = some (.int .i64 (x 12)) from rfl)
  have v15 := Lib.hid (show (callC x A n c)[15]? = some (.int .i64 (x 13)) from rfl)
  have v16 := Lib.hid (show (callC x A n c)[16]? = some (.slice (A 2) (n 2) (c 2)) from rfl)
  have v17 := Lib.hid (show (callC x A n c)[17]? = some (.slice (A 3) (n 3) (c 3)) from rfl)
  have v18 := Lib.hid (show (callC x A n c)[18]? = some (.int .i64 (x 14)) from rfl)
  have v19 := Lib.hid (show (callC x A n c)[19]? = some (.int .i64 (x 15)) from rfl)
  have v20 := Lib.hid (show (callC x A n c)[20]? = some (.int .i64 (x 16)) from rfl)
  have v21 := Lib.hid (show (callC x A n c)[21]? = some (.int .i64 (x 17)) from rfl)
  have v22 := Lib.hid (show (callC x A n c)[22]? = some (.int .i64 (x 18)) from rfl)
  have v23 := Lib.hid (show (callC x A n c)[23]? = some (.int .i64 (x 19)) from rfl)
  have v24 := Lib.hid (show (callC x A n c)[24]? = some (.int .i64 (x 20)) from rfl)
  have v25 := Lib.hid (show (callC x A n c)[25]? = some (.int .i64 (x 21)) from rfl)
  have v26 := Lib.hid (show (callC x A n c)[26]? = some (.int .i64 (x 22)) from rfl)
  have v27 := Lib.hid (show (callC x A n c)[27]? = some (.int .i64 (x 23)) from rfl)
  have v28 := Lib.hid (show (callC x A n c)[28]? = some (.int .i64 (x 24)) from rfl)
  have v29 := Lib.hid (show (callC x A n c)[29]? = some (.int .i64 (x 25)) from rfl)
  have v30 := Lib.hid (show (callC x A n c)[30]? = some (.int .i64 (x 26)) from rfl)
  have v31 := Lib.hid (show (callC x A n c)[31]? = some (.int .i64 (x 27)) from rfl)
  generalize callC x A n c = cs at kA fA hs hbig HCL v0 v1 v2 v3 v4 v5 v6 v7 v8 v9 v10 v11 v12 v13 v14 v15 v16 v17 v18 v19 v20 v21 v22 v23 v24 v25 v26 v27 v28 v29 v30 v31 ⊢
  go_enter Tryz.func4, Tryz.ntmps4
  go_wp2_with (refine wpList_load_row rfl 54 _ rfl w.heap.size rfl 54 _ (0, 0) _ kA.out Tryz.underlying54 rfl hs.out ?_)
  refine (hbig _).mono ?_
  rintro e w1 ⟨b, rfl, f1⟩
  clear hbig
  cases b
  rotate_left
  · go_wp2_with fail
    refine (awake_any _).mono ?_
    rintro e w2 ⟨rfl, f2⟩
    go_wp2_with fail
    go_ret
    exact ⟨rfl, fA.out.trans (f1.trans f2)⟩
  have K1 := Lib.hid (f1.heap kA.out (by simp))
  have F1 := Lib.hid (fA.out.trans f1)
  clear kA fA f1
  have kz := heap_alloc2_old w1 (.cells #[.int .i64 0, .int .i64 0, .int .i64 0, .int .i64 0, .int .i64 0, .int .i64 0, .int .i64 0, .int .i64 0, .int .i64 0, .int .i64 0, .int .i64 0, .int .i64 0, .int .i64 0, .int .i64 0, .int .i64 0, .int .i64 0, .int .i64 0, .int .i64 0, .int .i64 0, .int .i64 0, .int .i64 0, .int .i64 0, .pointer none, .pointer none, .bool false, .slice none 0 0, .slice none 0 0, .slice none 0 0, .slice none 0 0, .slice none 0 0] 65) (.cells #[.pointer none, .pointer (some ⟨w1.heap.size, 0, none⟩)] 56)
  have kq := heap_alloc2_new w1 (.cells #[.int .i64 0, .int .i64 0, .int .i64 0, .int .i64 0, .int .i64 0, .int .i64 0, .int .i64 0, .int .i64 0, .int .i64 0, .int .i64 0, .int .i64 0, .int .i64 0, .int .i64 0, .int .i64 0, .int .i64 0, .int .i64 0, .int .i64 0, .int .i64 0, .int .i64 0, .int .i64 0, .int .i64 0, .int .i64 0, .pointer none, .pointer none, .bool false, .slice none 0 0, .slice none 0 0, .slice none 0 0, .slice none 0 0, .slice none 0 0] 65) (.cells #[.pointer none, .pointer (some ⟨w1.heap.size, 0, none⟩)] 56)
  have fz : Frame w1 ((w1.alloc (.cells #[.int .i64 0, .int .i64 0, .int .i64 0, .int .i64 0, .int .i64 0, .int .i64 0, .int .i64 0, .int .i64 0, .int .i64 0, .int .i64 0, .int .i64 0, .int .i64 0, .int .i64 0, .int .i64 0, .int .i64 0, .int .i64 0, .int .i64 0, .int .i64 0, .int .i64 0, .int .i64 0, .int .i64 0, .int .i64 0, .pointer none, .pointer none, .bool false, .slice none 0 0, .slice none 0 0, .slice none 0 0, .slice none 0 0, .slice none 0 0] 65)).alloc (.cells #[.pointer none, .pointer (some ⟨w1.heap.size, 0, none⟩)] 56)) [] := ((Frame.refl w1 []).alloc _).alloc _
  go_wp2_with fail
  generalize (w1.alloc (.cells #[.int .i64 0, .int .i64 0, .int .i64 0, .int .i64 0, .int .i64 0, .int .i64 0, .int .i64 0, .int .i64 0, .int .i64 0, .int .i64 0, .int .i64 0, .int .i64 0, .int .i64 0, .int .i64 0, .int .i64 0, .int .i64 0, .int .i64 0, .int .i64 0, .int .i64 0, .int .i64 0, .int .i64 0, .int .i64 0, .pointer none, .pointer none, .bool false, .slice none 0 0, .slice none 0 0, .slice none 0 0, .slice none 0 0, .slice none 0 0] 65)).alloc (.cells #[.pointer none, .pointer (some ⟨w1.heap.size, 0, none⟩)] 56) = w2 at kz kq fz ⊢
  have KC := Lib.hid (fz.heap K1.out (by simp))
  have KZ := Lib.hid kz
  have KQ := Lib.hid kq
  have F2 := Lib.hid (F1.out.trans fz)
  have G2 := Lib.hid (Frame.refl w2 [])
  clear kz kq fz K1 F1
  refine wp_loop_rounds 3 ?_
  rw [rounds_succ]
  have q0 := cell_of_row _ _ 0 _ _ _ (G2.out.heap KQ.out (by simp))
  have d3 := (HCL.out w2 (G2.out.heap KC.out (by simp)) 3).trans v3.out
  go_wp2_with fail
  refine (feed_nil (.pointer none) (.slice (A 0) (n 0) (c 0)) w2 (.inl rfl)).mono ?_
  rintro e w3 ⟨rfl, ff⟩
  have G3 := Lib.hid (G2.out.trans ff)
  clear ff
  clear q0 d3
  have kx := heap_alloc_new w3 (.cells #[.int .i64 0, .int .i64 0, .int .i64 0, .int .i64 0] 68)
  have fx : Frame w3 (w3.alloc (.cells #[.int .i64 0, .int .i64 0, .int .i64 0, .int .i64 0] 68)) [] := (Frame.refl _ _).alloc _
  go_wp2_with fail
  generalize w3.alloc (.cells #[.int .i64 0, .int .i64 0, .int .i64 0, .int .i64 0] 68) = w4 at kx fx ⊢
  have G4 := Lib.hid (G3.out.trans fx)
  have KX0 := Lib.hid kx
  have H4 := Lib.hid (Frame.refl w4 [])
  clear kx fx
  refine (publish_nil (.pointer none)  w4 (.inl rfl)).mono ?_
  rintro e w5 ⟨rfl, ff⟩
  have G5 := Lib.hid (G4.out.trans ff)
  have H5 := Lib.hid (H4.out.trans ff)
  clear ff 
  have d1 := (HCL.out w5 (G5.out.heap KC.out (by simp)) 1).trans v1.out
  go_wp2_with fail
  refine (points_nil (.pointer none) (x 1) w5 (.inl rfl)).mono ?_
  rintro e w6 ⟨rfl, ff⟩
  have G6 := Lib.hid (G5.out.trans ff)
  have H6 := Lib.hid (H5.out.trans ff)
  clear ff d1
  have d1 := (HCL.out w6 (G6.out.heap KC.out (by simp)) 1).trans v1.out
  have d15 := (HCL.out w6 (G6.out.heap KC.out (by simp)) 15).trans v15.out
  have d16 := (HCL.out w6 (G6.out.heap KC.out (by simp)) 16).trans v16.out
  have d17 := (HCL.out w6 (G6.out.heap KC.out (by simp)) 17).trans v17.out
  have d18 := (HCL.out w6 (G6.out.heap KC.out (by simp)) 18).trans v18.out
  go_wp2_with fail
  refine (order_nil (.pointer none) (x 1) (x 13) (x 14) (A 2) (A 3) (n 2) (c 2) (n 3) (c 3) w6 (.inl rfl)).mono ?_
  rintro e w7 ⟨rfl, ff⟩
  have G7 := Lib.hid (G6.out.trans ff)
  have H7 := Lib.hid (H6.out.trans ff)
  clear ff d1 d15 d16 d17 d18
  have d1 := (HCL.out w7 (G7.out.heap KC.out (by simp)) 1).trans v1.out
  have d19 := (HCL.out w7 (G7.out.heap KC.out (by simp)) 19).trans v19.out
  have d20 := (HCL.out w7 (G7.out.heap KC.out (by simp)) 20).trans v20.out
  have d21 := (HCL.out w7 (G7.out.heap KC.out (by simp)) 21).trans v21.out
  have d22 := (HCL.out w7 (G7.out.heap KC.out (by simp)) 22).trans v22.out
  go_wp2_with fail
  refine (profile_nil (.pointer none) (x 1) (x 15) (x 16) (x 17) (x 18) w7 (.inl rfl)).mono ?_
  rintro e w8 ⟨rfl, ff⟩
  have G8 := Lib.hid (G7.out.trans ff)
  have H8 := Lib.hid (H7.out.trans ff)
  clear ff d1 d19 d20 d21 d22
  have d1 := (HCL.out w8 (G8.out.heap KC.out (by simp)) 1).trans v1.out
  have d2 := (HCL.out w8 (G8.out.heap KC.out (by simp)) 2).trans v2.out
  go_wp2_with fail
  refine (changes_nil (.pointer none) (x 1) (x 2) w8 (.inl rfl)).mono ?_
  rintro e w9 ⟨rfl, ff⟩
  have G9 := Lib.hid (G8.out.trans ff)
  have H9 := Lib.hid (H8.out.trans ff)
  clear ff d1 d2
  have d1 := (HCL.out w9 (G9.out.heap KC.out (by simp)) 1).trans v1.out
  have d2 := (HCL.out w9 (G9.out.heap KC.out (by simp)) 2).trans v2.out
  have d23 := (HCL.out w9 (G9.out.heap KC.out (by simp)) 23).trans v23.out
  have d24 := (HCL.out w9 (G9.out.heap KC.out (by simp)) 24).trans v24.out
  have d25 := (HCL.out w9 (G9.out.heap KC.out (by simp)) 25).trans v25.out
  have d26 := (HCL.out w9 (G9.out.heap KC.out (by simp)) 26).trans v26.out
  have d27 := (HCL.out w9 (G9.out.heap KC.out (by simp)) 27).trans v27.out
  have d28 := (HCL.out w9 (G9.out.heap KC.out (by simp)) 28).trans v28.out
  have d29 := (HCL.out w9 (G9.out.heap KC.out (by simp)) 29).trans v29.out
  go_wp2_with fail
  refine (change_nil (.pointer none) (x 1) (x 2) (x 19) (x 20) (x 21) (x 22) (x 23) (x 24) (x 25) w9 (.inl rfl)).mono ?_
  rintro e w10 ⟨rfl, ff⟩
  have G10 := Lib.hid (G9.out.trans ff)
  have H10 := Lib.hid (H9.out.trans ff)
  clear ff d1 d2 d23 d24 d25 d26 d27 d28 d29
  have d1 := (HCL.out w10 (G10.out.heap KC.out (by simp)) 1).trans v1.out
  have d2 := (HCL.out w10 (G10.out.heap KC.out (by simp)) 2).trans v2.out
  have d4 := (HCL.out w10 (G10.out.heap KC.out (by simp)) 4).trans v4.out
  have d5 := (HCL.out w10 (G10.out.heap KC.out (by simp)) 5).trans v5.out
  have d6 := (HCL.out w10 (G10.out.heap KC.out (by simp)) 6).trans v6.out
  have d7 := (HCL.out w10 (G10.out.heap KC.out (by simp)) 7).trans v7.out
  have d8 := (HCL.out w10 (G10.out.heap KC.out (by simp)) 8).trans v8.out
  have d9 := (HCL.out w10 (G10.out.heap KC.out (by simp)) 9).trans v9.out
  have d10 := (HCL.out w10 (G10.out.heap KC.out (by simp)) 10).trans v10.out
  have d11 := (HCL.out w10 (G10.out.heap KC.out (by simp)) 11).trans v11.out
  have d12 := (HCL.out w10 (G10.out.heap KC.out (by simp)) 12).trans v12.out
  have d13 := (HCL.out w10 (G10.out.heap KC.out (by simp)) 13).trans v13.out
  have d14 := (HCL.out w10 (G10.out.heap KC.out (by simp)) 14).trans v14.out
  go_wp2_with fail
  go_region_held3 (fun w' => w'.cell? ⟨w.heap.size, 1, none⟩ = some (.int .i64 (x 1)) ∧ w'.cell? ⟨w.heap.size, 2, none⟩ = some (.int .i64 (x 2)) ∧ w'.cell? ⟨w.heap.size, 4, none⟩ = some (.int .i64 (x 3)) ∧ w'.cell? ⟨w.heap.size, 5, none⟩ = some (.int .i64 (x 4)) ∧ w'.cell? ⟨w.heap.size, 6, none⟩ = some (.int .i64 (x 5)) ∧ w'.cell? ⟨w.heap.size, 7, none⟩ = some (.int .i64 (x 6)) ∧ w'.cell? ⟨w.heap.size, 8, none⟩ = some (.int .i64 (x 7)) ∧ w'.cell? ⟨w.heap.size, 9, none⟩ = some (.int .i64 (x 8)) ∧ w'.cell? ⟨w.heap.size, 10, none⟩ = some (.int .i64 (x 9)) ∧ w'.cell? ⟨w.heap.size, 11, none⟩ = some (.int .i64 (x 10)) ∧ w'.cell? ⟨w.heap.size, 12, none⟩ = some (.slice (A 1) (n 1) (c 1)) ∧ w'.cell? ⟨w.heap.size, 13, none⟩ = some (.int .i64 (x 11)) ∧ w'.cell? ⟨w.heap.size, 14, none⟩ = some (.int .i64 (x 12)))
    (first | go_keep | (go_split_ands; refine ⟨?_, ?_, ?_, ?_, ?_, ?_, ?_, ?_, ?_, ?_, ?_, ?_, ?_⟩ <;> first | exact fr4.cell (by assumption) (by simp) | exact fr3.cell (by assumption) (by simp) | exact fr2.cell (by assumption) (by simp) | exact fr1.cell (by assumption) (by simp) | exact fr0.cell (by assumption) (by simp)))
    (first
      | (go_at_call 16; refine (giveUp_nil (.pointer none) (x 1) (x 2) _ (.inl rfl)).mono ?_; rintro e wr0_0 ⟨rfl, fr0⟩)
      | (go_at_call 17; refine (tie_nil (.pointer none) (x 3) (x 4) (x 5) (x 6) (x 7) (x 8) (x 9) _ (.inl rfl)).mono ?_; rintro e wr0_1 ⟨rfl, fr1⟩)
      | (go_at_call 18; refine (correct_nil (.pointer none) (x 10) (x 11) (x 12) (A 1) (n 1) (c 1) _ (.inl rfl)).mono ?_; rintro e wr0_2 ⟨rfl, fr2⟩)
      | (go_at_call 19; refine (brk_nil (.pointer none) (x 1) (x 2) _ (.inl rfl)).mono ?_; rintro e wr0_3 ⟨rfl, fr3⟩)
      | (go_at_call 20; refine (reopen_nil (.pointer none)  _ (.inl rfl)).mono ?_; rintro e wr0_4 ⟨rfl, fr4⟩))
  have ke := heap_alloc_new wr0_4 (.cells #[.int .i64 2, .int .i64 2, .int .i64 2, .int .i64 2, .int .i64 2, .int .i64 2, .int .i64 2, .int .i64 2, .int .i64 2, .int .i64 2, .int .i64 2, .int .i64 2] 31)
  have ge := G10.out.trans ((Frame.refl w10 []).drew.trans (fr0.trans (fr1.trans (fr2.trans (fr3.trans (fr4.trans ((Frame.refl wr0_4 []).alloc (.cells #[.int .i64 2, .int .i64 2, .int .i64 2, .int .i64 2, .int .i64 2, .int .i64 2, .int .i64 2, .int .i64 2, .int .i64 2, .int .i64 2, .int .i64 2, .int .i64 2] 31))))))))
  have he := H10.out.trans ((Frame.refl w10 []).drew.trans (fr0.trans (fr1.trans (fr2.trans (fr3.trans (fr4.trans ((Frame.refl wr0_4 []).alloc (.cells #[.int .i64 2, .int .i64 2, .int .i64 2, .int .i64 2, .int .i64 2, .int .i64 2, .int .i64 2, .int .i64 2, .int .i64 2, .int .i64 2, .int .i64 2, .int .i64 2] 31))))))))
  clear fr0 fr1 fr2 fr3 fr4 d1 d2 d4 d5 d6 d7 d8 d9 d10 d11 d12 d13 d14
  go_wp2_with fail
  generalize hE : wr0_4.alloc (.cells #[.int .i64 2, .int .i64 2, .int .i64 2, .int .i64 2, .int .i64 2, .int .i64 2, .int .i64 2, .int .i64 2, .int .i64 2, .int .i64 2, .int .i64 2, .int .i64 2] 31) = w11 at ke ge he ⊢
  clear hE
  have G11 := Lib.hid ge
  have H11 := Lib.hid he
  clear ge he
  have e0 := cell_of_row _ _ 0 _ _ _ ke
  have e1 := cell_of_row _ _ 1 _ _ _ ke
  have e2 := cell_of_row _ _ 2 _ _ _ ke
  have e3 := cell_of_row _ _ 3 _ _ _ ke
  have e4 := cell_of_row _ _ 4 _ _ _ ke
  have e5 := cell_of_row _ _ 5 _ _ _ ke
  have e6 := cell_of_row _ _ 6 _ _ _ ke
  have e7 := cell_of_row _ _ 7 _ _ _ ke
  have e8 := cell_of_row _ _ 8 _ _ _ ke
  have e9 := cell_of_row _ _ 9 _ _ _ ke
  have e10 := cell_of_row _ _ 10 _ _ _ ke
  have e11 := cell_of_row _ _ 11 _ _ _ ke
  clear ke
  refine wp_loop_rounds 13 ?_
  rw [rounds_succ]
  go_wp2_with fail
  rw [rounds_succ]
  go_wp2_with fail
  rw [rounds_succ]
  go_wp2_with fail
  rw [rounds_succ]
  go_wp2_with fail
  rw [rounds_succ]
  go_wp2_with fail
  rw [rounds_succ]
  go_wp2_with fail
  rw [rounds_succ]
  go_wp2_with fail
  rw [rounds_succ]
  go_wp2_with fail
  rw [rounds_succ]
  go_wp2_with fail
  rw [rounds_succ]
  go_wp2_with fail
  rw [rounds_succ]
  go_wp2_with fail
  rw [rounds_succ]
  go_wp2_with fail
  clear e0 e1 e2 e3 e4 e5 e6 e7 e8 e9 e10 e11
  rw [rounds_succ]
  have x0 := cell_of_row _ _ 0 _ _ _ (H11.out.heap KX0.out (by simp))
  have x1 := cell_of_row _ _ 1 _ _ _ (H11.out.heap KX0.out (by simp))
  have x2 := cell_of_row _ _ 2 _ _ _ (H11.out.heap KX0.out (by simp))
  have x3 := cell_of_row _ _ 3 _ _ _ (H11.out.heap KX0.out (by simp))
  go_wp2_with fail
  refine (strips_nil (.pointer none) w11 (.inl rfl)).mono ?_
  rintro e w12 ⟨rfl, ff⟩
  have G12 := Lib.hid (G11.out.trans ff)
  clear ff
  clear x0 x1 x2 x3
  go_wp2_with fail
  refine (version_nil (.pointer none) w12 (.inl rfl)).mono ?_
  rintro e w13 ⟨rfl, ff⟩
  have G13 := Lib.hid (G12.out.trans ff)
  clear ff
  go_wp2_with fail
  rw [rounds_succ]
  have q1 := cell_of_row _ _ 1 _ _ _ (G13.out.heap KQ.out (by simp))
  have d3 := (HCL.out w13 (G13.out.heap KC.out (by simp)) 3).trans v3.out
  go_wp2_with fail
  refine (feed_nil (.pointer (some ⟨w1.heap.size, 0, none⟩)) (.slice (A 0) (n 0) (c 0)) w13 (.inr ⟨_, rfl, cell_of_row _ _ 23 _ _ _ (G13.out.heap KZ.out (by simp))⟩)).mono ?_
  rintro e w14 ⟨rfl, ff⟩
  have G14 := Lib.hid (G13.out.trans ff)
  clear ff
  clear q1 d3
  have kx := heap_alloc_new w14 (.cells #[.int .i64 0, .int .i64 0, .int .i64 0, .int .i64 0] 68)
  have fx : Frame w14 (w14.alloc (.cells #[.int .i64 0, .int .i64 0, .int .i64 0, .int .i64 0] 68)) [] := (Frame.refl _ _).alloc _
  go_wp2_with fail
  generalize w14.alloc (.cells #[.int .i64 0, .int .i64 0, .int .i64 0, .int .i64 0] 68) = w15 at kx fx ⊢
  have G15 := Lib.hid (G14.out.trans fx)
  have KX1 := Lib.hid kx
  have H15 := Lib.hid (Frame.refl w15 [])
  clear kx fx
  refine (publish_nil (.pointer (some ⟨w1.heap.size, 0, none⟩))  w15 (.inr ⟨_, rfl, cell_of_row _ _ 23 _ _ _ (G15.out.heap KZ.out (by simp))⟩)).mono ?_
  rintro e w16 ⟨rfl, ff⟩
  have G16 := Lib.hid (G15.out.trans ff)
  have H16 := Lib.hid (H15.out.trans ff)
  clear ff 
  have d1 := (HCL.out w16 (G16.out.heap KC.out (by simp)) 1).trans v1.out
  go_wp2_with fail
  refine (points_nil (.pointer (some ⟨w1.heap.size, 0, none⟩)) (x 1) w16 (.inr ⟨_, rfl, cell_of_row _ _ 23 _ _ _ (G16.out.heap KZ.out (by simp))⟩)).mono ?_
  rintro e w17 ⟨rfl, ff⟩
  have G17 := Lib.hid (G16.out.trans ff)
  have H17 := Lib.hid (H16.out.trans ff)
  clear ff d1
  have d1 := (HCL.out w17 (G17.out.heap KC.out (by simp)) 1).trans v1.out
  have d15 := (HCL.out w17 (G17.out.heap KC.out (by simp)) 15).trans v15.out
  have d16 := (HCL.out w17 (G17.out.heap KC.out (by simp)) 16).trans v16.out
  have d17 := (HCL.out w17 (G17.out.heap KC.out (by simp)) 17).trans v17.out
  have d18 := (HCL.out w17 (G17.out.heap KC.out (by simp)) 18).trans v18.out
  go_wp2_with fail
  refine (order_nil (.pointer (some ⟨w1.heap.size, 0, none⟩)) (x 1) (x 13) (x 14) (A 2) (A 3) (n 2) (c 2) (n 3) (c 3) w17 (.inr ⟨_, rfl, cell_of_row _ _ 23 _ _ _ (G17.out.heap KZ.out (by simp))⟩)).mono ?_
  rintro e w18 ⟨rfl, ff⟩
  have G18 := Lib.hid (G17.out.trans ff)
  have H18 := Lib.hid (H17.out.trans ff)
  clear ff d1 d15 d16 d17 d18
  have d1 := (HCL.out w18 (G18.out.heap KC.out (by simp)) 1).trans v1.out
  have d19 := (HCL.out w18 (G18.out.heap KC.out (by simp)) 19).trans v19.out
  have d20 := (HCL.out w18 (G18.out.heap KC.out (by simp)) 20).trans v20.out
  have d21 := (HCL.out w18 (G18.out.heap KC.out (by simp)) 21).trans v21.out
  have d22 := (HCL.out w18 (G18.out.heap KC.out (by simp)) 22).trans v22.out
  go_wp2_with fail
  refine (profile_nil (.pointer (some ⟨w1.heap.size, 0, none⟩)) (x 1) (x 15) (x 16) (x 17) (x 18) w18 (.inr ⟨_, rfl, cell_of_row _ _ 23 _ _ _ (G18.out.heap KZ.out (by simp))⟩)).mono ?_
  rintro e w19 ⟨rfl, ff⟩
  have G19 := Lib.hid (G18.out.trans ff)
  have H19 := Lib.hid (H18.out.trans ff)
  clear ff d1 d19 d20 d21 d22
  have d1 := (HCL.out w19 (G19.out.heap KC.out (by simp)) 1).trans v1.out
  have d2 := (HCL.out w19 (G19.out.heap KC.out (by simp)) 2).trans v2.out
  go_wp2_with fail
  refine (changes_nil (.pointer (some ⟨w1.heap.size, 0, none⟩)) (x 1) (x 2) w19 (.inr ⟨_, rfl, cell_of_row _ _ 23 _ _ _ (G19.out.heap KZ.out (by simp))⟩)).mono ?_
  rintro e w20 ⟨rfl, ff⟩
  have G20 := Lib.hid (G19.out.trans ff)
  have H20 := Lib.hid (H19.out.trans ff)
  clear ff d1 d2
  have d1 := (HCL.out w20 (G20.out.heap KC.out (by simp)) 1).trans v1.out
  have d2 := (HCL.out w20 (G20.out.heap KC.out (by simp)) 2).trans v2.out
  have d23 := (HCL.out w20 (G20.out.heap KC.out (by simp)) 23).trans v23.out
  have d24 := (HCL.out w20 (G20.out.heap KC.out (by simp)) 24).trans v24.out
  have d25 := (HCL.out w20 (G20.out.heap KC.out (by simp)) 25).trans v25.out
  have d26 := (HCL.out w20 (G20.out.heap KC.out (by simp)) 26).trans v26.out
  have d27 := (HCL.out w20 (G20.out.heap KC.out (by simp)) 27).trans v27.out
  have d28 := (HCL.out w20 (G20.out.heap KC.out (by simp)) 28).trans v28.out
  have d29 := (HCL.out w20 (G20.out.heap KC.out (by simp)) 29).trans v29.out
  go_wp2_with fail
  refine (change_nil (.pointer (some ⟨w1.heap.size, 0, none⟩)) (x 1) (x 2) (x 19) (x 20) (x 21) (x 22) (x 23) (x 24) (x 25) w20 (.inr ⟨_, rfl, cell_of_row _ _ 23 _ _ _ (G20.out.heap KZ.out (by simp))⟩)).mono ?_
  rintro e w21 ⟨rfl, ff⟩
  have G21 := Lib.hid (G20.out.trans ff)
  have H21 := Lib.hid (H20.out.trans ff)
  clear ff d1 d2 d23 d24 d25 d26 d27 d28 d29
  have d1 := (HCL.out w21 (G21.out.heap KC.out (by simp)) 1).trans v1.out
  have d2 := (HCL.out w21 (G21.out.heap KC.out (by simp)) 2).trans v2.out
  have d4 := (HCL.out w21 (G21.out.heap KC.out (by simp)) 4).trans v4.out
  have d5 := (HCL.out w21 (G21.out.heap KC.out (by simp)) 5).trans v5.out
  have d6 := (HCL.out w21 (G21.out.heap KC.out (by simp)) 6).trans v6.out
  have d7 := (HCL.out w21 (G21.out.heap KC.out (by simp)) 7).trans v7.out
  have d8 := (HCL.out w21 (G21.out.heap KC.out (by simp)) 8).trans v8.out
  have d9 := (HCL.out w21 (G21.out.heap KC.out (by simp)) 9).trans v9.out
  have d10 := (HCL.out w21 (G21.out.heap KC.out (by simp)) 10).trans v10.out
  have d11 := (HCL.out w21 (G21.out.heap KC.out (by simp)) 11).trans v11.out
  have d12 := (HCL.out w21 (G21.out.heap KC.out (by simp)) 12).trans v12.out
  have d13 := (HCL.out w21 (G21.out.heap KC.out (by simp)) 13).trans v13.out
  have d14 := (HCL.out w21 (G21.out.heap KC.out (by simp)) 14).trans v14.out
  have dz := cell_of_row _ _ 23 _ _ _ (G21.out.heap KZ.out (by simp))
  go_wp2_with fail
  go_region_held3 (fun w' => w'.cell? ⟨w.heap.size, 1, none⟩ = some (.int .i64 (x 1)) ∧ w'.cell? ⟨w.heap.size, 2, none⟩ = some (.int .i64 (x 2)) ∧ w'.cell? ⟨w.heap.size, 4, none⟩ = some (.int .i64 (x 3)) ∧ w'.cell? ⟨w.heap.size, 5, none⟩ = some (.int .i64 (x 4)) ∧ w'.cell? ⟨w.heap.size, 6, none⟩ = some (.int .i64 (x 5)) ∧ w'.cell? ⟨w.heap.size, 7, none⟩ = some (.int .i64 (x 6)) ∧ w'.cell? ⟨w.heap.size, 8, none⟩ = some (.int .i64 (x 7)) ∧ w'.cell? ⟨w.heap.size, 9, none⟩ = some (.int .i64 (x 8)) ∧ w'.cell? ⟨w.heap.size, 10, none⟩ = some (.int .i64 (x 9)) ∧ w'.cell? ⟨w.heap.size, 11, none⟩ = some (.int .i64 (x 10)) ∧ w'.cell? ⟨w.heap.size, 12, none⟩ = some (.slice (A 1) (n 1) (c 1)) ∧ w'.cell? ⟨w.heap.size, 13, none⟩ = some (.int .i64 (x 11)) ∧ w'.cell? ⟨w.heap.size, 14, none⟩ = some (.int .i64 (x 12)) ∧ w'.cell? ⟨w1.heap.size, 23, none⟩ = some (.pointer none))
    (first | go_keep | (go_split_ands; refine ⟨?_, ?_, ?_, ?_, ?_, ?_, ?_, ?_, ?_, ?_, ?_, ?_, ?_, ?_⟩ <;> first | exact fr4.cell (by assumption) (by simp) | exact fr3.cell (by assumption) (by simp) | exact fr2.cell (by assumption) (by simp) | exact fr1.cell (by assumption) (by simp) | exact fr0.cell (by assumption) (by simp)))
    (first
      | (go_at_call 16; refine (giveUp_nil (.pointer (some ⟨w1.heap.size, 0, none⟩)) (x 1) (x 2) _ (.inr ⟨_, rfl, (by go_split_ands; assumption)⟩)).mono ?_; rintro e wr1_0 ⟨rfl, fr0⟩)
      | (go_at_call 17; refine (tie_nil (.pointer (some ⟨w1.heap.size, 0, none⟩)) (x 3) (x 4) (x 5) (x 6) (x 7) (x 8) (x 9) _ (.inr ⟨_, rfl, (by go_split_ands; assumption)⟩)).mono ?_; rintro e wr1_1 ⟨rfl, fr1⟩)
      | (go_at_call 18; refine (correct_nil (.pointer (some ⟨w1.heap.size, 0, none⟩)) (x 10) (x 11) (x 12) (A 1) (n 1) (c 1) _ (.inr ⟨_, rfl, (by go_split_ands; assumption)⟩)).mono ?_; rintro e wr1_2 ⟨rfl, fr2⟩)
      | (go_at_call 19; refine (brk_nil (.pointer (some ⟨w1.heap.size, 0, none⟩)) (x 1) (x 2) _ (.inr ⟨_, rfl, (by go_split_ands; assumption)⟩)).mono ?_; rintro e wr1_3 ⟨rfl, fr3⟩)
      | (go_at_call 20; refine (reopen_nil (.pointer (some ⟨w1.heap.size, 0, none⟩))  _ (.inr ⟨_, rfl, (by go_split_ands; assumption)⟩)).mono ?_; rintro e wr1_4 ⟨rfl, fr4⟩))
  have ke := heap_alloc_new wr1_4 (.cells #[.int .i64 2, .int .i64 2, .int .i64 2, .int .i64 2, .int .i64 2, .int .i64 2, .int .i64 2, .int .i64 2, .int .i64 2, .int .i64 2, .int .i64 2, .int .i64 2] 31)
  have ge := G21.out.trans ((Frame.refl w21 []).drew.trans (fr0.trans (fr1.trans (fr2.trans (fr3.trans (fr4.trans ((Frame.refl wr1_4 []).alloc (.cells #[.int .i64 2, .int .i64 2, .int .i64 2, .int .i64 2, .int .i64 2, .int .i64 2, .int .i64 2, .int .i64 2, .int .i64 2, .int .i64 2, .int .i64 2, .int .i64 2] 31))))))))
  have he := H21.out.trans ((Frame.refl w21 []).drew.trans (fr0.trans (fr1.trans (fr2.trans (fr3.trans (fr4.trans ((Frame.refl wr1_4 []).alloc (.cells #[.int .i64 2, .int .i64 2, .int .i64 2, .int .i64 2, .int .i64 2, .int .i64 2, .int .i64 2, .int .i64 2, .int .i64 2, .int .i64 2, .int .i64 2, .int .i64 2] 31))))))))
  clear fr0 fr1 fr2 fr3 fr4 d1 d2 d4 d5 d6 d7 d8 d9 d10 d11 d12 d13 d14 dz
  go_wp2_with fail
  generalize hE : wr1_4.alloc (.cells #[.int .i64 2, .int .i64 2, .int .i64 2, .int .i64 2, .int .i64 2, .int .i64 2, .int .i64 2, .int .i64 2, .int .i64 2, .int .i64 2, .int .i64 2, .int .i64 2] 31) = w22 at ke ge he ⊢
  clear hE
  have G22 := Lib.hid ge
  have H22 := Lib.hid he
  clear ge he
  have e0 := cell_of_row _ _ 0 _ _ _ ke
  have e1 := cell_of_row _ _ 1 _ _ _ ke
  have e2 := cell_of_row _ _ 2 _ _ _ ke
  have e3 := cell_of_row _ _ 3 _ _ _ ke
  have e4 := cell_of_row _ _ 4 _ _ _ ke
  have e5 := cell_of_row _ _ 5 _ _ _ ke
  have e6 := cell_of_row _ _ 6 _ _ _ ke
  have e7 := cell_of_row _ _ 7 _ _ _ ke
  have e8 := cell_of_row _ _ 8 _ _ _ ke
  have e9 := cell_of_row _ _ 9 _ _ _ ke
  have e10 := cell_of_row _ _ 10 _ _ _ ke
  have e11 := cell_of_row _ _ 11 _ _ _ ke
  clear ke
  refine wp_loop_rounds 13 ?_
  rw [rounds_succ]
  go_wp2_with fail
  rw [rounds_succ]
  go_wp2_with fail
  rw [rounds_succ]
  go_wp2_with fail
  rw [rounds_succ]
  go_wp2_with fail
  rw [rounds_succ]
  go_wp2_with fail
  rw [rounds_succ]
  go_wp2_with fail
  rw [rounds_succ]
  go_wp2_with fail
  rw [rounds_succ]
  go_wp2_with fail
  rw [rounds_succ]
  go_wp2_with fail
  rw [rounds_succ]
  go_wp2_with fail
  rw [rounds_succ]
  go_wp2_with fail
  rw [rounds_succ]
  go_wp2_with fail
  clear e0 e1 e2 e3 e4 e5 e6 e7 e8 e9 e10 e11
  rw [rounds_succ]
  have x0 := cell_of_row _ _ 0 _ _ _ (H22.out.heap KX1.out (by simp))
  have x1 := cell_of_row _ _ 1 _ _ _ (H22.out.heap KX1.out (by simp))
  have x2 := cell_of_row _ _ 2 _ _ _ (H22.out.heap KX1.out (by simp))
  have x3 := cell_of_row _ _ 3 _ _ _ (H22.out.heap KX1.out (by simp))
  go_wp2_with fail
  refine (strips_nil (.pointer (some ⟨w1.heap.size, 0, none⟩)) w22 (.inr ⟨_, rfl, cell_of_row _ _ 23 _ _ _ (G22.out.heap KZ.out (by simp))⟩)).mono ?_
  rintro e w23 ⟨rfl, ff⟩
  have G23 := Lib.hid (G22.out.trans ff)
  clear ff
  clear x0 x1 x2 x3
  go_wp2_with fail
  refine (version_nil (.pointer (some ⟨w1.heap.size, 0, none⟩)) w23 (.inr ⟨_, rfl, cell_of_row _ _ 23 _ _ _ (G23.out.heap KZ.out (by simp))⟩)).mono ?_
  rintro e w24 ⟨rfl, ff⟩
  have G24 := Lib.hid (G23.out.trans ff)
  clear ff
  go_wp2_with fail
  rw [rounds_succ]
  go_wp2_with fail
  refine (awake_any _).mono ?_
  rintro e wz ⟨rfl, fz⟩
  go_wp2_with fail
  go_ret
  exact ⟨rfl, F2.out.trans (G24.out.trans fz)⟩
end Go.Proofs.YtpkfgmebngpfkaaGreat
