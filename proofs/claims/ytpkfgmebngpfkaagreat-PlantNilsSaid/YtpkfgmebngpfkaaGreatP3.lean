/- The checksum behind bytes; numbers behind bytes. No condition. -/
import Derived.Test.YtpkfgmebngpfkaaGreatP2
import Derived.Laws.CopyOwn
import Derived.Laws.MakeOwn
import Derived.Laws.OwnMore
namespace Go.Proofs.YtpkfgmebngpfkaaGreat
open Go.RowKit Go

/-- A row of bytes that a call has made. -/
def Ob (w : World) (base : Nat) (v : Value) (l : List Int) : Prop := w.ownsRow base 5 1 v l.length (ub l)
theorem Ob.bv {w : World} {base : Nat} {v : Value} {l : List Int} (h : Ob w base v l) : Bv w v l := Rd.of_own h

def AppPost (w : World) (base : Nat) (v : Value) (l : List Int) (e : Ending) (w' : World) : Prop :=
  ∃ v', e = .returned v' ∧ Ob w' base v' l ∧ Frame w w' v.ownBlock.toList ∧ (v'.ownBlock = v.ownBlock ∨ ∃ k, v'.ownBlock = some k ∧ w.heap.size ≤ k)
def crcTail (l : List Int) : List Int := [crcEnd l / 16777216 % 256, crcEnd l / 65536 % 256, crcEnd l / 256 % 256, crcEnd l % 256]

set_option maxRecDepth 100000 in
set_option maxHeartbeats 1000000 in
theorem checked_any (base : Nat) (v : Value) (l : List Int) (w : World) (h : Ob w base v l) (hb : base ≤ w.heap.size) (hl : l.length ≤ 900) :
    Calls Tryz.prog 76 #[v] w (AppPost w base v (l ++ crcTail l)) := by
  obtain ⟨i0, hi0, hz0, hz1, hz2⟩ := info_parts info_u8
  have hv := h.bv
  obtain ⟨A, c, hvs⟩ := own_len h
  subst hvs
  have H := Lib.hid h
  clear h
  go_enter Tryz.func76, Tryz.ntmps76
  go_wp2_with (first
    | (go_at_call 136; refine (crc_any _ l _ hv (by omega)).mono ?_; rintro e w' ⟨rfl, rfl⟩)
    | (at_builtin; refine wpList_app _ rfl (.tmp 6) (.tmp 18) _ rfl base 5 i0 _ 1 1 Tryz.underlying38 hi0 hz0 hz1 hz2 rfl (by omega) (.slice A l.length c) l.length (ub l) rfl ?c1 (.slice (some ⟨w.heap.size, 0, none⟩) 4 4) 4 (ub (crcTail l)) rfl ?c2 (ub_one _) ?c4 ?c5 ?c6 ?_))
  case c1 => exact H.out.alloc _
  case c2 =>
    refine ⟨rfl, _, 4, rfl, Nat.le_refl _, (fun e => by cases e), fun a ha j u hu => ?_⟩
    obtain rfl := Option.some.inj ha
    rw [Addr.add_lit, cell_of_row _ _ _ _ _ _ (heap_alloc_new _ _)]
    rw [← Array.getElem?_toList, Nat.zero_add]
    exact hu
  case c4 => unfold maxLen; omega
  case c5 => omega
  case c6 => simp; omega
  intro v' w' hown hg hob _
  obtain ⟨A', c', rfl⟩ := own_len hown
  go_wp2_with fail
  go_ret
  refine ⟨_, rfl, ?_, ((Frame.refl w _).alloc _).grown hg ?_, ?_⟩
  · unfold Ob
    rw [ub_append, List.length_append]
    exact hown
  · intro k hk _
    simpa using hk
  · rcases hob with h | h
    · exact .inl h
    · exact .inr ⟨_, h, by simp⟩

def NumPost (w : World) (l : List Int) (e : Ending) (w' : World) : Prop :=
  ∃ v', e = .returned (.tuple #[v', .int .i64 0]) ∧ Ob w' w.heap.size v' l ∧ Frame w w' []

theorem Frame.row {w w' : World} {F : List Nat} (h : Frame w w' F) (g : Nat) (cs : Array Value) (hg : g < w.heap.size → g ∈ F) : Frame w (w'.setRow g cs) F :=
  ⟨h.os, h.tape, h.output, by simpa [World.setRow] using h.size, fun k hk hn => (setRow_other w' g k cs (fun e => hn (e ▸ hg (e ▸ hk)))).trans (h.block k hk hn)⟩

set_option maxRecDepth 100000 in
set_option maxHeartbeats 1000000 in
theorem number_any (v : Value) (l : List Int) (n : Int) (w : World) (h : Bv w v l) (hl : l.length ≤ 900) (h0 : 0 ≤ n) (h1 : n < 128) :
    Calls Tryz.prog 73 #[v, .int .i64 n] w (NumPost w (l ++ [n])) := by
  obtain ⟨i0, hi0, hz0, hz1, hz2⟩ := info_parts info_u8
  obtain ⟨A, c, rfl, hac⟩ := h.shape
  have hmk := run_makeSlice (P := Tryz.prog) w 38 5 i0 _ Tryz.underlying38 hi0 hz0 .i64 .i64 l.length (l.length + 9) (by omega) (by omega) (by rw [hz1]; omega) (by rw [hz2]; omega) (by omega)
  have e1 : (l.length + 9 : Int).toNat * i0.size = l.length + 9 := by rw [hz1]; omega
  have e2 : ((l.length : Int) + 9).toNat = l.length + 9 := by omega
  rw [e1, e2, Int.toNat_natCast] at hmk
  have hc : (madeCells (Value.int .u8 0).cells (l.length + 9)).toList = ub (List.replicate (l.length + 9) 0) := (toList_madeCells_one _ _).trans (by simp [ub])
  have f1 : Frame w (w.alloc (.cells (madeCells (Value.int .u8 0).cells (l.length + 9)) 5)) [] := (Frame.refl w []).alloc _
  have k1 : (w.alloc (.cells (madeCells (Value.int .u8 0).cells (l.length + 9)) 5)).heap[w.heap.size]? = some (.cells (madeCells (Value.int .u8 0).cells (l.length + 9)) 5 (0, 0)) := heap_alloc_new _ _
  have s1 : (w.alloc (.cells (madeCells (Value.int .u8 0).cells (l.length + 9)) 5)).heap.size = w.heap.size + 1 := by simp
  generalize madeCells (Value.int .u8 0).cells (l.length + 9) = mc at hmk hc f1 k1 s1
  obtain rfl : mc = (ub (List.replicate (l.length + 9) 0)).toArray := by rw [← hc]
  generalize w.alloc (.cells (ub (List.replicate (l.length + 9) 0)).toArray 5) = w1 at hmk f1 k1 s1
  have hv := h.frame f1 (by simp)
  have HV := Lib.hid hv
  have F1 := Lib.hid f1
  have K1 := Lib.hid k1
  have S1 := Lib.hid s1
  have E1 := Lib.hid (show ((ub l).length : Nat) = l.length from ub_length l)
  clear h hv e1 e2 hc f1 k1 s1
  go_enter Tryz.func73, Tryz.ntmps73
  go_wp2_with (with_reducible refine wpList_copy_splice rfl (.tmp 19) (.tmp 20) _ _ rfl 5 Tryz.underlying38 (by kernel_rfl) (some ⟨w.heap.size, 0, none⟩) A l.length (l.length + 9) l.length c rfl rfl w.heap.size 0 (ub (List.replicate (l.length + 9) 0)) _ K1.out (ub l) ?d1 ?d2 ?d3 (ub_one _) w.heap.size w ?d4 (Nat.le_refl _) ?_)
  case d1 => rw [E1.out]; exact (Nat.min_self _).symm
  case d2 =>
    intro hp
    cases A with
    | none =>
      obtain ⟨rfl, _, _⟩ := HV.out.nil_of_none
      simp [ub] at hp
    | some a =>
      obtain ⟨_, A', c', hv, _, _, h4⟩ := HV.out
      simp only [Value.slice.injEq] at hv
      exact ⟨a, rfl, h4 a hv.1.symm⟩
  case d3 => rw [ub_length, ub_length, List.length_replicate]; omega
  case d4 => exact F1.out.below
  intro w2 hk2 hb2
  have hsp : splice (ub (List.replicate (l.length + 9) 0)) 0 (ub l) = ub (l ++ List.replicate 9 0) := by
    unfold splice
    rw [ub_length, ub_append]
    simp [ub]
  have hown : Ob w2 w.heap.size (.slice (some ⟨w.heap.size, 0, none⟩) l.length (l.length + 9)) l := by
    refine ⟨by simp [ub], .inr ⟨_, _, _, rfl, Nat.le_refl _, hk2.out, by omega, by unfold maxLen; omega, by rw [hsp]; simp [ub], ?_⟩⟩
    rw [hsp, ub_append]
    simp [ub]
  have HO := Lib.hid hown
  have F2 := Lib.hid (Frame.of_below hb2 (Nat.le_refl _) [])
  clear hk2 hb2 hown hsp hmk
  go_wp2_with fail
  refine wp_loop_rounds 1 ?_
  rw [rounds_succ]
  go_wp2_with (at_builtin; refine wpList_app _ rfl (.tmp 33) (.tmp 36) _ rfl w.heap.size 5 i0 _ 1 1 Tryz.underlying38 hi0 hz0 hz1 hz2 rfl (by omega) (.slice (some ⟨w.heap.size, 0, none⟩) l.length (l.length + 9)) l.length (ub l) rfl ?c1 (.slice (some ⟨w2.heap.size, 0, none⟩) 1 1) 1 (ub [n]) rfl ?c2 (ub_one _) ?c4 ?c5 ?c6 ?_)
  case c1 => exact HO.out.alloc _
  case c2 =>
    refine ⟨rfl, _, 1, rfl, Nat.le_refl _, (fun e => by cases e), fun a ha j u hu => ?_⟩
    obtain rfl := Option.some.inj ha
    rw [Addr.add_lit, cell_of_row _ _ _ _ _ _ (heap_alloc_new _ _)]
    rw [← Array.getElem?_toList, Nat.zero_add]
    exact hu
  case c4 => unfold maxLen; omega
  case c5 => omega
  case c6 => have := F2.out.size; simp; omega
  intro v' w3 hown hg hob _
  obtain ⟨A', c', rfl⟩ := own_len hown
  go_wp2_with fail
  go_ret2
  refine ⟨_, rfl, ?_, (F2.out.alloc _).grown hg ?_⟩
  · unfold Ob
    rw [ub_append, List.length_append]
    exact hown
  · intro k hk hlt
    simp [Value.ownBlock] at hk
    omega
end Go.Proofs.YtpkfgmebngpfkaaGreat
