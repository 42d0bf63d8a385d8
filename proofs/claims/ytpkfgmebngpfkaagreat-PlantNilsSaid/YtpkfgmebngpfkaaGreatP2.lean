/- Bytes in memory, and the checksum over them. No condition. -/
import Derived.Test.YtpkfgmebngpfkaaGreatP1
namespace Go.Proofs.YtpkfgmebngpfkaaGreat
open Go.RowKit

/-- Bytes as cells. -/
def ub (l : List Int) : List Value := l.map fun n => Value.int .u8 n
theorem ub_length (l : List Int) : (ub l).length = l.length := by simp [ub]
theorem ub_append (a b : List Int) : ub (a ++ b) = ub a ++ ub b := by simp [ub]
theorem ub_one (l : List Int) : ∀ u ∈ ub l, u.oneCell' = true := by
  intro u hu
  obtain ⟨c, _, rfl⟩ := List.mem_map.1 hu
  rfl
theorem ub_at {l : List Int} {i : Nat} {x : Int} (h : l[i]? = some x) : (ub l)[i]? = some (.int .u8 x) := by simp [ub, h]
def Bv (w : World) (v : Value) (l : List Int) : Prop := Rd w v l.length 1 (ub l)
theorem Bv.frame {w w' : World} {F : List Nat} {v : Value} {l : List Int} (h : Bv w v l) (hf : Frame w w' F) (hn : ∀ k, v.ownBlock = some k → k ∉ F) : Bv w' v l := Rd.frame h hf hn
theorem Bv.cell {w : World} {a : Addr} {n c : Nat} {l : List Int} (h : Bv w (.slice (some a) n c) l) {i : Nat} {x : Int} (hx : l[i]? = some x) : w.cell? (a.add i) = some (.int .u8 x) := by
  obtain ⟨_, A, c', hv, _, _, h4⟩ := h
  simp only [Value.slice.injEq] at hv
  exact h4 a hv.1.symm i _ (ub_at hx)
theorem Bv.shape {w : World} {v : Value} {l : List Int} (h : Bv w v l) : ∃ A c, v = .slice A l.length c ∧ l.length ≤ c := by
  obtain ⟨_, A, c, rfl, h2, _, _⟩ := h
  exact ⟨A, c, rfl, h2⟩
theorem Bv.nil_of_none {w : World} {n c : Nat} {l : List Int} (h : Bv w (.slice none n c) l) : l = [] ∧ n = 0 ∧ c = 0 := by
  obtain ⟨_, A, c', hv, h2, h3, _⟩ := h
  simp only [Value.slice.injEq] at hv
  obtain ⟨rfl, rfl, rfl⟩ := hv
  have := h3 rfl
  subst this
  have h0 : l.length = 0 := by omega
  exact ⟨List.eq_nil_of_length_eq_zero h0, h0, rfl⟩

/-- A bit, a byte, all bytes of the checksum, as the walk spells them. -/
def crcBit (c : Int) : Int := if (bits BinOp.and IntKind.u32 c 1 == 1) = true then bits BinOp.xor IntKind.u32 (c / 2) 3988292384 else c / 2
def crcBits (c : Int) : Nat → Int
  | 0 => c
  | n + 1 => crcBit (crcBits c n)
def crcByte (c x : Int) : Int := crcBits (bits BinOp.xor IntKind.u32 c (x % 4294967296)) 8
def crcL (l : List Int) : Int := l.foldl crcByte 4294967295
theorem crcL_snoc (l : List Int) (i : Nat) (x : Int) (h : l[i]? = some x) : crcL (l.take (i + 1)) = crcByte (crcL (l.take i)) x := by
  obtain ⟨hi, rfl⟩ := List.getElem?_eq_some_iff.1 h
  unfold crcL
  rw [List.take_succ_eq_append_getElem hi, List.foldl_append]
  rfl
def crcEnd (l : List Int) : Int := bits BinOp.xor IntKind.u32 IntKind.u32.max (crcL l)

def CrcOut (w : World) (l : List Int) (vc vi : Value) (wr : World) : Prop := ∃ i : Nat, vc = .int .u32 (crcL (l.take i)) ∧ vi = .int .i64 i ∧ i ≤ l.length ∧ wr = w
def CrcIn (w : World) (c0 : Int) (vc vi : Value) (wr : World) : Prop := ∃ i : Nat, vc = .int .u32 (crcBits c0 i) ∧ vi = .int .i64 i ∧ i ≤ 8 ∧ wr = w

set_option maxRecDepth 100000 in
set_option maxHeartbeats 1000000 in
theorem crc_any (v : Value) (l : List Int) (w : World) (h : Bv w v l) (hl : l.length ≤ 1000) :
    Calls Tryz.prog 136 #[v] w fun e w' => e = .returned (.int .u32 (crcEnd l)) ∧ w = w' := by
  obtain ⟨A, c, rfl, hac⟩ := h.shape
  cases A with
  | none =>
    obtain ⟨rfl, _, rfl⟩ := h.nil_of_none
    clear h
    go_enter Tryz.func136, Tryz.ntmps136
    go_wp2_with fail
    refine wp_loop_rounds 1 ?_
    rw [rounds_succ]
    go_wp2_with fail
    go_ret
    exact ⟨rfl, rfl⟩
  | some a =>
  have H := Lib.hid h
  clear h
  go_enter Tryz.func136, Tryz.ntmps136
  go_wp2_with fail
  go_loopw [3, 8] (fun vc vi wr => CrcOut w l vc vi wr) (fun _ vi _ => l.length - (intOf vi).toNat)
  case atStart => exact ⟨0, rfl, rfl, Nat.zero_le _, rfl⟩
  case round =>
    obtain ⟨i, rfl, rfl, hi, rfl⟩ := hrel
    by_cases hlt : i < l.length
    · obtain ⟨x, hx⟩ : ∃ x, l[i]? = some x := ⟨l[i], List.getElem?_eq_getElem hlt⟩
      have hc := H.out.cell hx
      have HS := Lib.hid (crcL_snoc l i x hx)
      generalize hcc : crcL (l.take i) = c0 at HS ⊢
      clear hcc hx
      go_wp2_with fail
      generalize hdd : bits BinOp.xor IntKind.u32 c0 (x % 4294967296) = d0
      have HD := Lib.hid hdd
      clear hdd
      obtain ⟨wo, hwo⟩ : ∃ wo : World, wo = wr := ⟨_, rfl⟩
      subst hwo
      go_loopw [3, 16] (fun vc vi wr => CrcIn wo d0 vc vi wr) (fun _ vi _ => 8 - (intOf vi).toNat)
      case atStart => exact ⟨0, rfl, rfl, Nat.zero_le _, rfl⟩
      case round =>
        obtain ⟨j, rfl, rfl, hj, rfl⟩ := hrel
        have HB := Lib.hid (show crcBits d0 (j + 1) = if (bits BinOp.and IntKind.u32 (crcBits d0 j) 1 == 1) = true then bits BinOp.xor IntKind.u32 (crcBits d0 j / 2) 3988292384 else crcBits d0 j / 2 from rfl)
        generalize hee : crcBits d0 j = e0 at HB ⊢
        have HE := Lib.hid hee
        clear hee
        by_cases h8 : j < 8
        · cases hb : (bits BinOp.and IntKind.u32 e0 1 == 1)
          all_goals
            go_wp2_with fail
            go_roundw
            case rel => exact ⟨j + 1, by rw [HB.out]; simp [hb], by go_num, by omega, rfl⟩
            case measure => simp [intOf]; omega
        · have h8' : j = 8 := by omega
          subst h8'
          go_wp2_with fail
          go_roundw
          case rel => exact ⟨i + 1, by rw [HS.out]; unfold crcByte; rw [HD.out, HE.out], by go_num, by omega, rfl⟩
          case measure => simp [intOf]; omega
    · have hi' : i = l.length := by omega
      subst hi'
      rw [List.take_length]
      go_wp2_with fail
      go_ret
      exact ⟨rfl, rfl⟩
end Go.Proofs.YtpkfgmebngpfkaaGreat
