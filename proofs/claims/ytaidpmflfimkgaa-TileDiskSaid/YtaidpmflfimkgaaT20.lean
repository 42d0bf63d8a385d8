/- The law's sanity check: the map of one entry. No condition. -/
import Derived.Test.YtaidpmflfimkgaaT19
namespace Go.Proofs.Ytaidpmflfimkgaa
open Go.RowKit

section
variable {W : World} {m it : Nat}
theorem get_of {es : Array MapEntry} {c : Nat} (hb : W.heap[m]? = some (.map es c)) : (getObj m).run Try.prog W = .ok (.map es c) W := by
  simp only [getObj, Sem.run, hb]
theorem put_of {es : Array MapEntry} {c : Nat} (hb : W.heap[m]? = some (.map es c)) (o' : Obj) : (setObj m o').run Try.prog W = .ok () (pm W m o') := by
  simp only [setObj, Sem.run, hb, pm]
theorem get_it {a : Option Nat} {s c : Nat} {q : Array Nat} (hb : W.heap[it]? = some (.mapIter a s q c)) : (getObj it).run Try.prog W = .ok (.mapIter a s q c) W := by
  simp only [getObj, Sem.run, hb]
theorem put_it {a : Option Nat} {s c : Nat} {q : Array Nat} (hb : W.heap[it]? = some (.mapIter a s q c)) (o' : Obj) : (setObj it o').run Try.prog W = .ok () (pm W it o') := by
  simp only [setObj, Sem.run, hb, pm]
theorem forced_one : (Question.mapNext 1).forced = true := rfl

theorem run_lookup_key (hb : W.heap[m]? = some (.map #[] 0)) : (Instr.lookup 77 (.map (some m)) (.agg #[.int .i64 0, .int .i64 0, .int .i64 0, .int .i64 0]) false).run Try.prog W = .ok (.slice none 0 0) W := by
  have hz : (zeroValue 47).run Try.prog W = .ok (.slice none 0 0) W := by kernel_rfl
  have hc : (Instr.checkKey true 10000 51 (.agg #[.int .i64 0, .int .i64 0, .int .i64 0, .int .i64 0])).run Try.prog W = .ok () W := by kernel_rfl
  have hf : (Instr.findKey 51 (.agg #[.int .i64 0, .int .i64 0, .int .i64 0, .int .i64 0]) []).run Try.prog W = .ok none W := by kernel_rfl
  simp [Instr.lookup, run_underlying Try.underlying77, get_of hb, hz, hc, hf]

theorem run_mapEntry_key (hb : W.heap[m]? = some (.map #[] 0)) : (Instr.mapEntry 77 (.map (some m)) (.agg #[.int .i64 0, .int .i64 0, .int .i64 0, .int .i64 0])).run Try.prog W =
    .ok (.tuple #[.slice none 0 0, .int .i64 0]) (pm W m (.map #[{ key := .agg #[.int .i64 0, .int .i64 0, .int .i64 0, .int .i64 0], val := .slice none 0 0, born := 0 }] 1)) := by
  have hz : (zeroValue 47).run Try.prog W = .ok (.slice none 0 0) W := by kernel_rfl
  have hc : (Instr.checkKey false 10000 51 (.agg #[.int .i64 0, .int .i64 0, .int .i64 0, .int .i64 0])).run Try.prog W = .ok () W := by kernel_rfl
  have hf : (Instr.findKey 51 (.agg #[.int .i64 0, .int .i64 0, .int .i64 0, .int .i64 0]) []).run Try.prog W = .ok none W := by kernel_rfl
  simp [Instr.mapEntry, run_underlying Try.underlying77, get_of hb, put_of hb, hz, hc, hf]
  rfl

theorem run_entryStore_key (k v u : Value) (hb : W.heap[m]? = some (.map #[{ key := k, val := v, born := 0 }] 1)) : (Instr.entryStore 77 (.map (some m)) (.int .i64 0) u).run Try.prog W =
    .ok () (pm W m (.map #[{ key := k, val := u, born := 0 }] 1)) := by
  simp [Instr.entryStore, get_of hb, put_of hb, asInt, asIntOf]

theorem run_range_key (k v : Value) (hb : W.heap[m]? = some (.map #[{ key := k, val := v, born := 0 }] 1)) : (Instr.range 77 (.map (some m))).run Try.prog W =
    .ok (.pointer (some ⟨W.heap.size, 0, none⟩)) (W.alloc (.mapIter (some m) 1 #[] 1)) := by
  simp [Instr.range, run_underlying Try.underlying77, get_of hb]

theorem run_next_first (ty : TypeId) (k v : Value) (hb : W.heap[m]? = some (.map #[{ key := k, val := v, born := 0 }] 1)) (hi : W.heap[it]? = some (.mapIter (some m) 1 #[] 1)) : (Instr.next (.pointer (some ⟨it, 0, none⟩)) false ty).run Try.prog W =
    .ok (.tuple #[.bool true, k, v]) (pm W it (.mapIter (some m) 1 #[0] 1)) := by
  simp [Instr.next, get_of hb, get_it hi, put_it hi, forced_one]

theorem run_entry_first (k v : Value) (hb : W.heap[m]? = some (.map #[{ key := k, val := v, born := 0 }] 1)) (hi : W.heap[it]? = some (.mapIter (some m) 1 #[0] 1)) : (Instr.entry (.pointer (some ⟨it, 0, none⟩))).run Try.prog W =
    .ok (.tuple #[k, v]) W := by
  simp [Instr.entry, get_of hb, get_it hi]

theorem run_next_over (ty : TypeId) (k v : Value) (hb : W.heap[m]? = some (.map #[{ key := k, val := v, born := 0 }] 1)) (hi : W.heap[it]? = some (.mapIter (some m) 1 #[0] 1)) : (Instr.next (.pointer (some ⟨it, 0, none⟩)) false ty).run Try.prog W =
    .ok (.tuple #[.bool false]) W := by
  simp [Instr.next, get_of hb, get_it hi, forced_one]
end
/-- One element that lies at the head of a block reads. -/
theorem rd_blk {W : World} {g : Nat} {t : TypeId} {size : Nat} {cs : Array Value} (h : W.heap[g]? = some (.cells cs t (0, 0))) (hs : cs.size = size) : Rd W (.slice (some ⟨g, 0, none⟩) 1 1) 1 size cs.toList := by
  refine ⟨by simp [hs], _, 1, rfl, Nat.le_refl _, (fun e => by cases e), fun a ha j u hu => ?_⟩
  obtain rfl := Option.some.inj ha
  rw [Addr.add_lit, cell_of_row _ _ _ _ _ _ h]
  simpa using hu
end Go.Proofs.Ytaidpmflfimkgaa
