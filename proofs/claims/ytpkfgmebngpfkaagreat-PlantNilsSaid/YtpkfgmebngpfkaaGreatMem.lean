/- Words for memory, my own: what a slice reads as, what a call leaves of the old blocks. No condition. -/
import Derived.Test.YtpkfgmebngpfkaaGreatProg
import Derived.WalkKit
import Derived.WalkSpells
import Derived.WalkLawsBesides
import Derived.Maps.AppendAt
import Derived.Deep.Draws
import Derived.RegionTactic
import Derived.Deep.RegionLaw
import Derived.Deep.RegionHeld3
import Derived.BigRegion
import Derived.BigQuiet
import Derived.Deep.QuietTactic
import Derived.Lib.Hide
namespace Go.Proofs.YtpkfgmebngpfkaaGreat
open Go.RowKit

/-- Bytes as cells. -/
def bv (l : List UInt8) : List Value := l.map fun c => Value.int .u8 c.toNat
theorem bv_length (l : List UInt8) : (bv l).length = l.length := by simp [bv]
theorem bv_append (a b : List UInt8) : bv (a ++ b) = bv a ++ bv b := by simp [bv]
theorem bv_one (l : List UInt8) : ∀ u ∈ bv l, u.oneCell' = true := by
  intro u hu
  obtain ⟨c, _, rfl⟩ := List.mem_map.1 hu
  rfl

/-- A slice value of n elements, 'size' cells each, reads as the cells xs; nil too. -/
def Rd (w : World) (v : Value) (n size : Nat) (xs : List Value) : Prop :=
  xs.length = n * size ∧ ∃ (A : Option Addr) (c : Nat), v = .slice A n c ∧ n ≤ c ∧ (A = none → c = 0) ∧ ∀ a, A = some a → ∀ j u, xs[j]? = some u → w.cell? (a.add j) = some u

/-- From w to w' only the blocks on the list F, of those that were there, have turned. -/
structure Frame (w w' : World) (F : List Nat) : Prop where
  os : w'.os = w.os
  tape : w'.tape = w.tape
  output : w'.output = w.output
  size : w.heap.size ≤ w'.heap.size
  block : ∀ k, k < w.heap.size → k ∉ F → w'.heap[k]? = w.heap[k]?

section
variable {w w' w'' : World} {F G : List Nat}
theorem Frame.refl (w : World) (F : List Nat) : Frame w w F := ⟨rfl, rfl, rfl, Nat.le_refl _, fun _ _ _ => rfl⟩
theorem Frame.mono (h : Frame w w' F) (hs : ∀ k, k < w.heap.size → k ∈ F → k ∈ G) : Frame w w' G := ⟨h.os, h.tape, h.output, h.size, fun k hk hn => h.block k hk fun hf => hn (hs k hk hf)⟩
theorem Frame.trans (h : Frame w w' F) (k : Frame w' w'' F) : Frame w w'' F :=
  ⟨k.os.trans h.os, k.tape.trans h.tape, k.output.trans h.output, Nat.le_trans h.size k.size, fun i hi hn => (k.block i (Nat.lt_of_lt_of_le hi h.size) hn).trans (h.block i hi hn)⟩
theorem Frame.drew (h : Frame w w' F) : Frame w w'.drew F := ⟨h.os, h.tape, h.output, h.size, h.block⟩
theorem Frame.drewN (h : Frame w w' F) (n : Nat) : Frame w (w'.drewN n) F := ⟨h.os, h.tape, h.output, h.size, h.block⟩
theorem Frame.alloc (h : Frame w w' F) (o : Obj) : Frame w (w'.alloc o) F :=
  ⟨h.os, h.tape, h.output, Nat.le_trans h.size (by simp), fun i hi hn => (Below.heap_alloc w' o i (Nat.lt_of_lt_of_le hi h.size)).trans (h.block i hi hn)⟩
theorem Frame.set (h : Frame w w' F) (a : Addr) (v : Value) (ha : a.block < w.heap.size → a.block ∈ F) : Frame w (w'.setCell a v) F :=
  ⟨h.os, h.tape, h.output, by simpa using h.size, fun i hi hn => (heap_setCell_other w' a i v (fun e => hn (e ▸ ha (e ▸ hi)))).trans (h.block i hi hn)⟩
theorem Frame.grown {row : Option Nat} (h : Frame w w' F) (hg : w'.grownBy w'' row) (hr : ∀ k, row = some k → k < w.heap.size → k ∈ F) : Frame w w'' F :=
  ⟨hg.os.trans h.os, hg.tape.trans h.tape, hg.output.trans h.output, Nat.le_trans h.size hg.size, fun i hi hn =>
    (hg.block i (Nat.lt_of_lt_of_le hi h.size) (fun e => hn (hr i e.symm hi))).trans (h.block i hi hn)⟩
theorem Frame.below (h : Frame w w' []) : Below w.heap.size w w' := ⟨h.os, h.tape, h.output, h.size, fun k hk => h.block k hk (by simp)⟩
theorem Frame.of_below {B : Nat} (h : Below B w w') (hB : w.heap.size ≤ B) (F : List Nat) : Frame w w' F := ⟨h.os, h.tape, h.output, h.size, fun k hk _ => h.block k (Nat.lt_of_lt_of_le hk hB)⟩
theorem Frame.cell (h : Frame w w' F) {a : Addr} {v : Value} (hc : w.cell? a = some v) (hn : a.block ∉ F) : w'.cell? a = some v :=
  (World.cell?_of_block (h.block a.block (block_lt_of_cell hc) hn)).trans hc
theorem Frame.frozen (h : Frame w w' F) {a : Addr} (hc : a.block < w.heap.size) (hn : a.block ∉ F) : w'.frozen? a = w.frozen? a :=
  World.frozen?_of_block (h.block a.block hc hn)
theorem Frame.heap (h : Frame w w' F) {k : Nat} {o : Obj} (hc : w.heap[k]? = some o) (hn : k ∉ F) : w'.heap[k]? = some o :=
  (h.block k (lt_of_block hc) hn).trans hc
end

theorem add_block (a : Addr) (n : Nat) : (a.add n).block = a.block := by unfold Addr.add; split <;> rfl

section
variable {w w' : World} {v : Value} {n size base : Nat} {xs : List Value} {F : List Nat}
theorem Rd.kept (h : Rd w v n size xs) (hk : ∀ a u, w.cell? a = some u → v.ownBlock = some a.block → w'.cell? a = some u) : Rd w' v n size xs := by
  obtain ⟨h1, A, c, rfl, h2, h3, h4⟩ := h
  refine ⟨h1, A, c, rfl, h2, h3, fun a ha j u hu => hk _ _ (h4 a ha j u hu) ?_⟩
  subst ha
  simp [Value.ownBlock, add_block]
theorem Rd.frame (h : Rd w v n size xs) (hf : Frame w w' F) (hn : ∀ k, v.ownBlock = some k → k ∉ F) : Rd w' v n size xs :=
  h.kept fun _ _ hc hb => hf.cell hc (hn _ hb)
theorem Rd.frame' (h : Rd w v n size xs) (hf : Frame w w' F) (hn : 0 < n → ∀ k, v.ownBlock = some k → k ∉ F) : Rd w' v n size xs := by
  rcases Nat.eq_zero_or_pos n with rfl | h0
  · obtain ⟨h1, A, c, rfl, h2, h3, _⟩ := h
    have hx : xs = [] := List.eq_nil_of_length_eq_zero (by simpa using h1)
    subst hx
    exact ⟨h1, A, c, rfl, h2, h3, fun a _ j u hu => by simp at hu⟩
  · exact h.frame hf (hn h0)
theorem Rd.of_own {e : TypeId} (h : w.ownsRow base e size v n xs) : Rd w v n size xs := by
  refine ⟨h.1, ?_⟩
  rcases h.2 with ⟨rfl, rfl⟩ | ⟨g, cap, cur, rfl, _, _, hnc, _⟩
  · exact ⟨none, 0, rfl, Nat.le_refl _, fun _ => rfl, (fun a ha => by cases ha)⟩
  · refine ⟨_, cap, rfl, hnc, (fun e => by cases e), fun a ha j u hu => ?_⟩
    obtain rfl := Option.some.inj ha
    exact h.cells (g := g) rfl j u hu
theorem own_frame {e : TypeId} (h : w.ownsRow base e size v n xs) (hf : Frame w w' F) (hn : ∀ k, v.ownBlock = some k → k ∉ F) : w'.ownsRow base e size v n xs := by
  refine ⟨h.1, ?_⟩
  rcases h.2 with h2 | ⟨g, cap, cur, rfl, hb, hg, r⟩
  · exact .inl h2
  · exact .inr ⟨g, cap, cur, rfl, hb, hf.heap hg (hn g rfl), r⟩
theorem own_base {base' : Nat} {e : TypeId} (h : w.ownsRow base e size v n xs) (hb : base' ≤ base) : w.ownsRow base' e size v n xs := by
  refine ⟨h.1, ?_⟩
  rcases h.2 with h2 | ⟨g, cap, cur, rfl, hb', r⟩
  · exact .inl h2
  · exact .inr ⟨g, cap, cur, rfl, Nat.le_trans hb hb', r⟩
theorem own_len {e : TypeId} (h : w.ownsRow base e size v n xs) : ∃ A c, v = .slice A n c := by
  rcases h.2 with ⟨rfl, rfl⟩ | ⟨g, cap, cur, rfl, _⟩
  · exact ⟨_, _, rfl⟩
  · exact ⟨_, _, rfl⟩
end

/-- An append to a row of the call's own, of whatever reads. -/
theorem run_app {P : Program} (w : World) (base : Nat) (t ty e : TypeId) (i : TypeInfo) (z : Value) (size bytes : Nat) (ht : P.underlying t = some (.slice e)) (hi : P.info? e = some i) (hz : i.zero = some z)
    (hsize : i.size = size) (hby : i.bytes = bytes) (hzs : z.cells.size = size) (hsz : 0 < size)
    (v : Value) (n : Nat) (xs : List Value) (hown : w.ownsRow base e size v n xs) (x : Value) (m : Nat) (news : List Value) (hr : Rd w x m size news) (h1 : ∀ u ∈ news, u.oneCell' = true)
    (h63 : n + m ≤ maxLen) (hbytes : (n + m) * bytes ≤ 140737488355328) (hbase : base ≤ w.heap.size) :
    ∃ v' w', (Builtin.append_ #[t, t] ty #[v, x]).run P w = .ok v' w' ∧ w'.ownsRow base e size v' (n + m) (xs ++ news) ∧ w.grownBy w' v.ownBlock ∧ (v'.ownBlock = v.ownBlock ∨ v'.ownBlock = some w.heap.size) ∧ (v ≠ .slice none 0 0 → v' ≠ .slice none 0 0) := by
  obtain ⟨hl, A, c, rfl, hmc, hc0, hcell⟩ := hr
  cases A with
  | none =>
    obtain rfl := hc0 rfl
    obtain rfl : m = 0 := by omega
    have hn : news = [] := List.eq_nil_of_length_eq_zero (by simpa using hl)
    subst hn
    exact ⟨v, w, run_append_owned_none w base t ty e i size ht hi v n xs hown, by simpa using hown, World.grownBy.refl w _, .inl rfl, fun h => h⟩
  | some a =>
    obtain ⟨v', w', hrun, h2, h3, h4, h5⟩ := run_append_own_at (P := P) w base t ty e i z size bytes ht hi hz hsize hby hzs hsz v n xs hown a m c news hl (hcell a rfl) h1 h63 hbytes hbase
    exact ⟨v', w', hrun, h2, h3, h5, fun h h' => h (h4.1 h').1⟩

section
variable {P : Program} (w : World)
/-- .. as an operation of the walk. -/
theorem wpList_app {ops : Array Oper} {rest : List Oper} {o : Oper} {a : Act} {Q : Exit → Act → World → Prop} (hgd : o.guard = none) (s x : Operand) (t : TypeId)
    (ho : o.op = .call { callee := .builtin .append, args := #[s, x], argTypes := #[t, t] })
    (base : Nat) (e : TypeId) (i : TypeInfo) (z : Value) (size bytes : Nat) (ht : P.underlying t = some (.slice e)) (hi : P.info? e = some i) (hz : i.zero = some z)
    (hsize : i.size = size) (hby : i.bytes = bytes) (hzs : z.cells.size = size) (hsz : 0 < size)
    (v : Value) (n : Nat) (xs : List Value) (hs : a.eval s = v) (hown : w.ownsRow base e size v n xs)
    (xv : Value) (m : Nat) (news : List Value) (hx : a.eval x = xv) (hr : Rd w xv m size news) (h1 : ∀ u ∈ news, u.oneCell' = true)
    (h63 : n + m ≤ maxLen) (hbytes : (n + m) * bytes ≤ 140737488355328) (hbase : base ≤ w.heap.size)
    (h : ∀ v' w', w'.ownsRow base e size v' (n + m) (xs ++ news) → w.grownBy w' v.ownBlock → (v'.ownBlock = v.ownBlock ∨ v'.ownBlock = some w.heap.size) → (v ≠ .slice none 0 0 → v' ≠ .slice none 0 0) → wpList P ops Q rest (a.put o.dst v') w') :
    wpList P ops Q (o :: rest) a w := by
  refine wpList_plain hgd fun K hK => ?_
  obtain ⟨v', w', hrun, h2, h3, h4, h5⟩ := run_app (P := P) w base t o.type e i z size bytes ht hi hz hsize hby hzs hsz v n xs hown xv m news hr h1 h63 hbytes hbase
  unfold Oper.wp execOp
  simp only [ho, resolve, invoke, builtin, Sem.run_bind, Sem.run_pure, Result.andThen_ok, List.map_toArray, List.map_cons, List.map_nil, hs, hx, hrun]
  exact hK _ _ (h v' w' h2 h3 h4 h5)
/-- .. as a step of a region that draws its order. -/
theorem step_app {ops : Array Oper} {o : Oper} {a : Act} {K : Act → World → Prop} {Q : Exit → Act → World → Prop} {E : Prop} (hgd : o.guard = none) (s x : Operand) (t : TypeId)
    (ho : o.op = .call { callee := .builtin .append, args := #[s, x], argTypes := #[t, t] })
    (base : Nat) (e : TypeId) (i : TypeInfo) (z : Value) (size bytes : Nat) (ht : P.underlying t = some (.slice e)) (hi : P.info? e = some i) (hz : i.zero = some z)
    (hsize : i.size = size) (hby : i.bytes = bytes) (hzs : z.cells.size = size) (hsz : 0 < size)
    (v : Value) (n : Nat) (xs : List Value) (hs : a.eval s = v) (hown : w.ownsRow base e size v n xs)
    (xv : Value) (m : Nat) (news : List Value) (hx : a.eval x = xv) (hr : Rd w xv m size news) (h1 : ∀ u ∈ news, u.oneCell' = true)
    (h63 : n + m ≤ maxLen) (hbytes : (n + m) * bytes ≤ 140737488355328) (hbase : base ≤ w.heap.size)
    (h : ∀ v' w', w'.ownsRow base e size v' (n + m) (xs ++ news) → w.grownBy w' v.ownBlock → (v'.ownBlock = v.ownBlock ∨ v'.ownBlock = some w.heap.size) → (v ≠ .slice none 0 0 → v' ≠ .slice none 0 0) → K (a.put o.dst v') w') :
    if Region.wanted o (yielded ops a.tmps) = true then Oper.wp P o a w K Q else E := by
  have hw : Region.wanted o (yielded ops a.tmps) = true := by simp [Region.wanted, hgd]
  rw [if_pos hw]
  obtain ⟨v', w', hrun, h2, h3, h4, h5⟩ := run_app (P := P) w base t o.type e i z size bytes ht hi hz hsize hby hzs hsz v n xs hown xv m news hr h1 h63 hbytes hbase
  unfold Oper.wp execOp
  simp only [ho, resolve, invoke, builtin, Sem.run_bind, Sem.run_pure, Result.andThen_ok, List.map_toArray, List.map_cons, List.map_nil, hs, hx, hrun]
  exact h v' w' h2 h3 h4 h5
end

theorem info_u8 : (Tryz.prog.info? 5).map (fun i => (i.zero, i.size, i.bytes)) = some (some (.int .u8 0), 1, 1) := by kernel_rfl
end Go.Proofs.YtpkfgmebngpfkaaGreat
