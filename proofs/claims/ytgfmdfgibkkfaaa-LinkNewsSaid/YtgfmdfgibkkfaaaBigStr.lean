/- append(b, s...) where the whole is longer than the shelf's law allows (up to 150,000,000,000,000 bytes). -/
import Derived.Test.YtgfmdfgibkkfaaaWWords
import Derived.Lib.AppendStr
import Derived.Laws.Append
set_option linter.unusedVariables false
namespace Go.Proofs.YtgfmdfgibkkfaaaW.PrintWords
open Go.RowKit

theorem cap_big {need old : Nat} (h : old < need) (hn : need ≤ 150000000000000) : Builtin.nextslicecap need old ≤ 281474976710656 := by
  unfold Builtin.nextslicecap
  split
  · omega
  · split
    · omega
    · rw [growBy_four]
      repeat' split
      all_goals omega
/-- A new row: what was, what comes, and room. -/
theorem own_new (w : World) (base e n : Nat) (xs : List Value) (s : ByteArray) (old : Nat) (row : Option Nat) (hb : base ≤ w.heap.size) (hx : xs.length = n) (hn : n + s.size ≤ 150000000000000) :
    (w.drew.alloc (.cells (xs.toArray ++ (Lib.strCells s).toArray ++ Builtin.zeroCells (Value.int .u8 0).cells (grownCap w (n + s.size) old e - (n + s.size))) e)).ownsRow base e 1 (.slice (some ⟨w.heap.size, 0, none⟩) (n + s.size) (grownCap w (n + s.size) old e)) (n + s.size) (xs ++ Lib.strCells s) ∧
    w.grownBy (w.drew.alloc (.cells (xs.toArray ++ (Lib.strCells s).toArray ++ Builtin.zeroCells (Value.int .u8 0).cells (grownCap w (n + s.size) old e - (n + s.size))) e)) row := by
  have h1 := grownCap_ge w (n + s.size) old e
  have h2 := grownCap_le_maxLen w (n + s.size) old e (show n + s.size ≤ maxLen by simp only [maxLen]; omega)
  have hl : (xs ++ Lib.strCells s).length = n + s.size := by rw [List.length_append, hx, Lib.strCells_length]
  have hz : (Value.int IntKind.u8 0).cells.size = 1 := rfl
  constructor
  · refine ⟨by rw [hl, Nat.mul_one], .inr ⟨w.heap.size, _, _, rfl, hb, heap_alloc_new w.drew _, h1, h2, ?_, ?_⟩⟩
    · simp only [Array.size_append, List.size_toArray, size_zeroCells, hz, hx, Lib.strCells_length]
      omega
    · simp only [Array.toList_append]
      rw [Nat.mul_one, ← hl]
      exact List.take_left
  · exact ⟨rfl, rfl, rfl, by simp, fun k hk _ => Below.heap_alloc w.drew _ k hk⟩
theorem run_append_big {P : Program} (w : World) (base : Nat) (t u ty e : TypeId) (i : TypeInfo) (ht : P.underlying t = some (.slice e)) (hu : P.underlying u = some .string) (hi : P.info? e = some i) (hz : i.zero = some (.int .u8 0)) (hsize : i.size = 1) (hby : i.bytes = 1)
    (v : Value) (n : Nat) (xs : List Value) (hown : w.ownsRow base e 1 v n xs) (s : ByteArray) (hn : n + s.size ≤ 150000000000000) (hb : base ≤ w.heap.size) :
    ∃ v' w', (Builtin.append_ #[t, u] ty #[v, .string s]).run P w = .ok v' w' ∧ w'.ownsRow base e 1 v' (n + s.size) (xs ++ Lib.strCells s) ∧ w.grownBy w' v.ownBlock := by
  by_cases hsmall : n + s.size ≤ 140737488355328
  · obtain ⟨v', w', h1, h2, h3, _⟩ := Lib.run_append_own_string (P := P) w base t u ty e i ht hu hi hz hsize hby v n xs hown s (by simp only [maxLen]; omega) hsmall hb
    exact ⟨v', w', h1, h2, h3⟩
  · have hx : xs.length = n := by simpa using hown.1
    rcases hown.2 with ⟨rfl, rfl⟩ | ⟨g, cap, cur, rfl, hbg, hg, hnc, hcm, hcs, htake⟩
    · obtain rfl : xs = [] := List.eq_nil_of_length_eq_zero hx
      have hr := run_append_nil_string (P := P) w t u ty e i (.int .u8 0) ht hu hi hz s (by omega) (by omega) (by rw [hby]; omega)
      have hw := own_new w base e 0 [] s 0 (Value.ownBlock (.slice none 0 0)) hb rfl hn
      have e1 : (s.data.map fun b => Value.int .u8 b.toNat) = (Lib.strCells s).toArray := by apply Array.ext'; simp [Lib.strCells]
      rw [e1] at hr
      simp only [Nat.zero_add, List.nil_append, Array.empty_append] at hw ⊢
      exact ⟨_, _, hr, hw.1, hw.2⟩
    · by_cases hroom : n + s.size ≤ cap
      · have hc : cur.size = cap := by simpa using hcs
        have hr := Lib.run_append_room_string (P := P) w t u ty e i ht hu hi hsize g n cap cur hg s hroom (by omega)
        have hl : (xs ++ Lib.strCells s).length = n + s.size := by rw [List.length_append, hx, Lib.strCells_length]
        refine ⟨_, _, hr, ⟨by rw [hl, Nat.mul_one], .inr ⟨g, cap, _, rfl, hbg, setRow_heap w g cur _ e _ hg, hroom, hcm, ?_, ?_⟩⟩, ⟨rfl, rfl, rfl, by simp, fun k _ hk => setRow_other w g k _ (fun h => hk (by simp [Value.ownBlock, h]))⟩⟩
        · simp only [List.size_toArray, List.length_append, List.length_take, List.length_drop, Array.length_toList, Lib.strCells_length]
          omega
        · rw [show cur.toList.take n = xs by simpa using htake, Nat.mul_one, ← hl]
          exact List.take_left
      · have hold : ∀ j u, xs[j]? = some u → w.cell? ((⟨g, 0, none⟩ : Addr).add j) = some u := hown.cells (g := g) rfl
        have hr := Lib.run_append_grow_string (P := P) w t u ty e i (.int .u8 0) ht hu hi hz ⟨g, 0, none⟩ n cap xs (by rw [hsize, Nat.mul_one]; exact hx) hold s (by omega) (by omega) (by rw [hby, Nat.mul_one]; exact cap_big (by omega) hn)
        have hw := own_new w base e n xs s cap (Value.ownBlock (.slice (some ⟨g, 0, none⟩) n cap)) hb hx hn
        exact ⟨_, _, hr, hw.1, hw.2⟩
section
variable {P : Program} {ops : Array Oper} {rest : List Oper} {o : Oper} {a : Act} {Q : Exit → Act → World → Prop}
theorem print_append_big {w0 W : World} (base : Nat) (hgd : o.guard = none) (s x : Operand) (t u e : TypeId) (ho : o.op = .call { callee := .builtin .append, args := #[s, x], argTypes := #[t, u] })
    (ht : P.underlying t = some (.slice e)) (hu : P.underlying u = some .string) (hinfo : (P.info? e).map (fun i => (i.zero, i.size, i.bytes)) = some (some (.int .u8 0), 1, 1))
    (v : Value) (xs : List Int) (y : ByteArray) (hs : a.eval s = v) (hx : a.eval x = .string y) (HO : W.ownsRow base e 1 v xs.length (nums .u8 xs)) (HB : Below base w0 W) (hbase : base ≤ W.heap.size) (hl : xs.length + y.size ≤ 150000000000000)
    (h : ∀ v1 w1, w1.ownsRow base e 1 v1 (xs ++ bytesOf y).length (nums .u8 (xs ++ bytesOf y)) → Below base w0 w1 → W.grownBy w1 v.ownBlock → wpList P ops Q rest (a.put o.dst v1) w1) : wpList P ops Q (o :: rest) a W := by
  obtain ⟨i0, hi, hzz⟩ := Option.map_eq_some_iff.1 hinfo
  simp only [Prod.mk.injEq] at hzz
  obtain ⟨hz0, hz1, hz2⟩ := hzz
  obtain ⟨v1, w1, hr, hown, hg⟩ := run_append_big (P := P) W base t u o.type e i0 ht hu hi hz0 hz1 hz2 v xs.length (nums .u8 xs) HO y hl hbase
  refine wpList_plain hgd fun K hK => ?_
  unfold Oper.wp execOp
  simp only [ho, resolve, invoke, builtin, Sem.run_bind, Sem.run_pure, Result.andThen_ok, List.map_toArray, List.map_cons, List.map_nil, hs, hx, hr]
  refine hK _ _ (h v1 w1 ?_ (HB.grown hg hbase (own_base HO)) hg)
  have hl2 : (xs ++ bytesOf y).length = xs.length + y.size := by rw [List.length_append, bytesOf_length]
  have hc : nums .u8 (xs ++ bytesOf y) = nums .u8 xs ++ Lib.strCells y := by
    rw [nums_append]
    congr 1
    simp [nums, bytesOf, Lib.strCells]
  rw [hl2, hc]
  exact hown
end
end Go.Proofs.YtgfmdfgibkkfaaaW.PrintWords
