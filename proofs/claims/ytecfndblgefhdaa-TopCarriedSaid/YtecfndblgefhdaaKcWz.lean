import Derived.ArgAppend
import Derived.Below
import Derived.BigQuiet
import Derived.ChangeArms
import Derived.ChangeOld
import Derived.ChangeSlices
import Derived.Deep.AppendLies
import Derived.Deep.CutBlock
import Derived.Deep.DeepCutAuto
import Derived.Deep.Draws
import Derived.Deep.LoopGhost
import Derived.Deep.OwnRows
import Derived.Deep.QuietTactic
import Derived.Deep.RegionHeld3
import Derived.KernelRfl
import Derived.Laws.Append
import Derived.Laws.BitsLemmas
import Derived.Laws.BytesArg
import Derived.Laws.IdiomCopy
import Derived.Laws.MakeOwn
import Derived.Laws.OwnMore
import Derived.Laws.Rows
import Derived.Laws.Slices
import Derived.Laws.StructEq
import Derived.Laws.Tables
import Derived.Lib.AppendStr
import Derived.Lib.ConvBytes
import Derived.Lib.LazyBuf
import Derived.LoopTactic
import Derived.Maps.AppendAt
import Derived.OpenShut
import Derived.OrdersHeld
import Derived.OwnWalk
import Derived.ProofKit
import Derived.RowKit
import Derived.RowKit3
import Derived.Shelf.Abstract
import Derived.ShutString
import Derived.SizedLaws
import Derived.Tactics
import Derived.WalkKit
import Derived.WideLaws
import Derived.Test.YtecfndblgefhdaaKcWWords
import Derived.Test.YtecfndblgefhdaaKcWLast
import Derived.Test.YtecfndblgefhdaaKcWQPut
import Derived.Test.YtecfndblgefhdaaKcWTab
set_option linter.unusedVariables false
namespace Go.Proofs
open Go Go.RowKit Go.Proofs.YtecfndblgefhdaaW.PrintWords Go.Proofs.YtecfndblgefhdaaW.PrintLast Go.Proofs.YtecfndblgefhdaaW.PrintMore
section
variable {P : Program} {md : Region.Mode} {ops : Array Oper} {Q : Exit → Act → World → Prop} {S : World → Prop} {ds : List Nat} {oi : Oper} {v : Value} {fuel : Nat} {l : Array Bool} {a a' : Act} {w : World}
theorem la_ (i : Nat) (N : Option Tmp) (hi : ops[i]? = some oi) (hN : oi.dst = N) (h : ∀ K : Act → World → Prop, Shut (∀ a' w', wpAnyLast P md ops Q S ds fuel (l.setIfInBounds i true) a' w' → K a' w') → if Region.wanted oi (yielded ops a.tmps) = true then Oper.wp P oi a w K Q else K (a.put N undef) w) (hc : readyB md ops l (l.setIfInBounds i true) i = true := by kernel_rfl) (hd : i ∈ ds := by decide) :
    wpAnyLast P md ops Q S ds (fuel + 1) l a w := last_ _ hi hN hc hd h
theorem on_ (i : Nat) (N : Option Tmp) (hi : ops[i]? = some oi) (hN : oi.dst = N) (h : ∀ K : Act → World → Prop, Shut (∀ a' w', S w' → (S w' → wpAnyLast P md ops Q S ds fuel (l.setIfInBounds i true) a' w') → K a' w') → if Region.wanted oi (yielded ops a.tmps) = true then Oper.wp P oi a w K Q else K (a.put N undef) w) (hc : readyB md ops l (l.setIfInBounds i true) i = true := by kernel_rfl) (hd : i ∉ ds := by decide) :
    wpAnyLast P md ops Q S ds (fuel + 1) l a w := one_ _ hi hN hc hd h
theorem oq_ (i : Nat) (N : Option Tmp) (hi : ops[i]? = some oi) (hN : oi.dst = N) (h : ∀ K : Act → World → Prop, Shut (∀ a' w', S w' → (S w' → wpAnyLast P md ops Q S ds fuel (l.setIfInBounds i true) a' w') → K a' w') → if Region.wanted oi (yielded ops a.tmps) = true then Oper.wp P oi a w K Q else K (a.put N undef) w) (hc : readyB md ops l (l.setIfInBounds i true) i = true := by exact one_of HT_.out (by kernel_rfl)) (hd : i ∉ ds := by decide) :
    wpAnyLast P md ops Q S ds (fuel + 1) l a w := one_ _ hi hN hc hd h
theorem pq_ (i : Nat) (N : Option Tmp) (hi : ops[i]? = some oi) (hN : oi.dst = N) (h : wpAnyLast P md ops Q S ds fuel (l.setIfInBounds i true) a' w) (hc : anyB md ops l (l.setIfInBounds i true) i = true := by exact any_of HT_.out (by kernel_rfl)) (hQ : ∀ c a w, Q (.panic c) (a.put oi.dst v) w → Q (.panic c) a w := by exact fun _ _ _ h => h) (hy : Yields P ops oi v a := by exact Or.inl ⟨by rfl, by intro w'; go_simp; with_reducible rfl⟩) (ha : a.put N v = a' := by simp only [Act.put, List.setIfInBounds_toArray, List.set_cons_zero, List.set_cons_succ, i64_w, i32_w]; rfl) :
    wpAnyLast P md ops Q S ds (fuel + 1) l a w := pure_ _ hi hN hc hQ hy ha h
theorem pu_ (i : Nat) (N : Option Tmp) (hi : ops[i]? = some oi) (hN : oi.dst = N) (h : wpAnyLast P md ops Q S ds fuel (l.setIfInBounds i true) a' w) (hc : anyB md ops l (l.setIfInBounds i true) i = true := by kernel_rfl) (hQ : ∀ c a w, Q (.panic c) (a.put oi.dst v) w → Q (.panic c) a w := by exact fun _ _ _ h => h) (hy : Yields P ops oi v a := by exact Or.inl ⟨by rfl, by intro w'; go_simp; with_reducible rfl⟩) (ha : a.put N v = a' := by simp only [Act.put, List.setIfInBounds_toArray, List.set_cons_zero, List.set_cons_succ, i64_w, i32_w]; rfl) :
    wpAnyLast P md ops Q S ds (fuel + 1) l a w := pure_ _ hi hN hc hQ hy ha h
theorem pv_ (i : Nat) (N : Option Tmp) (hi : ops[i]? = some oi) (hN : oi.dst = N) (h : wpAnyLast P md ops Q S ds fuel (l.setIfInBounds i true) a' w) (hc : anyB md ops l (l.setIfInBounds i true) i = true := by kernel_rfl) (hQ : ∀ c a w, Q (.panic c) (a.put oi.dst undef) w → Q (.panic c) a w := by exact fun _ _ _ h => h) (hy : Yields P ops oi undef a := by exact Or.inr ⟨by rfl, rfl⟩) (ha : a.put N undef = a' := by simp only [Act.put, List.setIfInBounds_toArray, List.set_cons_zero, List.set_cons_succ, i64_w, i32_w]; rfl) :
    wpAnyLast P md ops Q S ds (fuel + 1) l a w := pure_ _ hi hN hc hQ hy ha h
theorem pw_ (i : Nat) (N : Option Tmp) (hi : ops[i]? = some oi) (hN : oi.dst = N) (h : wpAnyLast P md ops Q S ds fuel (l.setIfInBounds i true) a' w) (hc : anyB md ops l (l.setIfInBounds i true) i = true := by exact any_of HT_.out (by kernel_rfl)) (hQ : ∀ c a w, Q (.panic c) (a.put oi.dst undef) w → Q (.panic c) a w := by exact fun _ _ _ h => h) (hy : Yields P ops oi undef a := by exact Or.inr ⟨by rfl, rfl⟩) (ha : a.put N undef = a' := by simp only [Act.put, List.setIfInBounds_toArray, List.set_cons_zero, List.set_cons_succ, i64_w, i32_w]; rfl) :
    wpAnyLast P md ops Q S ds (fuel + 1) l a w := pure_ _ hi hN hc hQ hy ha h
theorem ta_ (i : Nat) (N : Option Tmp) (hi : ops[i]? = some oi) (hN : oi.dst = N) (hS : S w) (h : wpAnyLast P md ops Q S ds fuel (l.setIfInBounds i true) a' w) (hc : takeB md ops ds l (l.setIfInBounds i true) i = true := by kernel_rfl) (hQ : ∀ c a w, Q (.panic c) (a.put oi.dst v) w → Q (.panic c) a w := by exact fun _ _ _ h => h) (hy : YieldsIf P ops S oi v a := by exact Or.inl ⟨by rfl, by intro w' hs; go_simp; with_reducible rfl⟩) (ha : a.put N v = a' := by simp only [Act.put, List.setIfInBounds_toArray, List.set_cons_zero, List.set_cons_succ, i64_w, i32_w]; rfl) :
    wpAnyLast P md ops Q S ds (fuel + 1) l a w := take_ _ hi hN hc hQ hy hS ha h
theorem tq_ (i : Nat) (N : Option Tmp) (hi : ops[i]? = some oi) (hN : oi.dst = N) (hS : S w) (h : wpAnyLast P md ops Q S ds fuel (l.setIfInBounds i true) a' w) (hc : takeB md ops ds l (l.setIfInBounds i true) i = true := by exact take_ofW HT_.out HW_.out (by kernel_rfl)) (hQ : ∀ c a w, Q (.panic c) (a.put oi.dst v) w → Q (.panic c) a w := by exact fun _ _ _ h => h) (hy : YieldsIf P ops S oi v a := by exact Or.inl ⟨by rfl, by intro w' hs; go_simp; with_reducible rfl⟩) (ha : a.put N v = a' := by simp only [Act.put, List.setIfInBounds_toArray, List.set_cons_zero, List.set_cons_succ, i64_w, i32_w]; rfl) :
    wpAnyLast P md ops Q S ds (fuel + 1) l a w := take_ _ hi hN hc hQ hy hS ha h
theorem a0_ {p : Prop} (h : p) : Aside0 p := ⟨h⟩
end
theorem bc3_ {W : World} {g : Nat} {cs : Array Value} {t : Nat} (h : W.heap[g]? = some (.cells cs t (0, 0))) : W.cell? ⟨g, 0, none⟩ = cs[0]? ∧ W.cell? ⟨g, 1, none⟩ = cs[1]? ∧ W.cell? ⟨g, 2, none⟩ = cs[2]? := ⟨blk_cell h 0, blk_cell h 1, blk_cell h 2⟩
theorem bc4_ {W : World} {g : Nat} {cs : Array Value} {t : Nat} (h : W.heap[g]? = some (.cells cs t (0, 0))) : W.cell? ⟨g, 0, none⟩ = cs[0]? ∧ W.cell? ⟨g, 1, none⟩ = cs[1]? ∧ W.cell? ⟨g, 2, none⟩ = cs[2]? ∧ W.cell? ⟨g, 3, none⟩ = cs[3]? := ⟨blk_cell h 0, blk_cell h 1, blk_cell h 2, blk_cell h 3⟩
theorem bc5_ {W : World} {g : Nat} {cs : Array Value} {t : Nat} (h : W.heap[g]? = some (.cells cs t (0, 0))) : W.cell? ⟨g, 0, none⟩ = cs[0]? ∧ W.cell? ⟨g, 1, none⟩ = cs[1]? ∧ W.cell? ⟨g, 2, none⟩ = cs[2]? ∧ W.cell? ⟨g, 3, none⟩ = cs[3]? ∧ W.cell? ⟨g, 4, none⟩ = cs[4]? := ⟨blk_cell h 0, blk_cell h 1, blk_cell h 2, blk_cell h 3, blk_cell h 4⟩
theorem bc14_ {W : World} {g : Nat} {cs : Array Value} {t : Nat} (h : W.heap[g]? = some (.cells cs t (0, 0))) : W.cell? ⟨g, 0, none⟩ = cs[0]? ∧ W.cell? ⟨g, 1, none⟩ = cs[1]? ∧ W.cell? ⟨g, 2, none⟩ = cs[2]? ∧ W.cell? ⟨g, 3, none⟩ = cs[3]? ∧ W.cell? ⟨g, 4, none⟩ = cs[4]? ∧ W.cell? ⟨g, 5, none⟩ = cs[5]? ∧ W.cell? ⟨g, 6, none⟩ = cs[6]? ∧ W.cell? ⟨g, 7, none⟩ = cs[7]? ∧ W.cell? ⟨g, 8, none⟩ = cs[8]? ∧ W.cell? ⟨g, 9, none⟩ = cs[9]? ∧ W.cell? ⟨g, 10, none⟩ = cs[10]? ∧ W.cell? ⟨g, 11, none⟩ = cs[11]? ∧ W.cell? ⟨g, 12, none⟩ = cs[12]? ∧ W.cell? ⟨g, 13, none⟩ = cs[13]? := ⟨blk_cell h 0, blk_cell h 1, blk_cell h 2, blk_cell h 3, blk_cell h 4, blk_cell h 5, blk_cell h 6, blk_cell h 7, blk_cell h 8, blk_cell h 9, blk_cell h 10, blk_cell h 11, blk_cell h 12, blk_cell h 13⟩
theorem bf3_ {W : World} {g : Nat} {cs : Array Value} {t : Nat} (h : W.heap[g]? = some (.cells cs t (0, 0))) : W.frozen? ⟨g, 0, none⟩ = false ∧ W.frozen? ⟨g, 1, none⟩ = false ∧ W.frozen? ⟨g, 2, none⟩ = false := ⟨blk_frozen h 0, blk_frozen h 1, blk_frozen h 2⟩
theorem bf5_ {W : World} {g : Nat} {cs : Array Value} {t : Nat} (h : W.heap[g]? = some (.cells cs t (0, 0))) : W.frozen? ⟨g, 0, none⟩ = false ∧ W.frozen? ⟨g, 1, none⟩ = false ∧ W.frozen? ⟨g, 2, none⟩ = false ∧ W.frozen? ⟨g, 3, none⟩ = false ∧ W.frozen? ⟨g, 4, none⟩ = false := ⟨blk_frozen h 0, blk_frozen h 1, blk_frozen h 2, blk_frozen h 3, blk_frozen h 4⟩
theorem bf14_ {W : World} {g : Nat} {cs : Array Value} {t : Nat} (h : W.heap[g]? = some (.cells cs t (0, 0))) : W.frozen? ⟨g, 0, none⟩ = false ∧ W.frozen? ⟨g, 1, none⟩ = false ∧ W.frozen? ⟨g, 2, none⟩ = false ∧ W.frozen? ⟨g, 3, none⟩ = false ∧ W.frozen? ⟨g, 4, none⟩ = false ∧ W.frozen? ⟨g, 5, none⟩ = false ∧ W.frozen? ⟨g, 6, none⟩ = false ∧ W.frozen? ⟨g, 7, none⟩ = false ∧ W.frozen? ⟨g, 8, none⟩ = false ∧ W.frozen? ⟨g, 9, none⟩ = false ∧ W.frozen? ⟨g, 10, none⟩ = false ∧ W.frozen? ⟨g, 11, none⟩ = false ∧ W.frozen? ⟨g, 12, none⟩ = false ∧ W.frozen? ⟨g, 13, none⟩ = false := ⟨blk_frozen h 0, blk_frozen h 1, blk_frozen h 2, blk_frozen h 3, blk_frozen h 4, blk_frozen h 5, blk_frozen h 6, blk_frozen h 7, blk_frozen h 8, blk_frozen h 9, blk_frozen h 10, blk_frozen h 11, blk_frozen h 12, blk_frozen h 13⟩
theorem st_ {P : Program} {ops : Array Oper} {Q : Exit → Act → World → Prop} {id : Nat} {a : Act} {w : World} (n : Nat) {S : World → Prop} {ds : List Nat} (hS : S w.drew) (h : S w.drew → wpAnyLast P .any ops Q S ds n (Array.replicate n false) a w.drew) (hm : P.follows .mixedOrders = true := by kernel_rfl) (hn : ops.size = n := by rfl) : (Code.region id ops true).wp P Q a w := start_ _ hm hn rfl hS h
theorem z0_ {p : Prop} (h : p := by rw [← add_field _ _ 1 (by omega)]; exact hc 1 _ rfl) : p := h
theorem z1_ {p : Prop} (h : p := by rw [← add_field _ _ 2 (by omega)]; exact hc 2 _ rfl) : p := h
theorem z2_ {p : Prop} (h : p := by omega) : p := h
theorem z3_ {p : Prop} (h : p := by first | rfl | (simp [errW_none, errW_some] <;> rfl) | (simp [*, errW_none, errW_some] <;> rfl)) : p := h
theorem z4_ {p : Prop} (h : p := by repeat (first | (with_reducible first | exact HB.out | apply below_alloc | apply pw_below_drewN | apply below_drew1 | refine below_set ?_ GE108.out) | exact HB.out)) : p := h
theorem z5_ {p : Prop} (h : p := by repeat (first | (with_reducible first | exact HB.out | apply below_alloc | apply pw_below_drewN | apply below_drew1 | refine below_set ?_ GE106.out) | exact HB.out)) : p := h
theorem z6_ {p : Prop} (h : p := by repeat (first | (with_reducible first | exact HB.out | apply below_alloc | apply pw_below_drewN | apply below_drew1) | exact HB.out)) : p := h
theorem z7_ {p : Prop} (h : p := by first | (go_simp; done) | (go_simp; rfl) | (go_simp; simp only [w64m])) : p := h
theorem z8_ {p : Prop} (h : p := by rw [hg]; exact (below_size z6_)) : p := h
theorem z9_ {p : Prop} (h : p := by first | rfl | (simp; done) | (simp [*]; done)) : p := h
theorem z10_ {p : Prop} (h : p := by repeat (first | exact Drawn0.refl _ | apply Drawn0.step)) : p := h
theorem z11_ {p : Prop} (h : p := by kernel_rfl) : p := h
theorem z12_ {p : Prop} (h : p := by (try simp only [List.map_toArray, List.map_cons, List.map_nil]); first | done | rfl | (simp only [List.length_drop, List.length_take]; rfl)) : p := h
theorem z13_ {p : Prop} (h : p := by rw [← hq_]; exact (by (with_reducible repeat (first | refine blk_drewN ?_ _ | refine blk_drew ?_ | refine blk_alloc ?_ _)); exact BK102.out)) : p := h
theorem z14_ {p : Prop} (h : p := by rw [← hq_]; exact (by repeat (first | (with_reducible first | exact HB.out | apply below_alloc | apply pw_below_drewN | apply below_drew1 | refine below_set ?_ GE102.out) | exact HB.out))) : p := h
theorem z15_ {p : Prop} (h : p := by first | exact Kd.R_nil _ _ _ _ _ | exact Kd.N_nil _ _ _ _ _ | exact Kd.V_nil _ _ _ _ _ | exact Kd.Q_nil _ _ _ _ _ | exact Kd.S_nil _ _ _ _ _) : p := h
theorem z16_ {p : Prop} (h : p := by repeat (first | (with_reducible first | exact HB.out | apply below_alloc | apply pw_below_drewN | apply below_drew1 | refine below_set ?_ GE102.out) | exact HB.out)) : p := h
theorem z17_ {p : Prop} (h : p := by decide) : p := h
theorem z18_ {p : Prop} (h : p := by first | omega | exact Nat.le_refl _) : p := h
theorem z19_ {p : Prop} (h : p := by first | (with_reducible assumption) | assumption) : p := h
theorem z20_ {p : Prop} (h : p := by have := HJ1.out; have := HK2.out; omega) : p := h
theorem z21_ {p : Prop} (h : p := by have := HK1.out; omega) : p := h
theorem z22_ {p : Prop} (h : p := by (with_reducible repeat (first | refine blk_drewN ?_ _ | refine blk_drew ?_ | refine blk_alloc ?_ _)); exact BK112.out) : p := h
theorem z23_ {p : Prop} (h : p := by repeat (first | (with_reducible first | exact HB.out | apply below_alloc | apply pw_below_drewN | apply below_drew1 | refine below_set ?_ GE112.out) | exact HB.out)) : p := h
theorem z24_ {p : Prop} (h : p := by rw [hg]; exact (below_size (by repeat (first | (with_reducible first | exact HB.out | apply below_alloc | apply pw_below_drewN | apply below_drew1 | refine below_set ?_ GE112.out) | exact HB.out)))) : p := h
theorem z25_ {p : Prop} (h : p := by exact ⟨(blk_cell BK112.out 0).trans rfl, (blk_cell BK112.out 1).trans rfl, (blk_cell BK112.out 2).trans rfl, (blk_cell BK113.out 0).trans rfl, (blk_cell BK113.out 1).trans rfl, (blk_cell BK113.out 2).trans rfl⟩) : p := h
theorem z26_ {p : Prop} (h : p := by repeat (first | (with_reducible first | exact HB.out | apply below_alloc | apply pw_below_drewN | apply below_drew1 | refine below_set ?_ GE112.out | refine below_set ?_ GE113.out) | exact HB.out)) : p := h
theorem z27_ {p : Prop} (h : p := by (try simp only [List.map_toArray, List.map_cons, List.map_nil]); first | done | (simp only [hji4]; rfl) | rfl | (simp only [List.length_drop, List.length_take]; rfl)) : p := h
theorem z28_ {p : Prop} (h : p := by first | rfl | (simp [errW_none, errW_some] <;> rfl) | (simp only [← hji4]; first | rfl | (simp [errW_none, errW_some] <;> rfl)) | (simp [*, errW_none, errW_some] <;> rfl)) : p := h
theorem z29_ {p : Prop} (h : p := by first | exact hd | exact hd.below) : p := h
theorem z30_ {p : Prop} (h : p := by go_num) : p := h
theorem z31_ {p : Prop} (h : p := by repeat (first | exact HR0.out | (with_reducible refine Kd.C_alloc ?_ _) | (with_reducible refine Kd.C_drewN ?_ _) | (with_reducible refine Kd.C_drew ?_))) : p := h
theorem z32_ {p : Prop} (h : p := by exact HC0.out) : p := h
theorem z33_ {p : Prop} (h : p := by repeat (first | exact (Kd.C_below HR0.out HB.out) | (with_reducible refine Kd.C_alloc ?_ _) | (with_reducible refine Kd.C_drewN ?_ _) | (with_reducible refine Kd.C_drew ?_))) : p := h
theorem z34_ {p : Prop} (h : p := by have := HK1.out; first | omega | exact Nat.le_refl _) : p := h
theorem z35_ {p : Prop} (h : p := by (with_reducible repeat (first | refine blk_drewN ?_ _ | refine blk_drew ?_ | refine blk_alloc ?_ _)); refine blk_put (cs := #[.int .i64 ((rd_T137 l0 x8_1).f0), .slice none 0 0]) ?_ 1 _ rfl; (with_reducible repeat (first | refine blk_drewN ?_ _ | refine blk_drew ?_ | refine blk_alloc ?_ _)); refine blk_put (cs := #[.int .i64 0, .slice none 0 0]) ?_ 0 _ rfl; (with_reducible repeat (first | refine blk_drewN ?_ _ | refine blk_drew ?_ | refine blk_alloc ?_ _)); exact BK126.out) : p := h
theorem z36_ {p : Prop} (h : p := by repeat (first | (with_reducible first | exact HB.out | apply below_alloc | apply pw_below_drewN | apply below_drew1 | refine below_set ?_ GE126.out) | exact HB.out)) : p := h
theorem z37_ {p : Prop} (h : p := by repeat (first | exact (Kd.C_below HR125_1.out HB.out) | (with_reducible refine Kd.C_alloc ?_ _) | (with_reducible refine Kd.C_drewN ?_ _) | (with_reducible refine Kd.C_drew ?_))) : p := h
theorem z38_ {p : Prop} (h : p := by (with_reducible repeat (first | refine blk_drewN ?_ _ | refine blk_drew ?_ | refine blk_alloc ?_ _)); exact BK126.out) : p := h
theorem z39_ {p : Prop} (h : p := by first | exact Kd.S_nil _ _ _ _ _ | exact Kd.N_nil _ _ _ _ _ | exact Kd.V_nil _ _ _ _ _ | exact Kd.Q_nil _ _ _ _ _ | exact Kd.R_nil _ _ _ _ _) : p := h
theorem z40_ {p : Prop} (h : p := by (try simp only [List.map_toArray, List.map_cons, List.map_nil]); first | done | (simp only [hji6]; rfl) | rfl | (simp only [List.length_drop, List.length_take]; rfl)) : p := h
theorem z41_ {p : Prop} (h : p := by (with_reducible repeat (first | apply Kd.S_alloc | apply Kd.S_drewN | apply Kd.S_drew)); exact HO_4.out) : p := h
theorem z42_ {p : Prop} (h : p := by exact z6_) : p := h
theorem z43_ {p : Prop} (h : p := by exact (fun _ _ => trivial)) : p := h
theorem z44_ {p : Prop} (h : p := by exact (below_size z6_)) : p := h
theorem z45_ {p : Prop} (h : p := by have := LMc14.out; omega) : p := h
theorem z46_ {p : Prop} (h : p := by repeat (first | exact (Kd.S_reads' HO_4.out).2.2 | (with_reducible refine Kd.C_alloc ?_ _) | (with_reducible refine Kd.C_drewN ?_ _) | (with_reducible refine Kd.C_drew ?_))) : p := h
theorem z47_ {p : Prop} (h : p := by repeat (first | (with_reducible first | exact HB.out | apply below_alloc | apply pw_below_drewN | apply below_drew1 | refine below_set ?_ GE143.out) | exact HB.out)) : p := h
theorem z48_ {p : Prop} (h : p := by repeat (first | exact (Kd.C_below HR0_0.out HB.out) | (with_reducible refine Kd.C_alloc ?_ _) | (with_reducible refine Kd.C_drewN ?_ _) | (with_reducible refine Kd.C_drew ?_))) : p := h
theorem z49_ {p : Prop} (h : p := by exact HC0_0.out) : p := h
theorem z50_ {p : Prop} (h : p := by (with_reducible repeat (first | refine blk_drewN ?_ _ | refine blk_drew ?_ | refine blk_alloc ?_ _)); exact BK140.out) : p := h
theorem z51_ {p : Prop} (h : p := by repeat (first | (with_reducible first | exact HB.out | apply below_alloc | apply pw_below_drewN | apply below_drew1 | refine below_set ?_ GE140.out) | exact HB.out)) : p := h
theorem z52_ {p : Prop} (h : p := by (with_reducible repeat (first | refine blk_drewN ?_ _ | refine blk_drew ?_ | refine blk_alloc ?_ _)); exact BK143.out) : p := h
theorem z53_ {p : Prop} (h : p := by repeat (first | (with_reducible first | exact HB.out | apply below_alloc | apply pw_below_drewN | apply below_drew1 | refine below_set ?_ GE146.out) | exact HB.out)) : p := h
theorem z54_ {p : Prop} (h : p := by repeat (first | exact (Kd.C_below HR0_10.out HB.out) | (with_reducible refine Kd.C_alloc ?_ _) | (with_reducible refine Kd.C_drewN ?_ _) | (with_reducible refine Kd.C_drew ?_))) : p := h
theorem z55_ {p : Prop} (h : p := by (with_reducible repeat (first | refine blk_drewN ?_ _ | refine blk_drew ?_ | refine blk_alloc ?_ _)); exact BK146.out) : p := h
theorem z56_ {p : Prop} (h : p := by have := HJ2.out; have := HK2.out; omega) : p := h
theorem z57_ {p : Prop} (h : p := by (with_reducible repeat (first | apply Kd.R_alloc | apply Kd.R_drewN | apply Kd.R_drew)); exact HO_49.out) : p := h
theorem z58_ {p : Prop} (h : p := by repeat (first | exact (Kd.C_below HR0_7.out HB.out) | (with_reducible refine Kd.C_alloc ?_ _) | (with_reducible refine Kd.C_drewN ?_ _) | (with_reducible refine Kd.C_drew ?_))) : p := h
theorem z59_ {p : Prop} (h : p := by exact HC0_7.out) : p := h
theorem z60_ {p : Prop} (h : p := by repeat (first | exact (Kd.C_below HR0_9.out HB.out) | (with_reducible refine Kd.C_alloc ?_ _) | (with_reducible refine Kd.C_drewN ?_ _) | (with_reducible refine Kd.C_drew ?_))) : p := h
theorem z61_ {p : Prop} (h : p := by exact HC0_9.out) : p := h
theorem z62_ {p : Prop} (h : p := by repeat (first | exact (Kd.C_below HR0_13.out HB.out) | (with_reducible refine Kd.C_alloc ?_ _) | (with_reducible refine Kd.C_drewN ?_ _) | (with_reducible refine Kd.C_drew ?_))) : p := h
theorem z63_ {p : Prop} (h : p := by exact HC0_13.out) : p := h
theorem z64_ {p : Prop} (h : p := by repeat (first | exact (Kd.C_below HR0_2.out HB.out) | (with_reducible refine Kd.C_alloc ?_ _) | (with_reducible refine Kd.C_drewN ?_ _) | (with_reducible refine Kd.C_drew ?_))) : p := h
theorem z65_ {p : Prop} (h : p := by exact HC0_2.out) : p := h
theorem z66_ {p : Prop} (h : p := by have := HJ2.out; first | omega | exact Nat.le_refl _) : p := h
theorem z67_ {p : Prop} (h : p := by (with_reducible repeat (first | apply Kd.R_alloc | apply Kd.R_drewN | apply Kd.R_drew)); exact HO_3.out) : p := h
theorem z68_ {p : Prop} (h : p := by exact (Reps.one (show Kd.M (Kd.int .u8) _ _ _ (((l0.length : Int)) % 256) [.int .u8 (((l0.length : Int)) % 256)] from rfl) (Reps.none _ _))) : p := h
theorem z69_ {p : Prop} (h : p := by repeat (first | (with_reducible first | exact HB.out | apply below_alloc | apply pw_below_drewN | apply below_drew1 | refine below_set ?_ GE178.out) | exact HB.out)) : p := h
theorem z70_ {p : Prop} (h : p := by (with_reducible repeat (first | apply Kd.R_alloc | apply Kd.R_drewN | apply Kd.R_drew)); exact HO_4.out) : p := h
theorem z71_ {p : Prop} (h : p := by repeat (first | (with_reducible first | exact HB.out | apply below_alloc | apply pw_below_drewN | apply below_drew1 | refine below_set ?_ GE188.out) | exact HB.out)) : p := h
theorem z72_ {p : Prop} (h : p := by exact rfl) : p := h
theorem z73_ {p : Prop} (h : p := by exact z71_) : p := h
theorem z74_ {p : Prop} (h : p := by exact (below_size z71_)) : p := h
theorem z75_ {p : Prop} (h : p := by (with_reducible repeat (first | refine blk_drewN ?_ _ | refine blk_drew ?_ | refine blk_alloc ?_ _)); exact BK188.out) : p := h
theorem z76_ {p : Prop} (h : p := by (with_reducible repeat (first | refine blk_drewN ?_ _ | refine blk_drew ?_ | refine blk_alloc ?_ _)); exact BK199.out) : p := h
theorem z77_ {p : Prop} (h : p := by repeat (first | (with_reducible first | exact HB.out | apply below_alloc | apply pw_below_drewN | apply below_drew1 | refine below_set ?_ GE199.out) | exact HB.out)) : p := h
theorem z78_ {p : Prop} (h : p := by have := LMc29.out; omega) : p := h
theorem z79_ {p : Prop} (h : p := by (first | (go_simp; done) | (go_simp; rfl) | (unfold execOp; go_simp; rfl))) : p := h
theorem z80_ {p : Prop} (h : p := by simp only [List.map_toArray, List.map_cons, List.map_nil, Act.eval]; rw [hv]) : p := h
theorem z81_ {p : Prop} (h : p := by repeat (first | (with_reducible first | exact HB.out | apply below_alloc | apply pw_below_drewN | apply below_drew1 | refine below_set ?_ GE248.out) | exact HB.out)) : p := h
theorem z82_ {p : Prop} (h : p := by first | rfl | (simp [errW_none, errW_some] <;> rfl) | (simp only [← hji7]; first | rfl | (simp [errW_none, errW_some] <;> rfl)) | (simp [*, errW_none, errW_some] <;> rfl)) : p := h
theorem z83_ {p : Prop} (h : p := by (with_reducible repeat (first | apply Kd.R_alloc | apply Kd.R_drewN | apply Kd.R_drew)); exact HO_9.out) : p := h
theorem z84_ {p : Prop} (h : p := by exact HC0_3.out) : p := h
theorem z85_ {p : Prop} (h : p := by (with_reducible repeat (first | apply Kd.R_alloc | apply Kd.R_drewN | apply Kd.R_drew)); exact HO259.out) : p := h
theorem z86_ {p : Prop} (h : p := by repeat (first | (with_reducible first | exact HB.out | apply below_alloc | apply pw_below_drewN | apply below_drew1 | refine below_set ?_ GE263.out) | exact HB.out)) : p := h
theorem z87_ {p : Prop} (h : p := by (with_reducible repeat (first | refine blk_drewN ?_ _ | refine blk_drew ?_ | refine blk_alloc ?_ _)); exact BK263.out) : p := h
theorem z88_ {p : Prop} (h : p := by (with_reducible repeat (first | apply Kd.R_alloc | apply Kd.R_drewN | apply Kd.R_drew)); exact HO_23.out) : p := h
theorem z89_ {p : Prop} (h : p := by first | (go_simp; done) | (go_simp; rfl)) : p := h
theorem z90_ {p : Prop} (h : p := by repeat (first | (with_reducible first | exact HB.out | apply below_alloc | apply pw_below_drewN | apply below_drew1 | refine below_set ?_ GE275.out | refine below_set ?_ GE276.out) | exact HB.out)) : p := h
theorem z91_ {p : Prop} (h : p := by (with_reducible repeat (first | refine blk_drewN ?_ _ | refine blk_drew ?_ | refine blk_alloc ?_ _)); exact BK275.out) : p := h
theorem z92_ {p : Prop} (h : p := by repeat (first | (with_reducible first | exact HB.out | apply below_alloc | apply pw_below_drewN | apply below_drew1 | refine below_set ?_ GE275.out) | exact HB.out)) : p := h
theorem z93_ {p : Prop} (h : p := by rw [hg]; exact (below_size (by repeat (first | (with_reducible first | exact HB.out | apply below_alloc | apply pw_below_drewN | apply below_drew1 | refine below_set ?_ GE275.out) | exact HB.out)))) : p := h
theorem z94_ {p : Prop} (h : p := by rw [hg]; exact Nat.ne_of_lt (blk_lt (g := gb275) (o := .cells #[.int .i64 a0_0, .int .i64 a0_1, .int .i64 a0_2, .slice A0_3 l0_3.length c0_3, .int .i64 a0_4] 26 (0, 0)) z91_)) : p := h
theorem z95_ {p : Prop} (h : p := by rw [hg]; exact Nat.ne_of_gt (blk_lt (g := gb275) (o := .cells #[.int .i64 a0_0, .int .i64 a0_1, .int .i64 a0_2, .slice A0_3 l0_3.length c0_3, .int .i64 a0_4] 26 (0, 0)) z91_)) : p := h
theorem z96_ {p : Prop} (h : p := by repeat (first | exact (Kd.C_below HR0_3.out HB.out) | (with_reducible refine Kd.C_alloc ?_ _) | (with_reducible refine Kd.C_drewN ?_ _) | (with_reducible refine Kd.C_drew ?_))) : p := h
theorem z97_ {p : Prop} (h : p := by (with_reducible repeat (first | refine blk_drewN ?_ _ | refine blk_drew ?_ | refine blk_alloc ?_ _)); exact BK276.out) : p := h
theorem z98_ {p : Prop} (h : p := by (with_reducible repeat (first | refine blk_drewN ?_ _ | refine blk_drew ?_ | refine blk_alloc ?_ _)); refine blk_put (cs := #[.int .i64 0, .int .i64 0, .int .i64 0, .slice none 0 0, .int .i64 0]) ?_ 4 _ rfl; (with_reducible repeat (first | refine blk_drewN ?_ _ | refine blk_drew ?_ | refine blk_alloc ?_ _)); refine blk_put (cs := #[.int .i64 0, .int .i64 0, .int .i64 0, .slice none 0 0, .int .i64 0]) ?_ 3 _ rfl; (with_reducible repeat (first | refine blk_drewN ?_ _ | refine blk_drew ?_ | refine blk_alloc ?_ _)); refine blk_put (cs := #[.int .i64 0, .int .i64 0, .int .i64 0, .slice none 0 0, .int .i64 0]) ?_ 2 _ rfl; (with_reducible repeat (first | refine blk_drewN ?_ _ | refine blk_drew ?_ | refine blk_alloc ?_ _)); refine blk_put (cs := #[.int .i64 0, .int .i64 0, .int .i64 0, .slice none 0 0, .int .i64 0]) ?_ 1 _ rfl; (with_reducible repeat (first | refine blk_drewN ?_ _ | refine blk_drew ?_ | refine blk_alloc ?_ _)); refine blk_put (cs := #[.int .i64 0, .int .i64 0, .int .i64 0, .slice none 0 0, .int .i64 0]) ?_ 0 _ rfl; (with_reducible repeat (first | refine blk_drewN ?_ _ | refine blk_drew ?_ | refine blk_alloc ?_ _)); exact BK276.out) : p := h
theorem z99_ {p : Prop} (h : p := by exact z90_) : p := h
theorem z100_ {p : Prop} (h : p := by exact (by (with_reducible repeat (first | apply Kd.R_alloc | apply Kd.R_drewN | apply Kd.R_drew)); exact HO280.out)) : p := h
theorem z101_ {p : Prop} (h : p := by exact (below_size z90_)) : p := h
theorem z102_ {p : Prop} (h : p := by (rw [← hji4]; unfold mn; (repeat' split) <;> omega)) : p := h
theorem z103_ {p : Prop} (h : p := by (with_reducible repeat (first | refine blk_drewN ?_ _ | refine blk_drew ?_ | refine blk_alloc ?_ _)); exact BK292.out) : p := h
theorem z104_ {p : Prop} (h : p := by repeat (first | (with_reducible first | exact HB.out | apply below_alloc | apply pw_below_drewN | apply below_drew1 | refine below_set ?_ GE292.out) | exact HB.out)) : p := h
theorem z105_ {p : Prop} (h : p := by exact (by (with_reducible repeat (first | apply Kd.R_alloc | apply Kd.R_drewN | apply Kd.R_drew)); exact HO_3.out)) : p := h
theorem z106_ {p : Prop} (h : p := by have := hb.size; simp at this; omega) : p := h
theorem z107_ {p : Prop} (h : p := by simp only [List.map_toArray, List.map_cons, List.map_nil]; rfl) : p := h
theorem z108_ {p : Prop} (h : p := by exact ⟨hHeld.1, hHeld.2.1, hHeld.2.2.1, hHeld.2.2.2.1, hHeld.2.2.2.2.1, hHeld.2.2.2.2.2⟩) : p := h
theorem z109_ {p : Prop} (h : p := by exact ⟨far6_ hne2 (hHeld.1), far6_ hne2 (hHeld.2.1), far6_ hne2 (hHeld.2.2.1), far6_ hne2 (hHeld.2.2.2.1), far6_ hne2 (hHeld.2.2.2.2.1), far6_ hne2 (hHeld.2.2.2.2.2)⟩) : p := h
theorem z110_ {p : Prop} (h : p := by simp only [link_read.ok]; simp [c1]) : p := h
theorem z111_ {p : Prop} (h : p := by repeat (first | (with_reducible first | exact HB.out | apply below_alloc | apply pw_below_drewN | apply below_drew1 | refine below_set ?_ GE305.out | refine below_set ?_ GE306.out) | exact HB.out)) : p := h
theorem z112_ {p : Prop} (h : p := by (with_reducible repeat (first | refine blk_drewN ?_ _ | refine blk_drew ?_ | refine blk_alloc ?_ _)); exact BK305.out) : p := h
theorem z113_ {p : Prop} (h : p := by repeat (first | (with_reducible first | exact HB.out | apply below_alloc | apply pw_below_drewN | apply below_drew1 | refine below_set ?_ GE305.out) | exact HB.out)) : p := h
theorem z114_ {p : Prop} (h : p := by rw [hg]; exact (below_size (by repeat (first | (with_reducible first | exact HB.out | apply below_alloc | apply pw_below_drewN | apply below_drew1 | refine below_set ?_ GE305.out) | exact HB.out)))) : p := h
theorem z115_ {p : Prop} (h : p := by rw [hg]; exact Nat.ne_of_lt (blk_lt (g := gb305) (o := .cells #[.int .i64 a0_0, .slice A0_1 l0_1.length c0_1] 35 (0, 0)) z112_)) : p := h
theorem z116_ {p : Prop} (h : p := by rw [hg]; exact Nat.ne_of_gt (blk_lt (g := gb305) (o := .cells #[.int .i64 a0_0, .slice A0_1 l0_1.length c0_1] 35 (0, 0)) z112_)) : p := h
theorem z117_ {p : Prop} (h : p := by rw [← hq_]; exact z112_) : p := h
theorem z118_ {p : Prop} (h : p := by rw [← hq_]; exact (by (with_reducible repeat (first | refine blk_drewN ?_ _ | refine blk_drew ?_ | refine blk_alloc ?_ _)); exact BK306.out)) : p := h
theorem z119_ {p : Prop} (h : p := by rw [← hq_]; exact z111_) : p := h
theorem z120_ {p : Prop} (h : p := by (with_reducible repeat (first | refine blk_drewN ?_ _ | refine blk_drew ?_ | refine blk_alloc ?_ _)); refine blk_put (cs := #[.int .i64 0, .slice none 0 0]) ?_ 1 _ rfl; (with_reducible repeat (first | refine blk_drewN ?_ _ | refine blk_drew ?_ | refine blk_alloc ?_ _)); refine blk_put (cs := #[.int .i64 0, .slice none 0 0]) ?_ 0 _ rfl; (with_reducible repeat (first | refine blk_drewN ?_ _ | refine blk_drew ?_ | refine blk_alloc ?_ _)); exact BK306.out) : p := h
theorem z121_ {p : Prop} (h : p := by (with_reducible repeat (first | refine blk_drewN ?_ _ | refine blk_drew ?_ | refine blk_alloc ?_ _)); refine blk_put (cs := #[.int .i64 t310, .slice A0_1 l0_1.length c0_1]) ?_ 1 _ rfl; (with_reducible repeat (first | refine blk_drewN ?_ _ | refine blk_drew ?_ | refine blk_alloc ?_ _)); refine blk_put (cs := #[.int .i64 a0_0, .slice A0_1 l0_1.length c0_1]) ?_ 0 _ rfl; (with_reducible repeat (first | refine blk_drewN ?_ _ | refine blk_drew ?_ | refine blk_alloc ?_ _)); exact BK305.out) : p := h
theorem z122_ {p : Prop} (h : p := by (with_reducible repeat (first | refine blk_drewN ?_ _ | refine blk_drew ?_ | refine blk_alloc ?_ _)); refine blk_far ?_ NB306_305.out _; (with_reducible repeat (first | refine blk_drewN ?_ _ | refine blk_drew ?_ | refine blk_alloc ?_ _)); refine blk_far ?_ NB306_305.out _; (with_reducible repeat (first | refine blk_drewN ?_ _ | refine blk_drew ?_ | refine blk_alloc ?_ _)); exact BK306.out) : p := h
theorem z123_ {p : Prop} (h : p := by exact z111_) : p := h
theorem z124_ {p : Prop} (h : p := by exact (by (with_reducible repeat (first | apply Kd.R_alloc | apply Kd.R_drewN | apply Kd.R_drew)); exact HO315.out)) : p := h
theorem z125_ {p : Prop} (h : p := by exact (below_size z111_)) : p := h
theorem z126_ {p : Prop} (h : p := by (with_reducible repeat (first | refine blk_drewN ?_ _ | refine blk_drew ?_ | refine blk_alloc ?_ _)); exact BK306.out) : p := h
theorem z127_ {p : Prop} (h : p := by (with_reducible repeat (first | apply Kd.R_alloc | apply Kd.R_drewN | apply Kd.R_drew)); exact Kd.R_mono (Kd.R_far (p := ⟨gb305, 1, none⟩) (Kd.R_types HO318.out BK305.out (by decide)) (fun _ hk => hk.2) (.slice Ao31 y316.length co31)) (fun _ hk => trivial)) : p := h
theorem z128_ {p : Prop} (h : p := by (with_reducible repeat (first | refine blk_drewN ?_ _ | refine blk_drew ?_ | refine blk_alloc ?_ _)); refine blk_far ?_ NB306_305.out _; (with_reducible repeat (first | refine blk_drewN ?_ _ | refine blk_drew ?_ | refine blk_alloc ?_ _)); exact BK306.out) : p := h
theorem z129_ {p : Prop} (h : p := by exact (Kd.own_of_R (by (with_reducible repeat (first | apply Kd.R_alloc | apply Kd.R_drewN | apply Kd.R_drew)); exact HO_14.out))) : p := h
theorem z130_ {p : Prop} (h : p := by (with_reducible repeat (first | apply Kd.R_alloc | apply Kd.R_drewN | apply Kd.R_drew)); exact HO_74.out) : p := h
theorem z131_ {p : Prop} (h : p := by (with_reducible repeat (first | apply Kd.R_alloc | apply Kd.R_drewN | apply Kd.R_drew)); exact HO_14.out) : p := h
theorem z132_ {p : Prop} (h : p := by (with_reducible repeat (first | apply Kd.R_alloc | apply Kd.R_drewN | apply Kd.R_drew)); exact HO_306001.out) : p := h
theorem z133_ {p : Prop} (h : p := by (with_reducible repeat (first | apply Kd.R_alloc | apply Kd.R_drewN | apply Kd.R_drew)); exact HO322.out) : p := h
theorem z134_ {p : Prop} (h : p := by repeat (first | exact (Kd.C_below HR0_1.out HB.out) | (with_reducible refine Kd.C_alloc ?_ _) | (with_reducible refine Kd.C_drewN ?_ _) | (with_reducible refine Kd.C_drew ?_))) : p := h
theorem z135_ {p : Prop} (h : p := by exact (by (with_reducible repeat (first | apply Kd.R_alloc | apply Kd.R_drewN | apply Kd.R_drew)); exact HO325.out)) : p := h
theorem z136_ {p : Prop} (h : p := by (with_reducible repeat (first | apply Kd.R_alloc | apply Kd.R_drewN | apply Kd.R_drew)); exact Kd.R_mono (Kd.R_far (p := ⟨gb305, 1, none⟩) (Kd.R_types HO328.out BK305.out (by decide)) (fun _ hk => hk.2) (.slice Ao63 y326.length co63)) (fun _ hk => trivial)) : p := h
theorem z137_ {p : Prop} (h : p := by unfold tagf; rw [if_neg (by have := hk2.2.2.1; omega)]; exact hk2.1) : p := h
theorem z138_ {p : Prop} (h : p := by rw [tag_old hk.2.2.1]; exact hk.1) : p := h
theorem z139_ {p : Prop} (h : p := by rw [← hk, e]; exact h.own) : p := h
theorem z140_ {p : Prop} (h : p := by unfold tagf; rw [if_pos hk.2.1]) : p := h
theorem z141_ {p : Prop} (h : p := by first | rfl | (go_simp; done) | (go_simp; rfl)) : p := h
theorem z142_ {p : Prop} (h : p := by exact (fun k hk => .inr hk)) : p := h
theorem z143_ {p : Prop} (h : p := by have := HSZ.out; simpa [World.setCell] using this) : p := h
theorem z144_ {p : Prop} (h : p := by rw [e, ByteArray.toList_eq]) : p := h
theorem z145_ {p : Prop} (h : p := by rw [HE.out.own]; decide) : p := h
theorem z146_ {p : Prop} (h : p := by have h1 := HSZ.out; have h2 := HG.out.size; have h3 := Nat.le_trans h1 h2; simpa [World.setCell] using h3) : p := h
theorem z147_ {p : Prop} (h : p := by rw [← Option.some.inj e]; exact hn _ (Nat.le_refl _)) : p := h
theorem z148_ {p : Prop} (h : p := by cases e) : p := h
theorem z149_ {p : Prop} (h : p := by simpa [World.setCell] using h.hs) : p := h
theorem z150_ {p : Prop} (h : p := by unfold wrap64; omega) : p := h
theorem z151_ {p : Prop} (h : p := by have h := Kd.C_take (Kd.R_reads' HE.out.hn).2.2 (m := i) (by omega); rwa [List.length_take, Nat.min_eq_left (by omega)] at h) : p := h
theorem z152_ {p : Prop} (h : p := by intro x cs hk; obtain rfl := k93_open hk; exact k93_mkM _ _ _ x) : p := h
theorem z153_ {p : Prop} (h : p := by exact HBW.out) : p := h
theorem z154_ {p : Prop} (h : p := by have := HLN.out; simp only [List.length_nil]; omega) : p := h
theorem z155_ {p : Prop} (h : p := by have h := Kd.C_drop (Kd.R_reads' HE2.out.hn).2.2 (m := i + 1) (c := cn) (by omega) (by omega); rw [List.length_drop] at h; exact h) : p := h
theorem z156_ {p : Prop} (h : p := by have := HLN.out; rw [List.length_take]; omega) : p := h
theorem z157_ {p : Prop} (h : p := by rw [List.length_append, List.length_take, List.length_drop]) : p := h
theorem z158_ {p : Prop} (h : p := by exact ⟨((blk_cell HC.out.bp 0).trans rfl), ((blk_cell HC.out.bp 1).trans rfl), ((blk_cell HC.out.blk 2).trans rfl), ((blk_cell HC.out.blk 3).trans rfl), ((blk_cell HC.out.blk 4).trans rfl), ((blk_cell HC.out.blk 5).trans rfl), ((blk_cell HC.out.blk 6).trans rfl)⟩) : p := h
theorem z159_ {p : Prop} (h : p := by obtain ⟨_, _, _, _, _, _, h⟩ := HRF.out; exact ⟨_, _, _, _, _, _, h.drew⟩) : p := h
theorem z160_ {p : Prop} (h : p := by exact ⟨((blk_cell (blk_alloc BP.out _) 0).trans rfl), ((blk_cell (blk_alloc HE.out.blk _) 12).trans rfl), ((blk_cell (blk_alloc BC.out _) 2).trans rfl)⟩) : p := h
theorem z161_ {p : Prop} (h : p := by exact ⟨((blk_cell HC.out.bp 0).trans rfl), ((blk_cell HC.out.bp 1).trans rfl), ((blk_cell HC.out.blk 7).trans rfl), ((blk_cell HC.out.blk 8).trans rfl), ((blk_cell HC.out.blk 9).trans rfl), ((blk_cell HC.out.blk 10).trans rfl), ((blk_cell HC.out.blk 11).trans rfl)⟩) : p := h
theorem z162_ {p : Prop} (h : p := by repeat (first | exact HE.out | apply RV.drewN | apply RV.drew)) : p := h
theorem z163_ {p : Prop} (h : p := by repeat (first | exact HB.out | apply pw_below_drewN | apply below_drew1)) : p := h
theorem z164_ {p : Prop} (h : p := by repeat (first | (with_reducible first | exact HI0.out | apply IsS101.alloc | apply IsS101.drewN | apply IsS101.drew | apply IsS101.set_0 | apply IsS101.set_1) | exact HI0.out)) : p := h
theorem z165_ {p : Prop} (h : p := by repeat (first | (with_reducible first | exact HB.out | apply below_alloc | apply pw_below_drewN | apply below_drew1 | refine below_set ?_ (IsS101.ge HI0.out)) | exact HB.out)) : p := h
theorem z166_ {p : Prop} (h : p := by repeat (first | (with_reducible first | exact HK.out | apply KeepBut.set_ | apply keep_drewN | apply keep_drew | apply keep_alloc) | exact HK.out)) : p := h
theorem z167_ {p : Prop} (h : p := by exact (keep_size (w := w) (g := g) (row := none) (by repeat (first | (with_reducible first | exact HK.out | apply KeepBut.set_ | apply keep_drewN | apply keep_drew | apply keep_alloc) | exact HK.out)))) : p := h
theorem z168_ {p : Prop} (h : p := by (with_reducible repeat (first | apply Kd.R_alloc | apply Kd.R_drewN | apply Kd.R_drew)); exact HO_8.out) : p := h
theorem z169_ {p : Prop} (h : p := by repeat (first | exact (Kd.R_reads' HO_8.out).2.2 | (with_reducible refine Kd.C_alloc ?_ _) | (with_reducible refine Kd.C_drewN ?_ _) | (with_reducible refine Kd.C_drew ?_))) : p := h
theorem z170_ {p : Prop} (h : p := by have := LM.out; have := hk_.2.1; omega) : p := h
theorem z171_ {p : Prop} (h : p := by have := LR.out; have := hk_.2.1; omega) : p := h
theorem z172_ {p : Prop} (h : p := by have := LQ.out; have := hk_.2.1; omega) : p := h
theorem z173_ {p : Prop} (h : p := by rw [digs_length]; omega) : p := h
theorem z174_ {p : Prop} (h : p := by simp; omega) : p := h
theorem z175_ {p : Prop} (h : p := by rw [mk_size, digs_length]) : p := h
theorem z176_ {p : Prop} (h : p := by rw [List.length_take]; omega) : p := h
theorem z177_ {p : Prop} (h : p := by simp [digs_length]) : p := h
theorem z178_ {p : Prop} (h : p := by rw [hlen]; decide) : p := h
theorem z179_ {p : Prop} (h : p := by rw [mk_size]; simp) : p := h
theorem z180_ {p : Prop} (h : p := by show ¬ es = 0; omega) : p := h
theorem z181_ {p : Prop} (h : p := by rw [ByteArray.size_append, mk_size, mk_size, digs_length, digs_length]) : p := h
theorem z182_ {p : Prop} (h : p := by rw [List.length_cons]; omega) : p := h
theorem z183_ {p : Prop} (h : p := by rw [List.length_append]; simp only [List.length_singleton]; omega) : p := h
theorem z184_ {p : Prop} (h : p := by rw [digs_length]; exact Nat.le_refl _) : p := h
theorem z185_ {p : Prop} (h : p := by rw [List.length_append, List.length_singleton]; omega) : p := h
theorem z186_ {p : Prop} (h : p := by rw [wt_append]; omega) : p := h
end Go.Proofs
