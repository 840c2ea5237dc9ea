import Derived.ArgAppend
import Derived.Below
import Derived.BigQuiet
import Derived.ChangeArms
import Derived.ChangeOld
import Derived.ChangeSlices
import Derived.Deep.AppendLies
import Derived.Deep.CutBlock
import Derived.Deep.DeepCutAuto
import Derived.Deep.Draws
import Derived.Deep.LoopGhost
import Derived.Deep.OwnRows
import Derived.Deep.QuietTactic
import Derived.Deep.RegionHeld3
import Derived.KernelRfl
import Derived.Laws.Append
import Derived.Laws.BitsLemmas
import Derived.Laws.BytesArg
import Derived.Laws.IdiomCopy
import Derived.Laws.MakeOwn
import Derived.Laws.OwnMore
import Derived.Laws.Rows
import Derived.Laws.Slices
import Derived.Laws.StructEq
import Derived.Lib.AppendStr
import Derived.Lib.ConvBytes
import Derived.Lib.LazyBuf
import Derived.LoopTactic
import Derived.Maps.AppendAt
import Derived.OpenShut
import Derived.OrdersHeld
import Derived.OwnWalk
import Derived.ProofKit
import Derived.RowKit
import Derived.RowKit3
import Derived.Shelf.Abstract
import Derived.Shelf.Spec.SlicesGrow
import Derived.ShutString
import Derived.SizedLaws
import Derived.Tactics
import Derived.WalkKit
import Derived.WideLaws
import Derived.Test.YtecfndblgefhdaaKzWWords
import Derived.Test.YtecfndblgefhdaaKzWLast
import Derived.Test.YtecfndblgefhdaaKzWQPut
import Derived.Test.YtecfndblgefhdaaKzWApart
import Derived.Test.YtecfndblgefhdaaKzWArr
import Derived.Test.YtecfndblgefhdaaKzWShare
import Derived.Test.YtecfndblgefhdaaKzWN
import Derived.Test.YtecfndblgefhdaaKzWNEv
import Derived.Test.YtecfndblgefhdaaKzWMore
import Derived.Test.YtecfndblgefhdaaKzWTab
import Derived.Test.YtecfndblgefhdaaKzWFour
import Derived.Test.YtecfndblgefhdaaKzWRepsOne
import Derived.Test.YtecfndblgefhdaaKzWInv
set_option linter.unusedVariables false
namespace Go.Proofs
open Go Go.RowKit Go.Proofs.YtecfndblgefhdaaW.PrintWords Go.Proofs.YtecfndblgefhdaaW.PrintLast Go.Proofs.YtecfndblgefhdaaW.PrintMore
section
variable {P : Program} {md : Region.Mode} {ops : Array Oper} {Q : Exit → Act → World → Prop} {S : World → Prop} {ds : List Nat} {oi : Oper} {v : Value} {fuel : Nat} {l : Array Bool} {a a' : Act} {w : World}
theorem lq_ (i : Nat) (N : Option Tmp) (hi : ops[i]? = some oi) (hN : oi.dst = N) (h : ∀ K : Act → World → Prop, Shut (∀ a' w', wpAnyLast P md ops Q S ds fuel (l.setIfInBounds i true) a' w' → K a' w') → if Region.wanted oi (yielded ops a.tmps) = true then Oper.wp P oi a w K Q else K (a.put N undef) w) (hc : readyB md ops l (l.setIfInBounds i true) i = true := by exact one_of HT_.out (by kernel_rfl)) (hd : i ∈ ds := by decide) :
    wpAnyLast P md ops Q S ds (fuel + 1) l a w := last_ _ hi hN hc hd h
theorem oq_ (i : Nat) (N : Option Tmp) (hi : ops[i]? = some oi) (hN : oi.dst = N) (h : ∀ K : Act → World → Prop, Shut (∀ a' w', S w' → (S w' → wpAnyLast P md ops Q S ds fuel (l.setIfInBounds i true) a' w') → K a' w') → if Region.wanted oi (yielded ops a.tmps) = true then Oper.wp P oi a w K Q else K (a.put N undef) w) (hc : readyB md ops l (l.setIfInBounds i true) i = true := by exact one_of HT_.out (by kernel_rfl)) (hd : i ∉ ds := by decide) :
    wpAnyLast P md ops Q S ds (fuel + 1) l a w := one_ _ hi hN hc hd h
theorem pq_ (i : Nat) (N : Option Tmp) (hi : ops[i]? = some oi) (hN : oi.dst = N) (h : wpAnyLast P md ops Q S ds fuel (l.setIfInBounds i true) a' w) (hc : anyB md ops l (l.setIfInBounds i true) i = true := by exact any_of HT_.out (by kernel_rfl)) (hQ : ∀ c a w, Q (.panic c) (a.put oi.dst v) w → Q (.panic c) a w := by exact fun _ _ _ h => h) (hy : Yields P ops oi v a := by exact Or.inl ⟨by rfl, by intro w'; go_simp; with_reducible rfl⟩) (ha : a.put N v = a' := by simp only [Act.put, List.setIfInBounds_toArray, List.set_cons_zero, List.set_cons_succ, i64_w, i32_w]; rfl) :
    wpAnyLast P md ops Q S ds (fuel + 1) l a w := pure_ _ hi hN hc hQ hy ha h
theorem pw_ (i : Nat) (N : Option Tmp) (hi : ops[i]? = some oi) (hN : oi.dst = N) (h : wpAnyLast P md ops Q S ds fuel (l.setIfInBounds i true) a' w) (hc : anyB md ops l (l.setIfInBounds i true) i = true := by exact any_of HT_.out (by kernel_rfl)) (hQ : ∀ c a w, Q (.panic c) (a.put oi.dst undef) w → Q (.panic c) a w := by exact fun _ _ _ h => h) (hy : Yields P ops oi undef a := by exact Or.inr ⟨by rfl, rfl⟩) (ha : a.put N undef = a' := by simp only [Act.put, List.setIfInBounds_toArray, List.set_cons_zero, List.set_cons_succ, i64_w, i32_w]; rfl) :
    wpAnyLast P md ops Q S ds (fuel + 1) l a w := pure_ _ hi hN hc hQ hy ha h
theorem tq_ (i : Nat) (N : Option Tmp) (hi : ops[i]? = some oi) (hN : oi.dst = N) (hS : S w) (h : wpAnyLast P md ops Q S ds fuel (l.setIfInBounds i true) a' w) (hc : takeB md ops ds l (l.setIfInBounds i true) i = true := by exact take_ofW HT_.out HW_.out (by kernel_rfl)) (hQ : ∀ c a w, Q (.panic c) (a.put oi.dst v) w → Q (.panic c) a w := by exact fun _ _ _ h => h) (hy : YieldsIf P ops S oi v a := by exact Or.inl ⟨by rfl, by intro w' hs; go_simp; with_reducible rfl⟩) (ha : a.put N v = a' := by simp only [Act.put, List.setIfInBounds_toArray, List.set_cons_zero, List.set_cons_succ, i64_w, i32_w]; rfl) :
    wpAnyLast P md ops Q S ds (fuel + 1) l a w := take_ _ hi hN hc hQ hy hS ha h
theorem a0_ {p : Prop} (h : p) : Aside0 p := ⟨h⟩
end
theorem bf3_ {W : World} {g : Nat} {cs : Array Value} {t : Nat} (h : W.heap[g]? = some (.cells cs t (0, 0))) : W.frozen? ⟨g, 0, none⟩ = false ∧ W.frozen? ⟨g, 1, none⟩ = false ∧ W.frozen? ⟨g, 2, none⟩ = false := ⟨blk_frozen h 0, blk_frozen h 1, blk_frozen h 2⟩
theorem bf4_ {W : World} {g : Nat} {cs : Array Value} {t : Nat} (h : W.heap[g]? = some (.cells cs t (0, 0))) : W.frozen? ⟨g, 0, none⟩ = false ∧ W.frozen? ⟨g, 1, none⟩ = false ∧ W.frozen? ⟨g, 2, none⟩ = false ∧ W.frozen? ⟨g, 3, none⟩ = false := ⟨blk_frozen h 0, blk_frozen h 1, blk_frozen h 2, blk_frozen h 3⟩
theorem st_ {P : Program} {ops : Array Oper} {Q : Exit → Act → World → Prop} {id : Nat} {a : Act} {w : World} (n : Nat) {S : World → Prop} {ds : List Nat} (hS : S w.drew) (h : S w.drew → wpAnyLast P .any ops Q S ds n (Array.replicate n false) a w.drew) (hm : P.follows .mixedOrders = true := by kernel_rfl) (hn : ops.size = n := by rfl) : (Code.region id ops true).wp P Q a w := start_ _ hm hn rfl hS h
theorem z0_ {p : Prop} (h : p := by rw [← add_field _ _ 1 (by omega)]; exact hc 1 _ rfl) : p := h
theorem z1_ {p : Prop} (h : p := by rw [← add_field _ _ 2 (by omega)]; exact hc 2 _ rfl) : p := h
theorem z2_ {p : Prop} (h : p := by first | rfl | (simp [errW_none, errW_some] <;> rfl) | (simp [*, errW_none, errW_some] <;> rfl)) : p := h
theorem z3_ {p : Prop} (h : p := by repeat (first | (with_reducible first | exact HB.out | apply below_alloc | apply pw_below_drewN | apply below_drew1) | exact HB.out)) : p := h
theorem z4_ {p : Prop} (h : p := by first | rfl | (simp; done) | (simp [*]; done)) : p := h
theorem z5_ {p : Prop} (h : p := by repeat (first | exact Drawn0.refl _ | apply Drawn0.step)) : p := h
theorem z6_ {p : Prop} (h : p := by kernel_rfl) : p := h
theorem z7_ {p : Prop} (h : p := by omega) : p := h
theorem z8_ {p : Prop} (h : p := by decide) : p := h
theorem z9_ {p : Prop} (h : p := by go_num) : p := h
theorem z10_ {p : Prop} (h : p := by first | (with_reducible assumption) | assumption) : p := h
theorem z11_ {p : Prop} (h : p := by first | (go_simp; done) | (go_simp; rfl) | (go_simp; simp only [w64m])) : p := h
theorem z12_ {p : Prop} (h : p := by rw [hg]; exact (below_size (by repeat (first | (with_reducible first | exact HB.out | apply below_alloc | apply pw_below_drewN | apply below_drew1) | exact HB.out)))) : p := h
theorem z13_ {p : Prop} (h : p := by have := HK1.out; first | omega | exact Nat.le_refl _) : p := h
theorem z14_ {p : Prop} (h : p := by (with_reducible repeat (first | refine blk_drewN ?_ _ | refine blk_drew ?_ | refine blk_alloc ?_ _)); refine blk_put (cs := #[.int .i64 ((rd_T137 l0 x8_1).f0), .slice none 0 0]) ?_ 1 _ rfl; (with_reducible repeat (first | refine blk_drewN ?_ _ | refine blk_drew ?_ | refine blk_alloc ?_ _)); refine blk_put (cs := #[.int .i64 0, .slice none 0 0]) ?_ 0 _ rfl; (with_reducible repeat (first | refine blk_drewN ?_ _ | refine blk_drew ?_ | refine blk_alloc ?_ _)); exact BK102.out) : p := h
theorem z15_ {p : Prop} (h : p := by repeat (first | (with_reducible first | exact HB.out | apply below_alloc | apply pw_below_drewN | apply below_drew1 | refine below_set ?_ GE102.out) | exact HB.out)) : p := h
theorem z16_ {p : Prop} (h : p := by (try simp only [List.map_toArray, List.map_cons, List.map_nil]); first | done | rfl | (simp only [List.length_drop, List.length_take]; rfl)) : p := h
theorem z17_ {p : Prop} (h : p := by repeat (first | exact (Kd.C_below HR101_1.out HB.out) | (with_reducible refine Kd.C_alloc ?_ _) | (with_reducible refine Kd.C_drewN ?_ _) | (with_reducible refine Kd.C_drew ?_))) : p := h
theorem z18_ {p : Prop} (h : p := by (with_reducible repeat (first | refine blk_drewN ?_ _ | refine blk_drew ?_ | refine blk_alloc ?_ _)); exact BK102.out) : p := h
theorem z19_ {p : Prop} (h : p := by repeat (first | exact (Kd.C_below HR0.out HB.out) | (with_reducible refine Kd.C_alloc ?_ _) | (with_reducible refine Kd.C_drewN ?_ _) | (with_reducible refine Kd.C_drew ?_))) : p := h
theorem z20_ {p : Prop} (h : p := by exact HC0.out) : p := h
theorem z21_ {p : Prop} (h : p := by first | omega | exact Nat.le_refl _) : p := h
theorem z22_ {p : Prop} (h : p := by have := HJ3.out; have := HK2.out; first | omega | exact Nat.le_refl _) : p := h
theorem z23_ {p : Prop} (h : p := by repeat (first | (with_reducible first | exact HB.out | apply below_alloc | apply pw_below_drewN | apply below_drew1 | refine below_set ?_ GE107.out) | exact HB.out)) : p := h
theorem z24_ {p : Prop} (h : p := by rw [← hq_]; exact (by (with_reducible repeat (first | refine blk_drewN ?_ _ | refine blk_drew ?_ | refine blk_alloc ?_ _)); exact BK108.out)) : p := h
theorem z25_ {p : Prop} (h : p := by rw [← hq_]; exact (by repeat (first | (with_reducible first | exact HB.out | apply below_alloc | apply pw_below_drewN | apply below_drew1 | refine below_set ?_ GE108.out) | exact HB.out))) : p := h
theorem z26_ {p : Prop} (h : p := by first | exact Kd.S_nil _ _ _ _ _ | exact Kd.N_nil _ _ _ _ _ | exact Kd.V_nil _ _ _ _ _ | exact Kd.Q_nil _ _ _ _ _ | exact Kd.R_nil _ _ _ _ _) : p := h
theorem z27_ {p : Prop} (h : p := by first | exact Kd.R_nil _ _ _ _ _ | exact Kd.N_nil _ _ _ _ _ | exact Kd.V_nil _ _ _ _ _ | exact Kd.Q_nil _ _ _ _ _ | exact Kd.S_nil _ _ _ _ _) : p := h
theorem z28_ {p : Prop} (h : p := by repeat (first | (with_reducible first | exact HB.out | apply below_alloc | apply pw_below_drewN | apply below_drew1 | refine below_set ?_ GE108.out) | exact HB.out)) : p := h
theorem z29_ {p : Prop} (h : p := by simp only [List.length_cons]; omega) : p := h
theorem z30_ {p : Prop} (h : p := by first | (go_simp; done) | (go_simp; rfl)) : p := h
theorem z31_ {p : Prop} (h : p := by rw [hg]; exact below_size HBw.out) : p := h
theorem z32_ {p : Prop} (h : p := by exact fun _ _ => trivial) : p := h
theorem z33_ {p : Prop} (h : p := by exact below_size HB5.out) : p := h
theorem z34_ {p : Prop} (h : p := by have := HL.out; simp only [List.length_nil]; omega) : p := h
theorem z35_ {p : Prop} (h : p := by (with_reducible repeat (first | apply Kd.S_alloc | apply Kd.S_drewN | apply Kd.S_drew)); exact HO_3.out) : p := h
theorem z36_ {p : Prop} (h : p := by repeat (first | (with_reducible first | exact HB.out | apply below_alloc | apply pw_below_drewN | apply below_drew1 | refine below_set ?_ GE111.out) | exact HB.out)) : p := h
theorem z37_ {p : Prop} (h : p := by (with_reducible repeat (first | refine blk_drewN ?_ _ | refine blk_drew ?_ | refine blk_alloc ?_ _)); exact BK111.out) : p := h
theorem z38_ {p : Prop} (h : p := by exact ⟨(blk_cell BK111.out 0).trans rfl, (blk_cell BK111.out 1).trans rfl⟩) : p := h
theorem z39_ {p : Prop} (h : p := by have := HK1.out; omega) : p := h
theorem z40_ {p : Prop} (h : p := by rw [hg]; exact Nat.le_refl _) : p := h
theorem z41_ {p : Prop} (h : p := by repeat (first | (with_reducible first | exact HB.out | apply below_alloc | apply pw_below_drewN | apply below_drew1 | refine below_set ?_ GE118.out) | exact HB.out)) : p := h
theorem z42_ {p : Prop} (h : p := by (with_reducible repeat (first | refine blk_drewN ?_ _ | refine blk_drew ?_ | refine blk_alloc ?_ _)); exact BK123.out) : p := h
theorem z43_ {p : Prop} (h : p := by repeat (first | (with_reducible first | exact HB.out | apply below_alloc | apply pw_below_drewN | apply below_drew1 | refine below_set ?_ GE123.out) | exact HB.out)) : p := h
theorem z44_ {p : Prop} (h : p := by rw [hg]; exact (below_size (by repeat (first | (with_reducible first | exact HB.out | apply below_alloc | apply pw_below_drewN | apply below_drew1 | refine below_set ?_ GE123.out) | exact HB.out)))) : p := h
theorem z45_ {p : Prop} (h : p := by exact ⟨(blk_cell BK123.out 0).trans rfl, (blk_cell BK123.out 1).trans rfl, (blk_cell BK123.out 2).trans rfl, (blk_cell BK124.out 0).trans rfl, (blk_cell BK124.out 1).trans rfl, (blk_cell BK124.out 2).trans rfl⟩) : p := h
theorem z46_ {p : Prop} (h : p := by repeat (first | (with_reducible first | exact HB.out | apply below_alloc | apply pw_below_drewN | apply below_drew1 | refine below_set ?_ GE123.out | refine below_set ?_ GE124.out) | exact HB.out)) : p := h
theorem z47_ {p : Prop} (h : p := by (try simp only [List.map_toArray, List.map_cons, List.map_nil]); first | done | (simp only [hji4]; rfl) | rfl | (simp only [List.length_drop, List.length_take]; rfl)) : p := h
theorem z48_ {p : Prop} (h : p := by repeat (first | (with_reducible first | exact HB.out | apply below_alloc | apply pw_below_drewN | apply below_drew1 | refine below_set ?_ GE134.out) | exact HB.out)) : p := h
theorem z49_ {p : Prop} (h : p := by repeat (first | (with_reducible first | exact HB.out | apply below_alloc | apply pw_below_drewN | apply below_drew1 | refine below_set ?_ GE134.out | refine below_set ?_ GE140.out) | exact HB.out)) : p := h
theorem z50_ {p : Prop} (h : p := by repeat (first | exact (Kd.C_below HR0_0.out HB.out) | (with_reducible refine Kd.C_alloc ?_ _) | (with_reducible refine Kd.C_drewN ?_ _) | (with_reducible refine Kd.C_drew ?_))) : p := h
theorem z51_ {p : Prop} (h : p := by exact HC0_0.out) : p := h
theorem z52_ {p : Prop} (h : p := by repeat (first | exact (Kd.C_below HR0_1.out HB.out) | (with_reducible refine Kd.C_alloc ?_ _) | (with_reducible refine Kd.C_drewN ?_ _) | (with_reducible refine Kd.C_drew ?_))) : p := h
theorem z53_ {p : Prop} (h : p := by exact HC0_1.out) : p := h
theorem z54_ {p : Prop} (h : p := by (with_reducible repeat (first | refine blk_drewN ?_ _ | refine blk_drew ?_ | refine blk_alloc ?_ _)); exact BK134.out) : p := h
theorem z55_ {p : Prop} (h : p := by rw [hg]; exact (below_size z48_)) : p := h
theorem z56_ {p : Prop} (h : p := by rw [hg]; exact Nat.ne_of_lt (blk_lt (g := gb134) (o := .cells #[.slice (some ad139) l0_0.length c0_0, .slice A0_1 l0_1.length c0_1, .int .i64 a0_2, .int .i64 a0_3] 68 (0, 0)) z54_)) : p := h
theorem z57_ {p : Prop} (h : p := by rw [hg]; exact Nat.ne_of_gt (blk_lt (g := gb134) (o := .cells #[.slice (some ad139) l0_0.length c0_0, .slice A0_1 l0_1.length c0_1, .int .i64 a0_2, .int .i64 a0_3] 68 (0, 0)) z54_)) : p := h
theorem z58_ {p : Prop} (h : p := by exact Kd.C_below HR139_2.out (by repeat (first | (with_reducible first | exact HB.out | apply below_alloc | apply pw_below_drewN | apply below_drew1 | refine below_set ?_ GE134.out | refine below_set ?_ GE140.out) | exact HB.out))) : p := h
theorem z59_ {p : Prop} (h : p := by (with_reducible repeat (first | refine blk_drewN ?_ _ | refine blk_drew ?_ | refine blk_alloc ?_ _)); refine blk_far ?_ NB134_140.out _; (with_reducible repeat (first | refine blk_drewN ?_ _ | refine blk_drew ?_ | refine blk_alloc ?_ _)); refine blk_far ?_ NB134_140.out _; (with_reducible repeat (first | refine blk_drewN ?_ _ | refine blk_drew ?_ | refine blk_alloc ?_ _)); refine blk_far ?_ NB134_140.out _; (with_reducible repeat (first | refine blk_drewN ?_ _ | refine blk_drew ?_ | refine blk_alloc ?_ _)); exact BK134.out) : p := h
theorem z60_ {p : Prop} (h : p := by (with_reducible repeat (first | refine blk_drewN ?_ _ | refine blk_drew ?_ | refine blk_alloc ?_ _)); refine blk_put (cs := #[.int .i64 ((rd_T51 l0_0 x11_1).f0), .int .i64 ((rd_T51 l0_0 x11_1).f1), .slice none 0 0]) ?_ 2 _ rfl; (with_reducible repeat (first | refine blk_drewN ?_ _ | refine blk_drew ?_ | refine blk_alloc ?_ _)); refine blk_put (cs := #[.int .i64 ((rd_T51 l0_0 x11_1).f0), .int .i64 0, .slice none 0 0]) ?_ 1 _ rfl; (with_reducible repeat (first | refine blk_drewN ?_ _ | refine blk_drew ?_ | refine blk_alloc ?_ _)); refine blk_put (cs := #[.int .i64 0, .int .i64 0, .slice none 0 0]) ?_ 0 _ rfl; (with_reducible repeat (first | refine blk_drewN ?_ _ | refine blk_drew ?_ | refine blk_alloc ?_ _)); exact BK140.out) : p := h
theorem z61_ {p : Prop} (h : p := by repeat (first | exact (Kd.C_below HR0_1.out z48_) | (with_reducible refine Kd.C_alloc ?_ _) | (with_reducible refine Kd.C_drewN ?_ _) | (with_reducible refine Kd.C_drew ?_))) : p := h
theorem z62_ {p : Prop} (h : p := by (with_reducible repeat (first | refine blk_drewN ?_ _ | refine blk_drew ?_ | refine blk_alloc ?_ _)); exact BK146.out) : p := h
theorem z63_ {p : Prop} (h : p := by repeat (first | (with_reducible first | exact HB.out | apply below_alloc | apply pw_below_drewN | apply below_drew1 | refine below_set ?_ GE146.out) | exact HB.out)) : p := h
theorem z64_ {p : Prop} (h : p := by rw [hg]; exact (below_size (by repeat (first | (with_reducible first | exact HB.out | apply below_alloc | apply pw_below_drewN | apply below_drew1 | refine below_set ?_ GE146.out) | exact HB.out)))) : p := h
theorem z65_ {p : Prop} (h : p := by repeat (first | (with_reducible first | exact HB.out | apply below_alloc | apply pw_below_drewN | apply below_drew1 | refine below_set ?_ GE146.out | refine below_set ?_ GE150.out) | exact HB.out)) : p := h
theorem z66_ {p : Prop} (h : p := by repeat (first | (with_reducible first | exact HB.out | apply below_alloc | apply pw_below_drewN | apply below_drew1 | refine below_set ?_ GE153.out | refine below_set ?_ GE154.out) | exact HB.out)) : p := h
theorem z67_ {p : Prop} (h : p := by (with_reducible repeat (first | refine blk_drewN ?_ _ | refine blk_drew ?_ | refine blk_alloc ?_ _)); exact BK153.out) : p := h
theorem z68_ {p : Prop} (h : p := by repeat (first | (with_reducible first | exact HB.out | apply below_alloc | apply pw_below_drewN | apply below_drew1 | refine below_set ?_ GE153.out) | exact HB.out)) : p := h
theorem z69_ {p : Prop} (h : p := by rw [hg]; exact (below_size (by repeat (first | (with_reducible first | exact HB.out | apply below_alloc | apply pw_below_drewN | apply below_drew1 | refine below_set ?_ GE153.out) | exact HB.out)))) : p := h
theorem z70_ {p : Prop} (h : p := by (with_reducible repeat (first | refine blk_drewN ?_ _ | refine blk_drew ?_ | refine blk_alloc ?_ _)); exact BK154.out) : p := h
theorem z71_ {p : Prop} (h : p := by repeat (first | exact (Kd.C_below HR1_0.out HB.out) | (with_reducible refine Kd.C_alloc ?_ _) | (with_reducible refine Kd.C_drewN ?_ _) | (with_reducible refine Kd.C_drew ?_))) : p := h
theorem z72_ {p : Prop} (h : p := by repeat (first | exact (Kd.C_below HR1_1.out HB.out) | (with_reducible refine Kd.C_alloc ?_ _) | (with_reducible refine Kd.C_drewN ?_ _) | (with_reducible refine Kd.C_drew ?_))) : p := h
theorem z73_ {p : Prop} (h : p := by have := HJ3.out; first | omega | exact Nat.le_refl _) : p := h
theorem z74_ {p : Prop} (h : p := by rw [List.length_map, List.length_take]; omega) : p := h
theorem z75_ {p : Prop} (h : p := by obtain rfl := k120_open h; exact k120_mkM _ _ _ x) : p := h
theorem z76_ {p : Prop} (h : p := by (with_reducible repeat (first | apply Kd.R_alloc | apply Kd.R_drewN | apply Kd.R_drew)); exact HO0.out) : p := h
theorem z77_ {p : Prop} (h : p := by repeat (first | (with_reducible first | exact HK.out | apply Kept.alloc | apply Kept.drewN | apply Kept.drew) | exact HK.out)) : p := h
theorem z78_ {p : Prop} (h : p := by (with_reducible repeat (first | apply Kd.R_alloc | apply Kd.R_drewN | apply Kd.R_drew)); exact HO_0.out) : p := h
theorem z79_ {p : Prop} (h : p := by (try simp only [List.map_toArray, List.map_cons, List.map_nil]); first | done | (simp only [hji9]; rfl) | rfl | (simp only [List.length_drop, List.length_take]; rfl)) : p := h
theorem z80_ {p : Prop} (h : p := by have := HK1.out; have := HK2.out; omega) : p := h
theorem z81_ {p : Prop} (h : p := by exact Kd.R_tight rfl HO_0.out) : p := h
theorem z82_ {p : Prop} (h : p := by (try simp only [List.map_toArray, List.map_cons, List.map_nil]); first | done | (simp only [hji8]; rfl) | rfl | (simp only [List.length_drop, List.length_take]; rfl)) : p := h
theorem z83_ {p : Prop} (h : p := by first | rfl | (simp; done) | (simp only [← hji8] <;> (first | rfl | simp)) | (simp [*]; done)) : p := h
theorem z84_ {p : Prop} (h : p := by (try simp only [List.map_toArray, List.map_cons, List.map_nil]); first | done | (simp only [hji37]; rfl) | rfl | (simp only [List.length_drop, List.length_take]; rfl)) : p := h
theorem z85_ {p : Prop} (h : p := by first | rfl | (simp; done) | (simp only [← hji37] <;> (first | rfl | simp)) | (simp [*]; done)) : p := h
theorem z86_ {p : Prop} (h : p := by (try simp only [List.map_toArray, List.map_cons, List.map_nil]); first | done | (simp only [hji63, hji66]; rfl) | rfl | (simp only [List.length_drop, List.length_take]; rfl)) : p := h
theorem z87_ {p : Prop} (h : p := by first | rfl | (simp; done) | (simp only [← hji66] <;> (first | rfl | simp)) | (simp [*]; done)) : p := h
theorem z88_ {p : Prop} (h : p := by have := HJ59.out; have := HK2.out; first | omega | exact Nat.le_refl _) : p := h
theorem z89_ {p : Prop} (h : p := by have := HJ59.out; have := HK2.out; have := HJ76.out; first | omega | exact Nat.le_refl _) : p := h
theorem z90_ {p : Prop} (h : p := by have := HJ59.out; have := HK2.out; have := HJ76.out; have := HJ78.out; first | omega | exact Nat.le_refl _) : p := h
theorem z91_ {p : Prop} (h : p := by have := HJ59.out; have := HK2.out; have := HJ76.out; have := HJ78.out; have := HJ83.out; omega) : p := h
theorem z92_ {p : Prop} (h : p := by have := HK1.out; have := HK2.out; have := HK3.out; omega) : p := h
theorem z93_ {p : Prop} (h : p := by (try simp only [hl0_2]); (try simp only [hl0_3]); (with_reducible repeat (first | apply Kd.R_alloc | apply Kd.R_drewN | apply Kd.R_drew)); exact HO_0.out) : p := h
theorem z94_ {p : Prop} (h : p := by repeat (first | exact HR0.out | (with_reducible refine Kd.C_alloc ?_ _) | (with_reducible refine Kd.C_drewN ?_ _) | (with_reducible refine Kd.C_drew ?_))) : p := h
theorem z95_ {p : Prop} (h : p := by (with_reducible repeat (first | apply Kd.R_alloc | apply Kd.R_drewN | apply Kd.R_drew)); exact Kd.R_mono HO202.out (fun _ hk => (by simp [Value.ownBlock]))) : p := h
theorem z96_ {p : Prop} (h : p := by (with_reducible repeat (first | apply Kd.R_alloc | apply Kd.R_drewN | apply Kd.R_drew)); exact HO_3.out) : p := h
theorem z97_ {p : Prop} (h : p := by (with_reducible repeat (first | apply Kd.R_alloc | apply Kd.R_drewN | apply Kd.R_drew)); exact HO_4.out) : p := h
theorem z98_ {p : Prop} (h : p := by (with_reducible repeat (first | apply Kd.R_alloc | apply Kd.R_drewN | apply Kd.R_drew)); exact HO_11.out) : p := h
theorem z99_ {p : Prop} (h : p := by (with_reducible repeat (first | apply Kd.R_alloc | apply Kd.R_drewN | apply Kd.R_drew)); exact Kd.R_mono (Kd.R_far (p := ⟨gb205, 2, none⟩) (Kd.R_far (p := ⟨gb205, 1, none⟩) (Kd.R_far (p := ⟨gb205, 0, none⟩) (Kd.R_mono HO_3.out (fun k_ hk => (⟨hk, hk.2⟩ : _ ∧ k_ ≠ gb205))) (fun _ hk => hk.2) (.int .i64 ((rd_T120 t203 x13_1).f0))) (fun _ hk => hk.2) (.int .i64 ((rd_T120 t203 x13_1).f1))) (fun _ hk => hk.2) (.string ((rd_T120 t203 x13_1).f2))) (fun _ hk => ⟨hk.1.1, hk.1.2⟩)) : p := h
theorem z100_ {p : Prop} (h : p := by (with_reducible repeat (first | apply Kd.R_alloc | apply Kd.R_drewN | apply Kd.R_drew)); exact Kd.R_mono (Kd.R_far (p := ⟨gb205, 2, none⟩) (Kd.R_far (p := ⟨gb205, 1, none⟩) (Kd.R_far (p := ⟨gb205, 0, none⟩) (Kd.R_mono HO_4.out (fun k_ hk => (⟨hk, hk.2⟩ : _ ∧ k_ ≠ gb205))) (fun _ hk => hk.2) (.int .i64 ((rd_T120 t203 x13_1).f0))) (fun _ hk => hk.2) (.int .i64 ((rd_T120 t203 x13_1).f1))) (fun _ hk => hk.2) (.string ((rd_T120 t203 x13_1).f2))) (fun _ hk => ⟨hk.1.1.1, ⟨hk.1.1.2, hk.1.2⟩⟩)) : p := h
theorem z101_ {p : Prop} (h : p := by (with_reducible repeat (first | apply Kd.R_alloc | apply Kd.R_drewN | apply Kd.R_drew)); exact Kd.R_mono (Kd.R_far (p := ⟨gb205, 2, none⟩) (Kd.R_far (p := ⟨gb205, 1, none⟩) (Kd.R_far (p := ⟨gb205, 0, none⟩) (Kd.R_mono HO_11.out (fun k_ hk => (⟨hk, hk.2⟩ : _ ∧ k_ ≠ gb205))) (fun _ hk => hk.2) (.int .i64 ((rd_T120 t203 x13_1).f0))) (fun _ hk => hk.2) (.int .i64 ((rd_T120 t203 x13_1).f1))) (fun _ hk => hk.2) (.string ((rd_T120 t203 x13_1).f2))) (fun _ hk => ⟨hk.1.1, hk.1.2⟩)) : p := h
theorem z102_ {p : Prop} (h : p := by (with_reducible repeat (first | refine blk_drewN ?_ _ | refine blk_drew ?_ | refine blk_alloc ?_ _)); refine blk_put (cs := #[.int .i64 ((rd_T120 t203 x13_1).f0), .int .i64 ((rd_T120 t203 x13_1).f1), .string (⟨#[]⟩ : ByteArray)]) ?_ 2 _ rfl; (with_reducible repeat (first | refine blk_drewN ?_ _ | refine blk_drew ?_ | refine blk_alloc ?_ _)); refine blk_put (cs := #[.int .i64 ((rd_T120 t203 x13_1).f0), .int .i64 0, .string (⟨#[]⟩ : ByteArray)]) ?_ 1 _ rfl; (with_reducible repeat (first | refine blk_drewN ?_ _ | refine blk_drew ?_ | refine blk_alloc ?_ _)); refine blk_put (cs := #[.int .i64 0, .int .i64 0, .string (⟨#[]⟩ : ByteArray)]) ?_ 0 _ rfl; (with_reducible repeat (first | refine blk_drewN ?_ _ | refine blk_drew ?_ | refine blk_alloc ?_ _)); exact BK205.out) : p := h
theorem z103_ {p : Prop} (h : p := by repeat (first | (with_reducible first | exact HB.out | apply below_alloc | apply pw_below_drewN | apply below_drew1 | refine below_set ?_ GE205.out) | exact HB.out)) : p := h
theorem z104_ {p : Prop} (h : p := by (try simp only [List.map_toArray, List.map_cons, List.map_nil]); first | done | (simp only [hji11]; rfl) | rfl | (simp only [List.length_drop, List.length_take]; rfl)) : p := h
theorem z105_ {p : Prop} (h : p := by (with_reducible repeat (first | refine blk_drewN ?_ _ | refine blk_drew ?_ | refine blk_alloc ?_ _)); exact BK205.out) : p := h
theorem z106_ {p : Prop} (h : p := by exact ⟨(blk_cell BK205.out 0).trans rfl, (blk_cell BK205.out 1).trans rfl, (blk_cell BK205.out 2).trans rfl, HS3_, HS4_, HS5_⟩) : p := h
theorem z107_ {p : Prop} (h : p := by first | rfl | (simp; done) | (simp only [← hji11] <;> (first | rfl | simp)) | (simp [*]; done)) : p := h
theorem z108_ {p : Prop} (h : p := by exact k120_mkM _ _ _ (⟨(rd_T120 t203 x13_1).f0, (rd_T120 t203 x13_1).f1, (rd_T120 t203 x13_1).f2⟩ : S120)) : p := h
theorem z109_ {p : Prop} (h : p := by exact z103_) : p := h
theorem z110_ {p : Prop} (h : p := by exact (fun k_ hk => ⟨Kd.fresh' (Kd.R_lt (by (with_reducible repeat (first | apply Kd.R_alloc | apply Kd.R_drewN | apply Kd.R_drew)); exact HO_3.out)) k_ hk, Kd.fresh' (Kd.R_lt (by (with_reducible repeat (first | apply Kd.R_alloc | apply Kd.R_drewN | apply Kd.R_drew)); exact HO_11.out)) k_ hk, Kd.freshB (g := gb205) (o := .cells #[.int .i64 ((rd_T120 t203 x13_1).f0), .int .i64 ((rd_T120 t203 x13_1).f1), .string ((rd_T120 t203 x13_1).f2)] 120 (0, 0)) (by (with_reducible repeat (first | refine blk_drewN ?_ _ | refine blk_drew ?_ | refine blk_alloc ?_ _)); exact BK205.out) k_ hk⟩)) : p := h
theorem z111_ {p : Prop} (h : p := by exact (by (with_reducible repeat (first | apply Kd.R_alloc | apply Kd.R_drewN | apply Kd.R_drew)); exact HO_4.out)) : p := h
theorem z112_ {p : Prop} (h : p := by exact (below_size z103_)) : p := h
theorem z113_ {p : Prop} (h : p := by (with_reducible repeat (first | apply Kd.R_alloc | apply Kd.R_drewN | apply Kd.R_drew)); exact Kd.R_mono HO_3.out (fun _ hk => ⟨hk.2, hk.1⟩)) : p := h
theorem z114_ {p : Prop} (h : p := by (with_reducible repeat (first | apply Kd.R_alloc | apply Kd.R_drewN | apply Kd.R_drew)); exact Kd.R_mono HO_11.out (fun _ hk => ⟨hk.2, hk.1⟩)) : p := h
theorem z115_ {p : Prop} (h : p := by (try simp only [hl3_1]); (try simp only [hl11_1]); (with_reducible repeat (first | apply Kd.R_alloc | apply Kd.R_drewN | apply Kd.R_drew)); exact Kd.R_mono HO_3.out (fun _ hk => hk.2)) : p := h
theorem z116_ {p : Prop} (h : p := by (try simp only [hl3_1]); (try simp only [hl11_1]); (with_reducible repeat (first | apply Kd.R_alloc | apply Kd.R_drewN | apply Kd.R_drew)); exact Kd.R_mono HO_11.out (fun _ hk => hk.2)) : p := h
theorem z117_ {p : Prop} (h : p := by (with_reducible repeat (first | apply Kd.V_alloc | apply Kd.V_drewN | apply Kd.V_drew)); exact HO0.out) : p := h
theorem z118_ {p : Prop} (h : p := by (with_reducible repeat (first | apply Kd.V_alloc | apply Kd.V_drewN | apply Kd.V_drew)); exact HO1.out) : p := h
theorem z119_ {p : Prop} (h : p := by (with_reducible repeat (first | apply Kd.N_alloc | apply Kd.N_drewN | apply Kd.N_drew)); exact HO216.out) : p := h
theorem z120_ {p : Prop} (h : p := by (with_reducible repeat (first | apply Kd.R_alloc | apply Kd.R_drewN | apply Kd.R_drew)); exact HO219.out) : p := h
theorem z121_ {p : Prop} (h : p := by (with_reducible repeat (first | refine blk_drewN ?_ _ | refine blk_drew ?_ | refine blk_alloc ?_ _)); exact BK223.out) : p := h
theorem z122_ {p : Prop} (h : p := by repeat (first | (with_reducible first | exact HB.out | apply below_alloc | apply pw_below_drewN | apply below_drew1 | refine below_set ?_ GE223.out) | exact HB.out)) : p := h
theorem z123_ {p : Prop} (h : p := by rw [hg]; exact (below_size (by repeat (first | (with_reducible first | exact HB.out | apply below_alloc | apply pw_below_drewN | apply below_drew1 | refine below_set ?_ GE223.out) | exact HB.out)))) : p := h
theorem z124_ {p : Prop} (h : p := by repeat (first | (with_reducible first | exact HB.out | apply below_alloc | apply pw_below_drewN | apply below_drew1 | refine below_set ?_ GE223.out | refine below_set ?_ GE226.out) | exact HB.out)) : p := h
theorem z125_ {p : Prop} (h : p := by (with_reducible repeat (first | apply Kd.R_alloc | apply Kd.R_drewN | apply Kd.R_drew)); exact HO_6.out) : p := h
theorem z126_ {p : Prop} (h : p := by exact Kd.C_below HR0.out (by repeat (first | (with_reducible first | exact HB.out | apply below_alloc | apply pw_below_drewN | apply below_drew1 | refine below_set ?_ GE259.out) | exact HB.out))) : p := h
theorem z127_ {p : Prop} (h : p := by (with_reducible repeat (first | apply Kd.R_alloc | apply Kd.R_drewN | apply Kd.R_drew)); exact (Kd.R_mono (Kd.R_far (p := ⟨gb259, 1, none⟩) (Kd.R_far (p := ⟨gb259, 0, none⟩) (Kd.R_types HO_6.out BK259.out (by decide)) (fun _ hk => hk.2) (.int .i64 ((rd_T141 l1 x16_1).f0))) (fun _ hk => hk.2) (.int .i64 ((rd_T141 l1 x16_1).f1))) (fun _ h_ => h_.1))) : p := h
theorem z128_ {p : Prop} (h : p := by (with_reducible repeat (first | refine blk_drewN ?_ _ | refine blk_drew ?_ | refine blk_alloc ?_ _)); refine blk_put (cs := #[.int .i64 ((rd_T141 l1 x16_1).f0), .int .i64 0]) ?_ 1 _ rfl; (with_reducible repeat (first | refine blk_drewN ?_ _ | refine blk_drew ?_ | refine blk_alloc ?_ _)); refine blk_put (cs := #[.int .i64 0, .int .i64 0]) ?_ 0 _ rfl; (with_reducible repeat (first | refine blk_drewN ?_ _ | refine blk_drew ?_ | refine blk_alloc ?_ _)); exact BK259.out) : p := h
theorem z129_ {p : Prop} (h : p := by repeat (first | (with_reducible first | exact HB.out | apply below_alloc | apply pw_below_drewN | apply below_drew1 | refine below_set ?_ GE259.out) | exact HB.out)) : p := h
theorem z130_ {p : Prop} (h : p := by repeat (first | (with_reducible first | exact HB.out | apply below_alloc | apply pw_below_drewN | apply below_drew1 | refine below_set ?_ GE269.out) | exact HB.out)) : p := h
theorem z131_ {p : Prop} (h : p := by repeat (first | exact HR1.out | (with_reducible refine Kd.C_alloc ?_ _) | (with_reducible refine Kd.C_drewN ?_ _) | (with_reducible refine Kd.C_drew ?_))) : p := h
theorem z132_ {p : Prop} (h : p := by exact HC1.out) : p := h
theorem z133_ {p : Prop} (h : p := by (with_reducible repeat (first | refine blk_drewN ?_ _ | refine blk_drew ?_ | refine blk_alloc ?_ _)); exact BK284.out) : p := h
theorem z134_ {p : Prop} (h : p := by repeat (first | (with_reducible first | exact HB.out | apply below_alloc | apply pw_below_drewN | apply below_drew1 | refine below_set ?_ GE284.out) | exact HB.out)) : p := h
theorem z135_ {p : Prop} (h : p := by rw [hg]; exact (below_size (by repeat (first | (with_reducible first | exact HB.out | apply below_alloc | apply pw_below_drewN | apply below_drew1 | refine below_set ?_ GE284.out) | exact HB.out)))) : p := h
theorem z136_ {p : Prop} (h : p := by rw [hg]; exact Nat.ne_of_lt (blk_lt (g := gb284) (o := .cells #[.int .i64 a0_0, .slice A0_1 l0_1.length c0_1] 137 (0, 0)) z133_)) : p := h
theorem z137_ {p : Prop} (h : p := by rw [hg]; exact Nat.ne_of_gt (blk_lt (g := gb284) (o := .cells #[.int .i64 a0_0, .slice A0_1 l0_1.length c0_1] 137 (0, 0)) z133_)) : p := h
theorem z138_ {p : Prop} (h : p := by repeat (first | (with_reducible first | exact HB.out | apply below_alloc | apply pw_below_drewN | apply below_drew1 | refine below_set ?_ GE284.out | refine below_set ?_ GE285.out) | exact HB.out)) : p := h
theorem z139_ {p : Prop} (h : p := by simp only [List.length_append, List.length_cons, List.length_nil]; omega) : p := h
theorem z140_ {p : Prop} (h : p := by simp only [List.length_append]; omega) : p := h
theorem z141_ {p : Prop} (h : p := by rw [List.length_append]; omega) : p := h
theorem z142_ {p : Prop} (h : p := by simp only [List.length_nil]; omega) : p := h
theorem z143_ {p : Prop} (h : p := by rw [hj]; simp only [List.length_append, List.length_cons]; omega) : p := h
theorem z144_ {p : Prop} (h : p := by rw [hr]; simp) : p := h
theorem z145_ {p : Prop} (h : p := by rw [List.length_take]; omega) : p := h
theorem z146_ {p : Prop} (h : p := by rw [List.length_append, List.length_take, List.length_drop]; omega) : p := h
theorem z147_ {p : Prop} (h : p := by simp only [List.length_take]; omega) : p := h
theorem z148_ {p : Prop} (h : p := by simp only [List.length_take, List.length_drop]; omega) : p := h
theorem z149_ {p : Prop} (h : p := by rw [List.drop_of_length_le (by omega)]; simp [lasts]) : p := h
theorem z150_ {p : Prop} (h : p := by rw [List.length_append]; simp only [List.length_cons, List.length_nil]; omega) : p := h
theorem z151_ {p : Prop} (h : p := by rw [hd, rightFrom, decide_eq_false (by omega)]; rfl) : p := h
theorem z152_ {p : Prop} (h : p := by rw [List.take_of_length_le (by omega)]) : p := h
theorem z153_ {p : Prop} (h : p := by rw [List.drop_of_length_le (by omega)] at hm; cases hm) : p := h
theorem z154_ {p : Prop} (h : p := by simp [Value.ownBlock]) : p := h
theorem z155_ {p : Prop} (h : p := by (with_reducible repeat (first | refine blk_drewN ?_ _ | refine blk_drew ?_ | refine blk_alloc ?_ _)); exact BK160.out) : p := h
theorem z156_ {p : Prop} (h : p := by repeat (first | (with_reducible first | exact HB.out | apply below_alloc | apply pw_below_drewN | apply below_drew1 | refine below_set ?_ GE160.out) | exact HB.out)) : p := h
theorem z157_ {p : Prop} (h : p := by rw [hg]; exact (below_size (by repeat (first | (with_reducible first | exact HB.out | apply below_alloc | apply pw_below_drewN | apply below_drew1 | refine below_set ?_ GE160.out) | exact HB.out)))) : p := h
theorem z158_ {p : Prop} (h : p := by (with_reducible repeat (first | refine blk_drewN ?_ _ | refine blk_drew ?_ | refine blk_alloc ?_ _)); exact BK161.out) : p := h
theorem z159_ {p : Prop} (h : p := by repeat (first | (with_reducible first | exact HB.out | apply below_alloc | apply pw_below_drewN | apply below_drew1 | refine below_set ?_ GE160.out | refine below_set ?_ GE161.out) | exact HB.out)) : p := h
theorem z160_ {p : Prop} (h : p := by exact ⟨(blk_cell BK160.out 0).trans rfl, (blk_cell BK160.out 1).trans rfl, (blk_cell BK160.out 2).trans rfl, (blk_cell BK160.out 3).trans rfl⟩) : p := h
theorem z161_ {p : Prop} (h : p := by repeat (first | (with_reducible exact HR168_2.out) | (with_reducible refine Kd.C_alloc ?_ _) | (with_reducible refine Kd.C_drewN ?_ _) | (with_reducible refine Kd.C_drew ?_) | exact HR168_2.out)) : p := h
theorem z162_ {p : Prop} (h : p := by (with_reducible repeat (first | apply Kd.R_alloc | apply Kd.R_drewN | apply Kd.R_drew)); exact HO_161001.out) : p := h
theorem z163_ {p : Prop} (h : p := by rw [hg]; exact below_size HB.out) : p := h
theorem z164_ {p : Prop} (h : p := by have := hk; omega) : p := h
theorem z165_ {p : Prop} (h : p := by rw [List.drop_of_length_le (by omega), List.take_nil]) : p := h
end Go.Proofs
