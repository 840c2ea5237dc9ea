import Derived.Test.YtecfndblgefhdaaKcWWords
import Derived.Test.YtecfndblgefhdaaKcWLast
import Derived.Laws.Append
namespace Go.Proofs.YtecfndblgefhdaaW.PrintWords
open Go.RowKit
namespace Kd
section
variable {α : Type} {d : Kd α} {e base g o n cap : Nat} {ok okp : Nat → Prop} {w W : World} {v : Value} {xs : List α}
end
section
variable {α : Type} {enc : α → Value} {h1 : ∀ x, (enc x).oneCell' = true} {e base g o n cap : Nat} {ok : Nat → Prop} {W : World} {xs : List α}
end
end Kd
end Go.Proofs.YtecfndblgefhdaaW.PrintWords
namespace Go.Proofs.YtecfndblgefhdaaW.PrintWords
open Go.RowKit
namespace Kd
def tag {α : Type} (f : Nat → Nat) (d : Kd α) : Kd (α × Nat) where
  sz := d.sz
  E := d.E
  K := fun w x cs => d.K w x.1 cs
  M := fun w base ok x cs => d.M w base (fun k => ok k ∧ f k = x.2) x.1 cs
  K_len := fun h => d.K_len h
  K_one := fun h => d.K_one h
  K_below := fun hb h => d.K_below hb h
  K_of_M := fun h => d.K_of_M h
  M_mono := fun hok h => d.M_mono (fun k hk => ⟨hok k hk.1, hk.2⟩) h
  M_bound := fun h => d.M_mono (fun _ hk => ⟨⟨hk.1.1, hk.2⟩, hk.1.2⟩) (d.M_bound h)
  M_move := fun hm h => d.M_move (fun k hk => hm k hk.1) h
  M_lower := fun hb h => d.M_lower hb h
def S {α : Type} (d : Kd α) (e : Nat) (w : World) (base : Nat) (ok : Nat → Prop) (v : Value) (xs : List α) : Prop := ∃ f, (tag f d).R e w base ok v xs.zipIdx
section
variable {α β : Type} {d : Kd α} {d' : Kd β} {e e' : Nat} {w w1 W : World} {base b : Nat} {ok ok' okv oku : Nat → Prop} {u v : Value} {xs : List α} {ys : List β}
theorem zip_at {xs : List α} {j : Nat} {p : α} (h : xs[j]? = some p) : xs.zipIdx[j]? = some (p, j) := by rw [List.getElem?_zipIdx, h, Nat.zero_add]; rfl
theorem S_R (h : S d e w base ok v xs) : d.R e w base ok v xs := by
  obtain ⟨f, h0, inner, ho, hr⟩ := h
  rw [List.length_zipIdx] at ho
  exact ⟨h0, inner, ho, by have := hr.1; rw [List.length_zipIdx] at this; exact this, fun j p hj => d.M_mono (fun _ hk => hk.1) (hr.2 j (p, j) (zip_at hj))⟩
theorem R_tight (hE : d.E = []) (h : d.R e w base ok v xs) : d.R e w base (fun k => some k = v.ownBlock) v xs := by
  obtain ⟨h0, inner, ho, hr⟩ := h
  refine ⟨fun k hk => hk.symm, inner, ho, hr.imp_ (fun p c hp => d.M_mono (fun k hk => ?_) (d.M_bound hp))⟩
  obtain ⟨_, _, _, q, hq, _⟩ := hk
  rw [hE] at hq
  cases hq
theorem S_nil (d : Kd α) (e : Nat) (w : World) (base : Nat) (ok : Nat → Prop) : S d e w base ok (.slice none 0 0) [] := ⟨fun _ => 0, R_nil _ _ _ _ _⟩
theorem S_mono (h : S d e w base ok v xs) (hok : ∀ k, ok k → ok' k) : S d e w base ok' v xs := by
  obtain ⟨f, h⟩ := h
  exact ⟨f, R_mono h hok⟩
theorem S_bound (h : S d e w base ok v xs) : S d e w base (fun k => ok k ∧ base ≤ k ∧ k < w.heap.size ∧ ∃ q, q ∈ e :: d.E ∧ ∃ cells, w.heap[k]? = some (.cells cells q (0, 0))) v xs := by
  obtain ⟨f, h⟩ := h
  exact ⟨f, R_bound h⟩
theorem S_move (h : S d e w base ok v xs) (hm : ∀ k, ok k → w1.heap[k]? = w.heap[k]?) : S d e w1 base ok v xs := by
  obtain ⟨f, h⟩ := h
  exact ⟨f, R_move h hm⟩
theorem S_lower {base' : Nat} (h : S d e w base ok v xs) (hb : base' ≤ base) : S d e w base' ok v xs := by
  obtain ⟨f, h⟩ := h
  exact ⟨f, R_lower h hb⟩
theorem S_step (h : S d e w base ok v xs) (hm : ∀ k, ok k → k < w.heap.size → w1.heap[k]? = w.heap[k]?) : S d e w1 base ok v xs :=
  S_mono (S_move (S_bound h) (fun k hk => hm k hk.1 hk.2.2.1)) (fun _ hk => hk.1)
theorem S_below (h : S d e w base ok v xs) (hb : Below w.heap.size w w1) : S d e w1 base ok v xs := S_step h (fun k _ hk => hb.block k hk)
theorem S_drew (h : S d e w base ok v xs) : S d e w.drew base ok v xs := S_below h (below_drew (Below.refl _ _))
theorem S_drewN (h : S d e w base ok v xs) (m : Nat) : S d e (w.drewN m) base ok v xs := S_below h (pw_below_drewN (Below.refl _ _) m)
theorem S_typed (h : S d e w base ok v xs) : ∀ k, v.ownBlock = some k → ∃ cells, w.heap[k]? = some (.cells cells e (0, 0)) := R_typed (S_R h)
theorem S_elder' (h : S d e W base ok u xs) (hbase : ∀ k, v.ownBlock = some k → W.heap.size ≤ k) (hb : Below W.heap.size W w1) : S d e w1 base (fun k => ok k ∧ some k ≠ v.ownBlock) u xs := by
  obtain ⟨f, h⟩ := h
  exact ⟨f, R_elder' h hbase hb⟩
theorem R_tag {f f' : Nat → Nat} {zs : List (α × Nat)} (h : (tag f d).R e w base ok v zs) (hf : ∀ k, ok k → k < w.heap.size → f' k = f k) : (tag f' d).R e w base ok v zs := by
  obtain ⟨h0, inner, ho, hr⟩ := R_bound h
  exact ⟨fun k hk => (h0 k hk).1, inner, ho, hr.1, fun j p hj => d.M_mono (fun k hk => ⟨⟨hk.1.1.1, hk.1.2⟩, (hf k hk.1.1.1 hk.1.1.2.2.1).trans hk.2⟩) (hr.2 j p hj)⟩
end
section
variable {α β : Type} {d : Kd α} {d' : Kd β} {e e' g : Nat} {w w1 W : World} {base b : Nat} {ok ok' okv oku : Nat → Prop} {u v : Value} {xs : List α} {ys : List β}
theorem S_slice (h : S d e w base ok v xs) : ∃ A c, v = .slice A xs.length c := R_slice (S_R h)
theorem S_reads' {A : Option Addr} {n c : Nat} (h : S d e w base ok (.slice A n c) xs) : n = xs.length ∧ n ≤ c ∧ d.C w A xs.length xs := R_reads' (S_R h)
theorem zip_snoc (xs : List α) (p : α) : (xs ++ [p]).zipIdx = xs.zipIdx ++ [(p, xs.length)] := by rw [List.zipIdx_append]; simp
end
section
open Classical in
theorem S_tag {α : Type} {d : Kd α} {e base : Nat} {okv : Nat → Prop} {w : World} {v : Value} {xs : List α} (h : S d e w base okv v xs) (m : Nat) (okp : Nat → Prop) (hap : ∀ k, okp k → ¬ okv k) : ∃ f, (∀ k, okp k → f k = m) ∧ (tag f d).R e w base okv v xs.zipIdx := by
  obtain ⟨f, h⟩ := h
  exact ⟨fun k => if okp k then m else f k, fun k hk => if_pos hk, R_tag h (fun k hk _ => if_neg (fun h2 => hap k h2 hk))⟩
variable {P : Program} {ops : Array Oper} {rest : List Oper} {o : Oper} {a : Act} {Q : Exit → Act → World → Prop} {Kc : Act → World → Prop} {α : Type}
theorem S_append_step (d : Kd α) {w0 W : World} (base : Nat) (hw : Region.wanted o (yielded ops a.tmps) = true) (s x : Operand) (t e : TypeId) (z : Value) (bytes : Nat)
    (ho : o.op = .call { callee := .builtin .append, args := #[s, x], argTypes := #[t, t] })
    (ht : P.underlying t = some (.slice e)) (hinfo : (P.info? e).map (fun i => (i.zero, i.size, i.bytes)) = some (some z, d.sz, bytes)) (hz : z.cells.size = d.sz) (hs0 : 0 < d.sz) (hb0 : 0 < bytes)
    (v : Value) (xs : List α) (p : α) (cs : List Value) (ok okp : Nat → Prop) (hs : a.eval s = v) (hx : a.eval x = .slice (some ⟨W.heap.size, 0, none⟩) 1 1) (hp : d.M W base okp p cs) (hokp : ∀ k, okp k → ok k ∧ some k ≠ v.ownBlock) (hfresh : ∀ k, W.heap.size ≤ k → ok k)
    (HO : S d e W base (fun k => ok k ∧ ¬ okp k) v xs) (HB : Below base w0 W) (hbase : base ≤ W.heap.size) (hl : (xs.length + 1) * bytes ≤ 140737488355328)
    (h : ∀ v1 w1, S d e w1 base ok v1 (xs ++ [p]) → Below base w0 w1 → W.grownBy w1 v.ownBlock → (v1.ownBlock = v.ownBlock ∨ ∃ b, v1.ownBlock = some b ∧ W.heap.size ≤ b) → Kc (a.put o.dst v1) w1) :
    if Region.wanted o (yielded ops a.tmps) = true then Oper.wp P o a (W.alloc (.cells cs.toArray e)) Kc Q else Kc (a.put o.dst undef) (W.alloc (.cells cs.toArray e)) := by
  obtain ⟨f, hf, hR⟩ := S_tag HO xs.length okp (fun _ hk h2 => h2.2 hk)
  refine R_append_step (tag f d) base hw s x t e z bytes ho ht hinfo hz hs0 hb0 v xs.zipIdx (p, xs.length) cs ok okp hs hx (d.M_mono (fun k hk => ⟨hk, hf k hk⟩) hp) hokp hfresh (R_mono hR (fun _ hk => hk.1)) HB hbase (by rw [List.length_zipIdx]; exact hl) ?_
  intro v1 w1 hr
  rw [← zip_snoc] at hr
  exact h v1 w1 ⟨f, hr⟩
end
def gap {α : Type} (f : Nat → Nat) (d : Kd α) (i : Nat) (c : List Value) : Kd (α × Nat) where
  sz := d.sz
  E := d.E
  K := fun w x cs => (x.2 = i → cs = c ∧ cs.length = d.sz ∧ ∀ u ∈ cs, u.oneCell' = true) ∧ (x.2 ≠ i → d.K w x.1 cs)
  M := fun w base ok x cs => (x.2 = i → cs = c ∧ cs.length = d.sz ∧ ∀ u ∈ cs, u.oneCell' = true) ∧ (x.2 ≠ i → d.M w base (fun k => ok k ∧ f k = x.2) x.1 cs)
  K_len := fun {w x cs} h => by
    by_cases hx : x.2 = i
    · exact (h.1 hx).2.1
    · exact d.K_len (h.2 hx)
  K_one := fun {w x cs} h => by
    by_cases hx : x.2 = i
    · exact (h.1 hx).2.2
    · exact d.K_one (h.2 hx)
  K_below := fun hb h => ⟨h.1, fun hx => d.K_below hb (h.2 hx)⟩
  K_of_M := fun h => ⟨h.1, fun hx => d.K_of_M (h.2 hx)⟩
  M_mono := fun hok h => ⟨h.1, fun hx => d.M_mono (fun k hk => ⟨hok k hk.1, hk.2⟩) (h.2 hx)⟩
  M_bound := fun h => ⟨h.1, fun hx => d.M_mono (fun _ hk => ⟨⟨hk.1.1, hk.2⟩, hk.1.2⟩) (d.M_bound (h.2 hx))⟩
  M_move := fun hm h => ⟨h.1, fun hx => d.M_move (fun k hk => hm k hk.1) (h.2 hx)⟩
  M_lower := fun hb h => ⟨h.1, fun hx => d.M_lower hb (h.2 hx)⟩
def H {α : Type} (d : Kd α) (e : Nat) (w : World) (base : Nat) (ok : Nat → Prop) (v : Value) (xs : List α) (i : Int) (oki : Nat → Prop) (c : List Value) : Prop :=
  (∀ k, oki k → ok k) ∧ ∃ f, (gap f d i.toNat c).R e w base (fun k => ok k ∧ ¬ oki k) v xs.zipIdx
section
variable {α β : Type} {d : Kd α} {e e' g n cap : Nat} {w w1 W : World} {base : Nat} {ok ok' oki okp : Nat → Prop} {u v : Value} {xs : List α} {i : Int} {c : List Value}
end
section
variable {P : Program} {ops : Array Oper} {rest : List Oper} {o : Oper} {a : Act} {Q : Exit → Act → World → Prop} {α : Type}
end
end Kd
end Go.Proofs.YtecfndblgefhdaaW.PrintWords
namespace Go.Proofs.YtecfndblgefhdaaW.PrintWords
open Go.RowKit
namespace Kd
section
variable {α : Type} {n : Nat} {d : Kd α} {hs : 0 < d.sz} {w : World} {base : Nat} {ok : Nat → Prop} {xs : List α} {cs : List Value}
end
section
variable {α : Type} {n : Nat} {enc : α → Value} {h1 : ∀ x, (enc x).oneCell' = true} {hs : 0 < (scalar enc h1).sz} {w : World} {base : Nat} {ok : Nat → Prop} {xs : List α} {cs : List Value}
end
end Kd
end Go.Proofs.YtecfndblgefhdaaW.PrintWords
namespace Go.Proofs.YtecfndblgefhdaaW.PrintWords
open Go.RowKit
section
variable {P : Program}
end
namespace Kd
section
variable {P : Program} {ops : Array Oper} {rest : List Oper} {o : Oper} {a : Act} {Q : Exit → Act → World → Prop} {Kc : Act → World → Prop} {α : Type}
end
section
variable {α : Type} {d : Kd α} {e : Nat} {w : World} {base : Nat} {ok : Nat → Prop} {v : Value} {xs : List α}
end
section
variable {P : Program} {ops : Array Oper} {rest : List Oper} {o : Oper} {a : Act} {Q : Exit → Act → World → Prop} {Kc : Act → World → Prop} {α : Type}
end
end Kd
end Go.Proofs.YtecfndblgefhdaaW.PrintWords
namespace Go.Proofs.YtecfndblgefhdaaW.PrintWords
open Go.RowKit
namespace Kd
section
variable {α : Type} {d : Kd α} {e base g n c : Nat} {ok : Nat → Prop} {w w0 W : World} {A : Option Addr} {xs : List α}
end
end Kd
end Go.Proofs.YtecfndblgefhdaaW.PrintWords
namespace Go.Proofs.YtecfndblgefhdaaW.PrintWords
open Go.RowKit
section
variable {w W W2 : World} {S S2 S' : Nat → Prop}
end
namespace Kd
section
variable {α : Type} {d : Kd α} {e base n c : Nat} {ok oki S S2 : Nat → Prop} {w w0 W W1 W2 : World} {v : Value} {A : Option Addr} {xs : List α} {i : Int} {cs : List Value}
end
end Kd
end Go.Proofs.YtecfndblgefhdaaW.PrintWords
namespace Go.Proofs.YtecfndblgefhdaaW.PrintWords
open Go.RowKit
namespace Foot
variable {P Q : World → Prop} {W W1 : World} {ok ok' : Nat → Prop}
end Foot
namespace Kd
section
variable {α β : Type} {d : Kd α} {e base n n' cc g N : Nat} {ok ok' okp S : Nat → Prop} {w w0 w1 W W1 : World} {A A' : Option Addr} {u v v1 : Value} {xs : List α} {xs' : List β} {d' : Kd β} {x : α} {c : List Value}
end
end Kd
end Go.Proofs.YtecfndblgefhdaaW.PrintWords
namespace Go.Proofs.YtecfndblgefhdaaW.PrintWords
open Go.RowKit
namespace Kd
section
variable {α : Type} {d : Kd α} {e base n cc g : Nat} {ok ok' okp S : Nat → Prop} {w w1 W W1 : World} {A : Option Addr} {u v v1 : Value} {xs : List α} {x : α} {c : List Value}
end
end Kd
end Go.Proofs.YtecfndblgefhdaaW.PrintWords
namespace Go.Proofs.YtecfndblgefhdaaW.PrintWords
open Go.RowKit
namespace Kd
section
variable {α : Type} {d : Kd α} {e base n cap g : Nat} {ok ok' okp : Nat → Prop} {w w1 W : World} {v v1 : Value} {xs ys : List α}
end
section
variable {P : Program} {ops : Array Oper} {rest : List Oper} {o : Oper} {a : Act} {Q : Exit → Act → World → Prop} {Kc : Act → World → Prop} {α : Type}
end
end Kd
end Go.Proofs.YtecfndblgefhdaaW.PrintWords
namespace Go.Proofs.YtecfndblgefhdaaW.PrintMore
open Go.RowKit Go.Proofs.YtecfndblgefhdaaW.PrintWords
namespace Kd
open Go.Proofs.YtecfndblgefhdaaW.PrintWords.Kd
end Kd
namespace Kd
open Go.Proofs.YtecfndblgefhdaaW.PrintWords.Kd
section
variable {α : Type} {d : Kd α} {e base g N : Nat} {ok : Nat → Prop} {W w1 : World} {u v : Value} {xs : List α}
end
end Kd
theorem max2_int (k k' : IntKind) (x y : Int) : Builtin.max2 (.int k x) (.int k' y) = pure (.int k (if x < y then y else x)) := by simp only [Builtin.max2, gt_iff_lt]
theorem min2_int (k k' : IntKind) (x y : Int) : Builtin.min2 (.int k x) (.int k' y) = pure (.int k (if y < x then y else x)) := by simp only [Builtin.min2]
theorem max_two (ats : Array TypeId) (ty : TypeId) (a b : Value) : Builtin.max_ ats ty #[a, b] = (Builtin.max2 a b >>= fun s => pure s) := by simp only [Builtin.max_, List.foldlM_cons, List.foldlM_nil]
theorem min_two (ats : Array TypeId) (ty : TypeId) (a b : Value) : Builtin.min_ ats ty #[a, b] = (Builtin.min2 a b >>= fun s => pure s) := by simp only [Builtin.min_, List.foldlM_cons, List.foldlM_nil]
theorem max_three (ats : Array TypeId) (ty : TypeId) (a b c : Value) : Builtin.max_ ats ty #[a, b, c] = (Builtin.max2 a b >>= fun s => Builtin.max2 s c >>= fun s => pure s) := by simp only [Builtin.max_, List.foldlM_cons, List.foldlM_nil]
theorem min_three (ats : Array TypeId) (ty : TypeId) (a b c : Value) : Builtin.min_ ats ty #[a, b, c] = (Builtin.min2 a b >>= fun s => Builtin.min2 s c >>= fun s => pure s) := by simp only [Builtin.min_, List.foldlM_cons, List.foldlM_nil]
theorem max_four (ats : Array TypeId) (ty : TypeId) (a b c d : Value) : Builtin.max_ ats ty #[a, b, c, d] = (Builtin.max2 a b >>= fun s => Builtin.max2 s c >>= fun s => Builtin.max2 s d >>= fun s => pure s) := by simp only [Builtin.max_, List.foldlM_cons, List.foldlM_nil]
theorem min_four (ats : Array TypeId) (ty : TypeId) (a b c d : Value) : Builtin.min_ ats ty #[a, b, c, d] = (Builtin.min2 a b >>= fun s => Builtin.min2 s c >>= fun s => Builtin.min2 s d >>= fun s => pure s) := by simp only [Builtin.min_, List.foldlM_cons, List.foldlM_nil]
end Go.Proofs.YtecfndblgefhdaaW.PrintMore
namespace Go.Proofs.YtecfndblgefhdaaW.PrintWords
open Go.RowKit
section
variable {P : Program} {ops : Array Oper} {rest : List Oper} {o : Oper} {a : Act} {Q : Exit → Act → World → Prop} {W : World}
theorem gate_callee {f : FuncId} {as : Array Operand} {ts : Array TypeId} (_ho : o.op = .call { callee := .value (.func f), args := as, argTypes := ts }) (h : wpList P ops Q (o :: rest) a W) : wpList P ops Q (o :: rest) a W := h
theorem gate_builtin {b : Builtin} {xs : Array Operand} {ts : Array TypeId} (_ho : o.op = .call { callee := .builtin b, args := xs, argTypes := ts }) (h : wpList P ops Q (o :: rest) a W) : wpList P ops Q (o :: rest) a W := h
end
def mx (a b : Int) : Int := if a < b then b else a
def mn (a b : Int) : Int := if b < a then b else a
def shl (k : IntKind) (x y : Int) : Int := k.wrap (x * 2 ^ min y.toNat k.bits)
def shr (k : IntKind) (x y : Int) : Int := x / 2 ^ min y.toNat k.bits
theorem shr_small {k : IntKind} {x y j : Int} (h : shr k x y = j) (hy : y ≤ k.bits) : x / 2 ^ y.toNat = j := by rw [← h]; unfold shr; rw [Nat.min_eq_left (by omega)]
theorem drewN_self (w : World) (n : Nat) : w.drewN n = w.drewN n := rfl
namespace Kd
section
variable {α : Type} {d : Kd α} {e base : Nat} {ok : Nat → Prop} {W w1 : World} {v : Value} {xs : List α}
end
section
variable {α : Type} {d : Kd α} {e base g n cap : Nat} {ok oki okp : Nat → Prop} {W : World} {xs : List α} {i : Int} {c : List Value}
end
section
variable {α : Type} {d : Kd α} {e base b b' g N : Nat} {ok ok1 : Nat → Prop} {W W2 w1 : World} {u v : Value} {xs ys : List α} {S : Nat → Prop}
end
end Kd
end Go.Proofs.YtecfndblgefhdaaW.PrintWords
namespace Go.Proofs.YtecfndblgefhdaaW.PrintWords
open Go.RowKit
namespace Kd
section
variable {α β : Type} {d : Kd α} {e base base' n m c g N' lo hi : Nat} {ok ok' S : Nat → Prop} {w W w1 : World} {A : Option Addr} {ad : Addr} {u v v1 : Value} {xs : List α}
end
end Kd
end Go.Proofs.YtecfndblgefhdaaW.PrintWords
set_option linter.unusedVariables false
set_option linter.unusedSimpArgs false
namespace Go.Proofs.Ytecfndblgefhdaa.Conv
open Go.RowKit Go.Proofs.YtecfndblgefhdaaW.PrintWords Go.Proofs.YtecfndblgefhdaaW.PrintLast Go.Proofs.YtecfndblgefhdaaW.PrintMore
def CRow (e : TypeId) (W : World) (base : Nat) (v : Value) (l : List Int) : Prop :=
 ∃ g cap cur fr, v = .slice (some ⟨g, 0, none⟩) l.length cap ∧ base ≤ g ∧ W.heap[g]? = some (.cells cur e fr) ∧ (fr.2 = 0 ∨ cur.size ≤ fr.1) ∧ l.length ≤ cap ∧ cap ≤ maxLen ∧ cur.size = cap ∧
  ∀ (j : Nat) (x : Int), l[j]? = some x → cur[j]? = some (Value.int .u8 x)
section
variable {e : TypeId} {W W1 : World} {base : Nat} {v : Value} {l : List Int}
theorem cell_plain (w : World) (g j : Nat) (cs : Array Value) (t : TypeId) (fr : Nat × Nat) (hg : w.heap[g]? = some (.cells cs t fr)) : w.cell? ⟨g, j, none⟩ = cs[j]? := by
 simp [World.cell?, hg]
theorem frozen_no (w : World) (g j : Nat) (cs : Array Value) (t : TypeId) (fr : Nat × Nat) (hg : w.heap[g]? = some (.cells cs t fr)) (hf : fr.2 = 0 ∨ cs.size ≤ fr.1) (hj : j < cs.size) : w.frozen? ⟨g, j, none⟩ = false := by
 obtain ⟨lo, hi⟩ := fr
 simp only at hf
 simp only [World.frozen?, hg, Bool.and_eq_false_iff, decide_eq_false_iff_not]
 omega
theorem heap_setCell_fr (w : World) (g i : Nat) (cs : Array Value) (t : TypeId) (fr : Nat × Nat) (v : Value) (hg : w.heap[g]? = some (.cells cs t fr)) :
  (w.setCell ⟨g, i, none⟩ v).heap[g]? = some (.cells (cs.setIfInBounds i v) t fr) := by
 rw [setCell_eq_setRow w g i cs t fr v hg]
 exact setRow_heap w g cs _ t _ hg
theorem CRow.of_conv (W : World) (base : Nat) (s : ByteArray) (hb : base ≤ W.heap.size) (hs : s.size ≤ maxLen) :
  CRow e (Lib.bytesWorld W e s) base (.slice (some ⟨W.heap.size, 0, none⟩) s.size (grownCap W s.size 0 e)) (bytesOf s) := by
 have hge := grownCap_ge W s.size 0 e
 have hz : (Lib.bytesCells W e s).size = grownCap W s.size 0 e := by
  simp only [Lib.bytesCells, Array.size_append, Array.size_map, Array.size_replicate]
  have : s.data.size = s.size := rfl
  omega
 refine ⟨W.heap.size, _, _, _, by rw [bytesOf_length], hb, Lib.bytesWorld_at_new W e s, .inr (Nat.le_refl _), by rw [bytesOf_length]; exact hge, grownCap_le_maxLen W s.size 0 e hs, hz, ?_⟩
 intro j x hx
 have hj : j < s.data.size := by
  have := (List.getElem?_eq_some_iff.1 hx).1
  rwa [bytesOf_length] at this
 simp only [bytesOf, List.getElem?_map] at hx
 simp only [Lib.bytesCells]
 rw [Array.getElem?_append_left (by simpa using hj), Array.getElem?_map]
 simp only [Array.getElem?_toList] at hx
 rw [Array.getElem?_eq_getElem hj] at hx ⊢
 simp only [Option.map_some, Option.some.injEq] at hx ⊢
 rw [hx]
theorem CRow.kept {row : Option Nat} (h : CRow e W base v l) (hg : W.grownBy W1 row) (hne : v.ownBlock ≠ row) : CRow e W1 base v l := by
 obtain ⟨g, cap, cur, fr, rfl, hb, hgg, rest⟩ := h
 refine ⟨g, cap, cur, fr, rfl, hb, ?_, rest⟩
 rw [hg.block g (Array.getElem?_eq_some_iff.1 hgg).1 (by simpa [Value.ownBlock] using hne)]
 exact hgg
theorem CRow.some_block (h : CRow e W base v l) : ∃ g, v.ownBlock = some g ∧ base ≤ g ∧ g < W.heap.size := by
 obtain ⟨g, cap, cur, fr, rfl, hb, hgg, rest⟩ := h
 exact ⟨g, rfl, hb, (Array.getElem?_eq_some_iff.1 hgg).1⟩
theorem CRow.below (h : CRow e W base v l) (hb : Below W.heap.size W W1) : CRow e W1 base v l := by
 obtain ⟨g, h0, _⟩ := h.some_block
 exact h.kept (grown_of_below hb none) (by rw [h0]; simp)
theorem CRow.alloc (h : CRow e W base v l) (o : Obj) : CRow e (W.alloc o) base v l := h.below (below_alloc (Below.refl _ _) o)
theorem CRow.slice (h : CRow e W base v l) : ∃ g cap, v = .slice (some ⟨g, 0, none⟩) l.length cap ∧ base ≤ g ∧ l.length ≤ cap ∧ (∀ j x, l[j]? = some x → W.cell? ⟨g, j, none⟩ = some (.int .u8 x)) ∧ (∀ j, j < l.length → W.frozen? ⟨g, j, none⟩ = false) := by
 obtain ⟨g, cap, cur, fr, rfl, hb, hg, hf, h1, h2, h3, h4⟩ := h
 exact ⟨g, cap, rfl, hb, h1, fun j x hx => by rw [cell_plain W g j cur e fr hg]; exact h4 j x hx, fun j hj => frozen_no W g j cur e fr hg hf (by omega)⟩
theorem CRow.text {P : Program} {src dst : TypeId} (h : CRow e W base v l) (hs : P.underlying src = some (.slice e)) (he : P.underlying e = some (.int .u8)) (hd : P.underlying dst = some .string) :
  (convert src dst v).run P W = .ok (.string (strOfNums l)) W := by
 obtain ⟨g, cap, rfl, hb, h1, hc, _⟩ := h.slice
 refine run_convert_bytes_arg W src e hs he g 0 l.length cap l rfl (fun i hi => ?_) dst hd
 rw [Nat.zero_add]
 refine hc i _ ?_
 simp [List.getElem?_eq_getElem hi, List.getD_eq_getElem?_getD]
theorem nums_strCells (s : ByteArray) : Lib.strCells s = nums .u8 (bytesOf s) := by simp [Lib.strCells, nums, bytesOf]
theorem setCells_block (g o : Nat) : ∀ (vs : List Value) (cur : Array Value) (w : World) (t : TypeId) (fr : Nat × Nat), w.heap[g]? = some (.cells cur t fr) → o + vs.length ≤ cur.size →
  ∃ cur', (w.setCells g o vs).heap[g]? = some (.cells cur' t fr) ∧ cur'.size = cur.size ∧ (∀ j, j < o → cur'[j]? = cur[j]?) ∧ (∀ j u, vs[j]? = some u → cur'[o + j]? = some u) ∧ (∀ k, k ≠ g → (w.setCells g o vs).heap[k]? = w.heap[k]?) ∧ (w.setCells g o vs).heap.size = w.heap.size ∧
   (w.setCells g o vs).os = w.os ∧ (w.setCells g o vs).tape = w.tape ∧ (w.setCells g o vs).output = w.output := by
 intro vs
 induction vs generalizing o with
 | nil => intro cur w t fr hg _; exact ⟨cur, hg, rfl, fun _ _ => rfl, fun j u h => by simp at h, fun _ _ => rfl, rfl, rfl, rfl, rfl⟩
 | cons v r ih =>
  intro cur w t fr hg hl
  simp only [List.length_cons] at hl
  obtain ⟨cur', h1, h2, h3, h4, h5, h6, h7, h8, h9⟩ := ih (o + 1) (cur.setIfInBounds o v) (w.setCell ⟨g, o, none⟩ v) t fr (heap_setCell_fr w g o cur t fr v hg) (by simp; omega)
  simp only [World.setCells]
  refine ⟨cur', h1, by simpa using h2, fun j hj => ?_, fun j u hu => ?_, fun k hk => ?_, ?_, h7, h8, h9⟩
  ·rw [h3 j (by omega), Array.getElem?_setIfInBounds, if_neg (by omega)]
  ·cases j with
   | zero =>
    simp only [List.getElem?_cons_zero, Option.some.injEq] at hu
    rw [Nat.add_zero, h3 o (by omega), Array.getElem?_setIfInBounds, if_pos rfl, if_pos (by omega), hu]
   | succ j =>
    simp only [List.getElem?_cons_succ] at hu
    have := h4 j u hu
    rwa [show o + 1 + j = o + (j + 1) from by omega] at this
  ·rw [h5 k hk]; exact heap_setCell_other w _ k v hk
  ·rw [h6]; simp
end
section
variable {P : Program} {e : TypeId} {W : World} {base : Nat} {v : Value} {l : List Int}
structure Gives (P : Program) (W : World) (x : Value) (m : List Int) : Prop where
 len : ∀ w, (Builtin.lenOf x).run P w = .ok m.length w
 cells : (Builtin.firstCells 1 m.length x).run P W = .ok (nums .u8 m).toArray W
 drew : (Builtin.firstCells 1 m.length x).run P W.drew = .ok (nums .u8 m).toArray W.drew
theorem gives_string (s : ByteArray) : Gives P W (.string s) (bytesOf s) := by
 have hl : (bytesOf s).length = s.size := bytesOf_length s
 refine ⟨fun w => by rw [hl]; rfl, ?_, ?_⟩
 ·rw [hl, ← nums_strCells]; exact Lib.run_firstCells_string W 1 s
 ·rw [hl, ← nums_strCells]; exact Lib.run_firstCells_string W.drew 1 s
theorem gives_cells (h c : Nat) (m : List Int) (hc : ∀ j x, m[j]? = some x → W.cell? ⟨h, j, none⟩ = some (.int .u8 x)) : Gives P W (.slice (some ⟨h, 0, none⟩) m.length c) m := by
 have hk : ∀ w : World, (∀ j x, m[j]? = some x → w.cell? ⟨h, j, none⟩ = some (.int .u8 x)) → (Builtin.firstCells 1 m.length (.slice (some ⟨h, 0, none⟩) m.length c)).run P w = .ok (nums .u8 m).toArray w := by
  intro w hw
  refine run_firstCells_some (P := P) w 1 m.length ⟨h, 0, none⟩ m.length c (nums .u8 m) (by rw [nums_length, Nat.mul_one]) (fun j u hu => ?_)
  simp only [nums, List.getElem?_map, Option.map_eq_some_iff] at hu
  obtain ⟨x, hx, rfl⟩ := hu
  rw [add_plain]
  exact hw j x hx
 exact ⟨fun w => rfl, hk W hc, hk W.drew (by simpa using hc)⟩
theorem nums_one (m : List Int) : ∀ u ∈ nums .u8 m, u.oneCell' = true := by
 intro u hu
 simp only [nums, List.mem_map] at hu
 obtain ⟨b, _, rfl⟩ := hu
 rfl
theorem run_append_crow (t u ty : TypeId) (i : TypeInfo) (ht : P.underlying t = some (.slice e)) {du : TypeDesc} (hu : P.underlying u = some du) (hui : du = .string ∨ du = .slice e) (hi : P.info? e = some i) (hz : i.zero = some (.int .u8 0)) (hsize : i.size = 1) (hby : i.bytes = 1)
  (h : CRow e W base v l) (x : Value) (m : List Int) (hx : Gives P W x m) (hlim : l.length + m.length ≤ 140737488355328) (hbase : base ≤ W.heap.size) :
  ∃ v' W', (Builtin.append_ #[t, u] ty #[v, x]).run P W = .ok v' W' ∧ CRow e W' base v' (l ++ m) ∧ W.grownBy W' v.ownBlock ∧ (v'.ownBlock = v.ownBlock ∨ v'.ownBlock = some W.heap.size) := by
 obtain ⟨g, cap, cur, fr, rfl, hb, hg, hf, h1, h2, h3, h4⟩ := h
 have hzi : ∀ w : World, (underlying u).run P w = .ok du w := fun w => run_underlying hu w
 by_cases hroom : l.length + m.length ≤ cap
 ·have hst := run_storeCells_cells (P := P) g l.length (nums .u8 m) 0 W
   (fun j hj => by rw [nums_length] at hj; rw [cell_plain W g _ cur e fr hg]; simp; omega)
   (fun j hj => by rw [nums_length] at hj; exact frozen_no W g _ cur e fr hg hf (by omega)) (nums_one m)
  obtain ⟨cur', c1, c2, c3, c4, c5, c6, c7, c8, c9⟩ := setCells_block g l.length (nums .u8 m) cur W e fr hg (by rw [nums_length]; omega)
  refine ⟨.slice (some ⟨g, 0, none⟩) (l.length + m.length) cap, W.setCells g l.length (nums .u8 m), ?_, ⟨g, cap, cur', fr, by rw [List.length_append], hb, c1, by rw [c2]; exact hf, by rw [List.length_append]; exact hroom, h2, by rw [c2]; exact h3, ?_⟩, ⟨c7, c8, c9, by rw [c6]; exact Nat.le_refl _, fun k hk hne => c5 k (by simpa [Value.ownBlock, eq_comm] using hne)⟩, .inl rfl⟩
  ·rw [Nat.add_zero] at hst
   rcases hui with rfl | rfl <;> simp [Builtin.append_, run_underlying ht, hzi, sizeOf, typeInfo, hi, hsize, hx.len, hx.cells, hroom, Addr.add_lit, hst]
  ·intro j y hy
   by_cases hj : j < l.length
   ·rw [List.getElem?_append_left hj] at hy
    rw [c3 j hj]
    exact h4 j y hy
   ·rw [List.getElem?_append_right (by omega)] at hy
    have := c4 (j - l.length) (.int .u8 y) (by simp [nums, hy])
    rwa [show l.length + (j - l.length) = j from by omega] at this
 ·have h63' : ¬ (9223372036854775807 < ((l.length : Int) + (m.length : Int))) := by omega
  have hns := nextslicecap_le (need := l.length + m.length) (old := cap) (by omega)
  have hge := grownCap_ge W (l.length + m.length) cap e
  have hcm : grownCap W (l.length + m.length) cap e ≤ maxLen := grownCap_le_maxLen W (l.length + m.length) cap e (by simp only [maxLen]; omega)
  have hfo := run_firstCells_some (P := P) W.drew 1 l.length ⟨g, 0, none⟩ l.length cap (nums .u8 l) (by rw [nums_length, Nat.mul_one]) (fun j u hu => by
   simp only [nums, List.getElem?_map, Option.map_eq_some_iff] at hu
   obtain ⟨y, hy, rfl⟩ := hu
   rw [add_plain]
   have : W.cell? ⟨g, j, none⟩ = some (.int .u8 y) := by rw [cell_plain W g j cur e fr hg]; exact h4 j y hy
   simpa using this)
  refine ⟨.slice (some ⟨W.heap.size, 0, none⟩) (l.length + m.length) (grownCap W (l.length + m.length) cap e), W.drew.alloc (.cells ((nums .u8 l).toArray ++ (nums .u8 m).toArray ++ Builtin.zeroCells (Value.int .u8 0).cells (grownCap W (l.length + m.length) cap e - (l.length + m.length))) e), ?_, ?_, ?_, .inr rfl⟩
  ·have h48' : ¬ (281474976710656 < Builtin.nextslicecap (l.length + m.length) cap) := by omega
   rcases hui with rfl | rfl <;> simp [Builtin.append_, run_underlying ht, hzi, sizeOf, typeInfo, zeroValue, hi, hz, hsize, hby, hx.len, hx.drew, hroom, h63', h48', Question.forced, hfo, newRow, grownCap, ← Array.append_assoc]
  ·refine ⟨W.heap.size, _, _, (0, 0), by rw [List.length_append], hbase, heap_alloc_new W.drew _, .inl rfl, by rw [List.length_append]; exact hge, hcm, ?_, ?_⟩
   ·have hz1 : (Value.int IntKind.u8 0).cells.size = 1 := rfl
    simp only [Array.size_append, List.size_toArray, size_zeroCells, hz1, nums_length]
    omega
   ·intro j y hy
    have hj : j < (nums .u8 l).toArray.size + (nums .u8 m).toArray.size := by
     have := (List.getElem?_eq_some_iff.1 hy).1
     simpa [nums_length] using this
    rw [Array.getElem?_append_left (by rw [Array.size_append]; exact hj)]
    rw [List.append_toArray, List.getElem?_toArray, ← nums_append, nums, List.getElem?_map, hy]
    rfl
  ·exact ⟨rfl, rfl, rfl, by simp, fun k hk _ => heap_alloc_old W.drew _ hk⟩
end
theorem wpList_append_crow {P : Program} {e : TypeId} {W : World} {base : Nat} {v : Value} {l : List Int} {ops : Array Oper} {rest : List Oper} {o : Oper} {a : Act} {Q : Exit → Act → World → Prop} (hgd : o.guard = none) (sl x : Operand) (t u : TypeId)
  (ho : o.op = .call { callee := .builtin .append, args := #[sl, x], argTypes := #[t, u] })
  (ht : P.underlying t = some (.slice e)) {du : TypeDesc} (hu : P.underlying u = some du) (hui : du = .string ∨ du = .slice e) (hinfo : (P.info? e).map (fun i => (i.zero, i.size, i.bytes)) = some (some (.int .u8 0), 1, 1))
  (hs : a.eval sl = v) (h : CRow e W base v l) (xv : Value) (hx : a.eval x = xv) (m : List Int) (hg : Gives P W xv m) (hlim : l.length + m.length ≤ 140737488355328) (hbase : base ≤ W.heap.size)
  (k : ∀ v' W', CRow e W' base v' (l ++ m) → W.grownBy W' v.ownBlock → (v'.ownBlock = v.ownBlock ∨ v'.ownBlock = some W.heap.size) → wpList P ops Q rest (a.put o.dst v') W') : wpList P ops Q (o :: rest) a W := by
 obtain ⟨i, hi, hzz⟩ := Option.map_eq_some_iff.1 hinfo
 simp only [Prod.mk.injEq] at hzz
 refine wpList_plain hgd fun K hK => ?_
 obtain ⟨v', w', hr, h2, h3, h4⟩ := run_append_crow (P := P) t u o.type i ht hu hui hi hzz.1 hzz.2.1 hzz.2.2 h xv m hg hlim hbase
 unfold Oper.wp execOp
 simp only [ho, resolve, invoke, builtin, Sem.run_bind, Sem.run_pure, Result.andThen_ok, List.map_toArray, List.map_cons, List.map_nil, hs, hx, hr]
 exact hK _ _ (k v' w' h2 h3 h4)
end Go.Proofs.Ytecfndblgefhdaa.Conv
set_option linter.unusedVariables false
namespace Go.Proofs.YtecfndblgefhdaaW.PrintWords
open Go.RowKit
namespace Kd
section
variable {P : Program} {ops : Array Oper} {rest : List Oper} {o : Oper} {a : Act} {Q : Exit → Act → World → Prop} {α : Type}
theorem R_make0 (d : Kd α) {w0 W : World} (base e : Nat) (hgd : o.guard = none) {N : Tmp} (hd : o.dst = some N) (t : TypeId) (x y : Operand) (ho : o.op = .makeSlice t x y) (n : Int) (hx : a.eval x = .int .i64 0) (hy : a.eval y = .int .i64 n)
  (ht : P.underlying t = some (.slice e)) (z : Value) (bytes : Nat) (hinfo : (P.info? e).map (fun i => (i.zero, i.size, i.bytes)) = some (some z, d.sz, bytes)) (hz : z.cells.size = d.sz) (hs0 : 0 < d.sz) (hb0 : 0 < bytes)
  (z0 : α) {ok okp : Nat → Prop} (hzero : d.M W base okp z0 z.cells.toList) (hok : ∀ k, okp k → ok k) (hfresh : ok W.heap.size) (h0 : 0 ≤ n) (hl : n.toNat * bytes ≤ 281474976710656) (HB : Below base w0 W) (hbase : base ≤ W.heap.size)
  (h : ∀ v1 w1, d.R e w1 base ok v1 (List.replicate 0 z0) → Below base w0 w1 → W.grownBy w1 none → (∃ b, v1.ownBlock = some b ∧ W.heap.size ≤ b) → wpList P ops Q rest (a.put o.dst v1) w1) : wpList P ops Q (o :: rest) a W := by
 obtain ⟨m, rfl⟩ := Int.eq_ofNat_of_zero_le h0
 simp only [Int.toNat_natCast] at hl
 obtain ⟨i0, hi, hzz⟩ := Option.map_eq_some_iff.1 hinfo
 simp only [Prod.mk.injEq] at hzz
 obtain ⟨hz0, hz1, hz2⟩ := hzz
 have hm : m ≤ 281474976710656 := Nat.le_trans (Nat.le_mul_of_pos_right _ hb0) hl
 obtain ⟨w1, hr, hown, hg⟩ := run_make_own (P := P) W base t e i0 z d.sz ht hi hz0 hz1 .i64 .i64 m (by rw [hz2, Nat.mul_comm]; exact hl) (by simp [maxLen]; omega) hbase
 refine event_run hgd (v := .slice (some ⟨W.heap.size, 0, none⟩) 0 m) (w1 := w1) ?_ (h _ _ ⟨fun k hk => ?_, [], hown, Reps.none _ _⟩ (HB.grown hg hbase (by intro g hg2; cases hg2)) hg ⟨W.heap.size, by simp [Value.ownBlock], Nat.le_refl _⟩)
 ·simp [execOp, ho, hx, hy, hr]
 ·have : W.heap.size = k := by simpa [Value.ownBlock] using hk
  subst this
  exact hfresh
end
end Kd
end Go.Proofs.YtecfndblgefhdaaW.PrintWords
set_option linter.unusedVariables false
namespace Go.Proofs.YtecfndblgefhdaaW.PrintWords
open Go.RowKit
theorem cap_big {need old : Nat} (h : old < need) (hn : need ≤ 150000000000000) : Builtin.nextslicecap need old ≤ 281474976710656 := by
 unfold Builtin.nextslicecap
 split
 ·omega
 ·split
  ·omega
  ·rw [growBy_four]
   repeat' split
   all_goals omega
theorem own_new (w : World) (base e n : Nat) (xs : List Value) (s : ByteArray) (old : Nat) (row : Option Nat) (hb : base ≤ w.heap.size) (hx : xs.length = n) (hn : n + s.size ≤ 150000000000000) :
  (w.drew.alloc (.cells (xs.toArray ++ (Lib.strCells s).toArray ++ Builtin.zeroCells (Value.int .u8 0).cells (grownCap w (n + s.size) old e - (n + s.size))) e)).ownsRow base e 1 (.slice (some ⟨w.heap.size, 0, none⟩) (n + s.size) (grownCap w (n + s.size) old e)) (n + s.size) (xs ++ Lib.strCells s) ∧
  w.grownBy (w.drew.alloc (.cells (xs.toArray ++ (Lib.strCells s).toArray ++ Builtin.zeroCells (Value.int .u8 0).cells (grownCap w (n + s.size) old e - (n + s.size))) e)) row := by
 have h1 := grownCap_ge w (n + s.size) old e
 have h2 := grownCap_le_maxLen w (n + s.size) old e (show n + s.size ≤ maxLen by simp only [maxLen]; omega)
 have hl : (xs ++ Lib.strCells s).length = n + s.size := by rw [List.length_append, hx, Lib.strCells_length]
 have hz : (Value.int IntKind.u8 0).cells.size = 1 := rfl
 constructor
 ·refine ⟨by rw [hl, Nat.mul_one], .inr ⟨w.heap.size, _, _, rfl, hb, heap_alloc_new w.drew _, h1, h2, ?_, ?_⟩⟩
  ·simp only [Array.size_append, List.size_toArray, size_zeroCells, hz, hx, Lib.strCells_length]
   omega
  ·simp only [Array.toList_append]
   rw [Nat.mul_one, ← hl]
   exact List.take_left
 ·exact ⟨rfl, rfl, rfl, by simp, fun k hk _ => Below.heap_alloc w.drew _ k hk⟩
theorem run_append_big {P : Program} (w : World) (base : Nat) (t u ty e : TypeId) (i : TypeInfo) (ht : P.underlying t = some (.slice e)) (hu : P.underlying u = some .string) (hi : P.info? e = some i) (hz : i.zero = some (.int .u8 0)) (hsize : i.size = 1) (hby : i.bytes = 1)
  (v : Value) (n : Nat) (xs : List Value) (hown : w.ownsRow base e 1 v n xs) (s : ByteArray) (hn : n + s.size ≤ 150000000000000) (hb : base ≤ w.heap.size) :
  ∃ v' w', (Builtin.append_ #[t, u] ty #[v, .string s]).run P w = .ok v' w' ∧ w'.ownsRow base e 1 v' (n + s.size) (xs ++ Lib.strCells s) ∧ w.grownBy w' v.ownBlock := by
 by_cases hsmall : n + s.size ≤ 140737488355328
 ·obtain ⟨v', w', h1, h2, h3, _⟩ := Lib.run_append_own_string (P := P) w base t u ty e i ht hu hi hz hsize hby v n xs hown s (by simp only [maxLen]; omega) hsmall hb
  exact ⟨v', w', h1, h2, h3⟩
 ·have hx : xs.length = n := by simpa using hown.1
  rcases hown.2 with ⟨rfl, rfl⟩ | ⟨g, cap, cur, rfl, hbg, hg, hnc, hcm, hcs, htake⟩
  ·obtain rfl : xs = [] := List.eq_nil_of_length_eq_zero hx
   have hr := run_append_nil_string (P := P) w t u ty e i (.int .u8 0) ht hu hi hz s (by omega) (by omega) (by rw [hby]; omega)
   have hw := own_new w base e 0 [] s 0 (Value.ownBlock (.slice none 0 0)) hb rfl hn
   have e1 : (s.data.map fun b => Value.int .u8 b.toNat) = (Lib.strCells s).toArray := by apply Array.ext'; simp [Lib.strCells]
   rw [e1] at hr
   simp only [Nat.zero_add, List.nil_append, Array.empty_append] at hw ⊢
   exact ⟨_, _, hr, hw.1, hw.2⟩
  ·by_cases hroom : n + s.size ≤ cap
   ·have hc : cur.size = cap := by simpa using hcs
    have hr := Lib.run_append_room_string (P := P) w t u ty e i ht hu hi hsize g n cap cur hg s hroom (by omega)
    have hl : (xs ++ Lib.strCells s).length = n + s.size := by rw [List.length_append, hx, Lib.strCells_length]
    refine ⟨_, _, hr, ⟨by rw [hl, Nat.mul_one], .inr ⟨g, cap, _, rfl, hbg, setRow_heap w g cur _ e _ hg, hroom, hcm, ?_, ?_⟩⟩, ⟨rfl, rfl, rfl, by simp, fun k _ hk => setRow_other w g k _ (fun h => hk (by simp [Value.ownBlock, h]))⟩⟩
    ·simp only [List.size_toArray, List.length_append, List.length_take, List.length_drop, Array.length_toList, Lib.strCells_length]
     omega
    ·rw [show cur.toList.take n = xs by simpa using htake, Nat.mul_one, ← hl]
     exact List.take_left
   ·have hold : ∀ j u, xs[j]? = some u → w.cell? ((⟨g, 0, none⟩ : Addr).add j) = some u := hown.cells (g := g) rfl
    have hr := Lib.run_append_grow_string (P := P) w t u ty e i (.int .u8 0) ht hu hi hz ⟨g, 0, none⟩ n cap xs (by rw [hsize, Nat.mul_one]; exact hx) hold s (by omega) (by omega) (by rw [hby, Nat.mul_one]; exact cap_big (by omega) hn)
    have hw := own_new w base e n xs s cap (Value.ownBlock (.slice (some ⟨g, 0, none⟩) n cap)) hb hx hn
    exact ⟨_, _, hr, hw.1, hw.2⟩
section
variable {P : Program} {ops : Array Oper} {rest : List Oper} {o : Oper} {a : Act} {Q : Exit → Act → World → Prop}
theorem print_append_big {w0 W : World} (base : Nat) (hgd : o.guard = none) (s x : Operand) (t u e : TypeId) (ho : o.op = .call { callee := .builtin .append, args := #[s, x], argTypes := #[t, u] })
  (ht : P.underlying t = some (.slice e)) (hu : P.underlying u = some .string) (hinfo : (P.info? e).map (fun i => (i.zero, i.size, i.bytes)) = some (some (.int .u8 0), 1, 1))
  (v : Value) (xs : List Int) (y : ByteArray) (hs : a.eval s = v) (hx : a.eval x = .string y) (HO : W.ownsRow base e 1 v xs.length (nums .u8 xs)) (HB : Below base w0 W) (hbase : base ≤ W.heap.size) (hl : xs.length + y.size ≤ 150000000000000)
  (h : ∀ v1 w1, w1.ownsRow base e 1 v1 (xs ++ bytesOf y).length (nums .u8 (xs ++ bytesOf y)) → Below base w0 w1 → W.grownBy w1 v.ownBlock → wpList P ops Q rest (a.put o.dst v1) w1) : wpList P ops Q (o :: rest) a W := by
 obtain ⟨i0, hi, hzz⟩ := Option.map_eq_some_iff.1 hinfo
 simp only [Prod.mk.injEq] at hzz
 obtain ⟨hz0, hz1, hz2⟩ := hzz
 obtain ⟨v1, w1, hr, hown, hg⟩ := run_append_big (P := P) W base t u o.type e i0 ht hu hi hz0 hz1 hz2 v xs.length (nums .u8 xs) HO y hl hbase
 refine wpList_plain hgd fun K hK => ?_
 unfold Oper.wp execOp
 simp only [ho, resolve, invoke, builtin, Sem.run_bind, Sem.run_pure, Result.andThen_ok, List.map_toArray, List.map_cons, List.map_nil, hs, hx, hr]
 refine hK _ _ (h v1 w1 ?_ (HB.grown hg hbase (own_base HO)) hg)
 have hl2 : (xs ++ bytesOf y).length = xs.length + y.size := by rw [List.length_append, bytesOf_length]
 have hc : nums .u8 (xs ++ bytesOf y) = nums .u8 xs ++ Lib.strCells y := by
  rw [nums_append]
  congr 1
  simp [nums, bytesOf, Lib.strCells]
 rw [hl2, hc]
 exact hown
end
end Go.Proofs.YtecfndblgefhdaaW.PrintWords
