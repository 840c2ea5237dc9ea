import Derived.Test.YtgfmdfgibkkfaaaKaPx0
import Derived.Test.YtgfmdfgibkkfaaaKaLinkG
set_option linter.unusedVariables false
set_option linter.unusedSimpArgs false
namespace Go.Proofs.Ytgfmdfgibkkfaaa.Link
open Go.RowKit Go.Proofs.Ytgfmdfgibkkfaaa.P Go.Proofs.Ytgfmdfgibkkfaaa.Core Go.Proofs.Ytgfmdfgibkkfaaa.Oct Go.Proofs.Ytgfmdfgibkkfaaa.Frame Go.Proofs.YtgfmdfgibkkfaaaW.PrintWords Go.Proofs.YtgfmdfgibkkfaaaW.PrintLast Go.Proofs.YtgfmdfgibkkfaaaW.PrintMore
structure Rc where
  d : Bool
  one : Bool
  o : Nat
  n : Nat
  w : Nat
  t : ByteArray
def Rc.text (q : Rc) (es : Nat) : ByteArray := packetS (if q.one = true then 1 else 2) es q.o q.n q.w q.t
def Rc.pk (q : Rc) : S65 := ⟨if q.d = true then 1 else 0, q.text (if q.d = true then 3 else 4), false⟩
structure Val (er ws : Nat) (ps : List ByteArray) (q : Rc) : Prop where
  w1 : 1 ≤ q.w
  w2 : q.w ≤ ws
  t : q.t.size ≤ 512
  yes : q.one = true → 1 ≤ q.n ∧ q.n ≤ ps.length ∧ ps[q.n - 1]? = some q.t ∧ (q.o = 0 ∨ q.o = er)
  no : q.one = false → q.n = 0 ∧ q.t = mk [] ∧ q.o = er
theorem Val.le {er ws ws' : Nat} {ps : List ByteArray} {q : Rc} (h : Val er ws ps q) (hw : ws ≤ ws') : Val er ws' ps q := ⟨h.w1, Nat.le_trans h.w2 hw, h.t, h.yes, h.no⟩
theorem Val.good {es er ws : Nat} {ps : List ByteArray} {q : Rc} (h : Val er ws ps q) : GoodQ es er ws ps (q.text es) := by
  unfold Rc.text
  cases ho : q.one with
  | true =>
    obtain ⟨a1, a2, a3, a4⟩ := h.yes ho
    exact ⟨1, q.o, q.n, q.w, q.t, by rw [if_pos rfl], .inl rfl, a4, h.w1, h.w2, h.t, .inl ⟨rfl, a1, a2, a3⟩⟩
  | false =>
    obtain ⟨a1, a2, a3⟩ := h.no ho
    exact ⟨2, q.o, q.n, q.w, q.t, by rw [if_neg (by decide)], .inr rfl, .inr a3, h.w1, h.w2, h.t, .inr ⟨rfl, a1, a2⟩⟩
theorem text_hears {es er ws : Nat} {ps : List ByteArray} {q : Rc} (h : Val er ws ps q) (he : 1 ≤ es) (he2 : es ≤ 1000) (hr : er ≤ 1000) (hw : ws ≤ 1000) (hp : ps.length ≤ 1000) : hearS (q.text es) = some ⟨if q.one = true then 1 else 2, es, q.o, q.n, q.w, q.t⟩ := by
  have h2 := h.w2
  unfold Rc.text
  cases ho : q.one with
  | true =>
    obtain ⟨a1, a2, a3, a4⟩ := h.yes ho
    rw [if_pos rfl]
    exact hear_packet 1 (.inl rfl) es q.o q.n q.w q.t h.t he (by omega) (by omega) (by omega) (by omega) (fun e => by cases e)
  | false =>
    obtain ⟨a1, a2, a3⟩ := h.no ho
    rw [if_neg (by decide)]
    exact hear_packet 2 (.inr rfl) es q.o q.n q.w q.t h.t he (by omega) (by omega) (by omega) (by omega) (fun _ => ⟨a1, a2⟩)
def recv (a b : Nat) (e : En) (q : Rc) : En :=
  if q.o ≠ a then ⟨b, e.f, e.l, e.w⟩ else ⟨b, (goneS e.f e.l q.w).1, (goneS e.f e.l q.w).2, if q.one = true ∧ q.n = e.w then e.w + 1 else e.w⟩
def reply (a b : Nat) (e : En) (q : Rc) : List Rc := if q.one = true then [⟨!q.d, false, b, 0, (recv a b e q).w, mk []⟩] else []
theorem take_rc {es er : Nat} {s r : En} {ps cs : List ByteArray} (h : Dir es s r ps cs) {q : Rc} (hv : Val er s.w ps q) (hs : 1 ≤ es) (hs2 : es ≤ 1000) (hr : er ≤ 1000) (hw : s.w ≤ 1000) (hp : ps.length ≤ 900) :
    r.after er (q.text es) = recv er es r q ∧ (takeS er r.o r.f r.l r.w (q.text es)).reply = (if q.one = true then packetS 2 er es 0 (recv er es r q).w (mk []) else mk []) := by
  have h3 := h.wl
  have hk := text_hears hv hs hs2 hr hw (by omega)
  have e := take_heard (er := er) h hk rfl hs
  unfold En.after
  rw [e]
  unfold heardS recv
  dsimp only
  cases ho : q.one with
  | true =>
    by_cases c1 : q.o ≠ er
    · rw [if_pos c1, if_pos c1]; exact ⟨rfl, rfl⟩
    · rw [if_neg c1, if_neg c1]
      simp only [if_true, true_and]
      by_cases c2 : q.n = r.w
      · rw [if_pos ⟨c2, by omega⟩, if_pos c2]; exact ⟨rfl, rfl⟩
      · rw [if_neg (fun x => c2 x.1), if_neg c2]; exact ⟨rfl, rfl⟩
  | false =>
    obtain ⟨_, _, a3⟩ := hv.no ho
    rw [if_neg (not_not_intro a3), if_neg (not_not_intro a3), if_neg (by decide), if_neg (by simp), if_neg (by decide)]
    exact ⟨rfl, rfl⟩
theorem recv_w (a b : Nat) (e : En) (q : Rc) : e.w ≤ (recv a b e q).w := by
  unfold recv
  split
  · exact Nat.le_refl _
  · dsimp only; split <;> omega
theorem recv_f (a b : Nat) (e : En) (q : Rc) : e.f ≤ (recv a b e q).f := by
  unfold recv goneS
  split
  · exact Nat.le_refl _
  · dsimp only
    split
    · rename_i c; exact c.1
    · exact Nat.le_refl _
theorem recv_o (a b : Nat) (e : En) (q : Rc) : (recv a b e q).o = b := by
  unfold recv
  split <;> rfl
theorem recv_no (a b : Nat) (e : En) (q : Rc) (h : q.one = false) : (recv a b e q).w = e.w := by
  unfold recv
  split
  · rfl
  · dsimp only; rw [h, if_neg (by simp)]
def wt (qs : List Rc) : Nat := (qs.map fun q => if q.one = true then 2 else 1).sum
theorem wt_append (a b : List Rc) : wt (a ++ b) = wt a + wt b := by simp [wt]
theorem wt_reply (a b : Nat) (e : En) (q : Rc) : wt (reply a b e q) + 1 = (if q.one = true then 2 else 1) := by
  unfold reply wt
  cases q.one <;> rfl
structure Pr (d : Bool) (er F c : Nat) (kn : Prop) (s r : En) (qs : List Rc) : Prop where
  f : F ≤ s.f
  known : kn → s.o = er ∧ ∃ j, j ≤ c ∧ (qs.filter fun q => q.d == d && q.one).map (fun q => q.n) = List.range' (F + j) (c - j) ∧ F + j ≤ r.w ∧ (∀ q ∈ qs, q.d = d → q.one = true → q.o = er) ∧ (j = c → F + c ≤ s.f ∨ ∃ q ∈ qs, q.d = (!d) ∧ q.one = false ∧ F + c ≤ q.w)
  learns : s.o = er ∨ c = 0 ∨ (∃ q ∈ qs, q.d = d ∧ q.one = true) ∨ (∃ q ∈ qs, q.d = (!d))
theorem reply_none (d : Bool) (a b : Nat) (e : En) (q : Rc) : (reply a b e q).filter (fun q => q.d == d && q.one) = [] := by
  unfold reply
  split
  · rw [List.filter_cons_of_neg (by simp), List.filter_nil]
  · rfl
theorem reply_mem {a b : Nat} {e : En} {q x : Rc} (h : x ∈ reply a b e q) : q.one = true ∧ x = ⟨!q.d, false, b, 0, (recv a b e q).w, mk []⟩ := by
  unfold reply at h
  split at h
  · rename_i c; exact ⟨c, List.mem_singleton.1 h⟩
  · cases h
theorem Pr.toR {d : Bool} {er es F c : Nat} {kn : Prop} {s r : En} {q : Rc} {qs : List Rc} (h : Pr d er F c kn s r (q :: qs)) (hd : q.d = d) : Pr d er F c kn s (recv er es r q) (qs ++ reply er es r q) := by
  refine ⟨h.f, fun hk => ?_, ?_⟩
  · obtain ⟨h0, j, h1, h2, h3, h4, h5⟩ := h.known hk
    refine ⟨h0, ?_⟩
    cases ho : q.one with
    | true =>
      rw [List.filter_cons_of_pos (by rw [hd, ho]; simp), List.map_cons] at h2
      have hj : j < c := by
        rcases Nat.lt_or_ge j c with h6 | h6
        · exact h6
        · rw [show c - j = 0 by omega] at h2; simp at h2
      rw [show c - j = (c - (j + 1)) + 1 by omega, List.range'_succ] at h2
      injection h2 with h6 h7
      have hoe := h4 q List.mem_cons_self hd ho
      have hw : F + j + 1 ≤ (recv er es r q).w := by
        unfold recv
        rw [if_neg (not_not_intro hoe)]
        dsimp only
        rw [ho, h6]
        simp only [true_and]
        split <;> omega
      refine ⟨j + 1, hj, ?_, by omega, fun x hx h8 h9 => ?_, fun h8 => .inr ⟨⟨!q.d, false, es, 0, (recv er es r q).w, Core.mk []⟩, List.mem_append.2 (.inr ?_), by rw [hd], rfl, by show F + c ≤ (recv er es r q).w; omega⟩⟩
      · rw [List.filter_append, reply_none, List.append_nil, h7]
        rfl
      · rcases List.mem_append.1 hx with hx | hx
        · exact h4 x (List.mem_cons_of_mem _ hx) h8 h9
        · rw [(reply_mem hx).2] at h9; cases h9
      · unfold reply
        rw [if_pos ho]
        exact List.mem_singleton.2 rfl
    | false =>
      rw [List.filter_cons_of_neg (by rw [ho]; simp)] at h2
      refine ⟨j, h1, ?_, by rw [recv_no _ _ _ _ ho]; exact h3, fun x hx h8 h9 => ?_, fun h8 => ?_⟩
      · rw [List.filter_append, reply_none, List.append_nil, h2]
      · rcases List.mem_append.1 hx with hx | hx
        · exact h4 x (List.mem_cons_of_mem _ hx) h8 h9
        · rw [(reply_mem hx).2] at h9; cases h9
      · rcases h5 h8 with h6 | ⟨x, hx, h9, h10, h11⟩
        · exact .inl h6
        · refine .inr ⟨x, List.mem_append.2 (.inl ?_), h9, h10, h11⟩
          rcases List.mem_cons.1 hx with rfl | hx
          · rw [hd] at h9; cases d <;> cases h9
          · exact hx
  · rcases h.learns with h1 | h1 | ⟨x, hx, h2, h3⟩ | ⟨x, hx, h2⟩
    · exact .inl h1
    · exact .inr (.inl h1)
    · rcases List.mem_cons.1 hx with rfl | hx
      · refine .inr (.inr (.inr ⟨⟨!x.d, false, es, 0, (recv er es r x).w, Core.mk []⟩, List.mem_append.2 (.inr ?_), by rw [hd]⟩))
        unfold reply
        rw [if_pos h3]
        exact List.mem_singleton.2 rfl
      · exact .inr (.inr (.inl ⟨x, List.mem_append.2 (.inl hx), h2, h3⟩))
    · rcases List.mem_cons.1 hx with rfl | hx
      · rw [hd] at h2; cases d <;> cases h2
      · exact .inr (.inr (.inr ⟨x, List.mem_append.2 (.inl hx), h2⟩))
theorem Pr.toS {d : Bool} {er es F c : Nat} {kn : Prop} {s r : En} {q : Rc} {qs : List Rc} (h : Pr d er F c kn s r (q :: qs)) (hd : q.d = (!d)) (hno : q.one = false → q.o = es) (hw : q.w ≤ s.f + s.l.length) : Pr d er F c kn (recv es er s q) r (qs ++ reply es er s q) := by
  refine ⟨Nat.le_trans h.f (recv_f _ _ _ _), fun hk => ⟨recv_o _ _ _ _, ?_⟩, .inl (recv_o _ _ _ _)⟩
  obtain ⟨h0, j, h1, h2, h3, h4, h5⟩ := h.known hk
  rw [List.filter_cons_of_neg (by rw [hd]; cases d <;> simp)] at h2
  refine ⟨j, h1, ?_, h3, fun x hx h8 h9 => ?_, fun h8 => ?_⟩
  · rw [List.filter_append, reply_none, List.append_nil, h2]
  · rcases List.mem_append.1 hx with hx | hx
    · exact h4 x (List.mem_cons_of_mem _ hx) h8 h9
    · rw [(reply_mem hx).2] at h9; cases h9
  · rcases h5 h8 with h6 | ⟨x, hx, h9, h10, h11⟩
    · exact .inl (Nat.le_trans h6 (recv_f _ _ _ _))
    · rcases List.mem_cons.1 hx with rfl | hx
      · refine .inl ?_
        unfold recv
        rw [if_neg (not_not_intro (hno h10))]
        dsimp only
        unfold goneS
        by_cases c6 : s.f ≤ x.w ∧ x.w ≤ s.f + s.l.length
        · rw [if_pos c6]; exact h11
        · rw [if_neg c6]; dsimp only; omega
      · exact .inr ⟨x, List.mem_append.2 (.inl hx), h9, h10, h11⟩
theorem Pr.done {d : Bool} {er F c : Nat} {kn : Prop} {s r : En} (h : Pr d er F c kn s r []) : F ≤ s.f ∧ (kn → F + c ≤ s.f) ∧ (s.o = er ∨ c = 0) := by
  refine ⟨h.f, fun hk => ?_, ?_⟩
  · obtain ⟨h0, j, h1, h2, h3, h4, h5⟩ := h.known hk
    rw [List.filter_nil, List.map_nil] at h2
    have : c - j = 0 := by
      have := congrArg List.length h2
      simpa using this.symm
    rcases h5 (by omega) with h6 | ⟨x, hx, _⟩
    · exact h6
    · cases hx
  · rcases h.learns with h1 | h1 | ⟨x, hx, _⟩ | ⟨x, hx, _⟩
    · exact .inl h1
    · exact .inr h1
    · cases hx
    · cases hx
end Go.Proofs.Ytgfmdfgibkkfaaa.Link
