import Derived.Test.YtecfndblgefhdaaKcRoadE
set_option linter.unusedVariables false
set_option linter.unusedSimpArgs false
namespace Go.Proofs.Ytecfndblgefhdaa.P
open Go.RowKit Go.Proofs.YtecfndblgefhdaaW.PrintWords Go.Proofs.YtecfndblgefhdaaW.PrintLast Go.Proofs.YtecfndblgefhdaaW.PrintMore
attribute [local go_sem] max2_int min2_int max_two min_two max_three min_three max_four min_four
theorem RoadF.below {b g : Nat} {w W : World} {L : RS} {vl : Value} {f : Nat → Nat} (h : RoadF b w g L vl f) (hb : Below w.heap.size w W) : RoadF b W g L vl f := by
 obtain ⟨v0, v1, vn, vw, vj, vt, h⟩ := h
 exact ⟨v0, v1, vn, vw, vj, vt, h.below hb⟩
theorem RoadF.drew {b g : Nat} {w : World} {L : RS} {vl : Value} {f : Nat → Nat} (h : RoadF b w g L vl f) : RoadF b w.drew g L vl f := h.below (below_drew1 (Below.refl _ _))
theorem RV.drewN {b g : Nat} {w : World} {L : RS} {f : Nat → Nat} {vl v0 v1 vn vw vj vt : Value} (h : RV b w g L f vl v0 v1 vn vw vj vt) (n : Nat) : RV b (w.drewN n) g L f vl v0 v1 vn vw vj vt := h.below (pw_below_drewN (Below.refl _ _) n)
theorem rd_str (l : List ByteArray) (i : Nat) (h : i < l.length) : rdOf ByteArray.empty l (i : Int) = l[i] := by
 unfold rdOf
 rw [Int.toNat_natCast, List.getD_eq_getElem?_getD, List.getElem?_eq_getElem h]
 rfl
set_option maxHeartbeats 4000000 in
set_option maxRecDepth 100000 in
theorem road_begins.calls (b g : Nat) (L : RS) (vl : Value) (f : Nat → Nat) (w : World) (h : RoadF b w g L vl f) (hp : L.texts <+: L.want) :
  Calls Try.prog 8 #[.pointer (some ⟨g, 0, none⟩)] w fun e w' => e = .returned (.bool true) ∧ RoadF b w' g L vl f ∧ Below w.heap.size w w' := by
 obtain ⟨v0, v1, vn, vw, vj, vt, h⟩ := h
 obtain ⟨Aw, cw, hvw, hnw, hCw⟩ := Kd.R_reads h.hw
 obtain ⟨At, ct, hvt, hnt, hCt⟩ := Kd.R_reads h.ht
 subst hvw hvt
 have hle := hp.length_le
 have hm1 : L.want.length ≤ 9223372036854775807 := hCw.2.1
 have hm2 : L.texts.length ≤ 9223372036854775807 := hCt.2.1
 have HE := a0_ h
 have HP := a0_ hp
 have HB := a0_ (Below.refl w.heap.size w)
 clear hnw hnt hCw hCt hp h
 have c1 : decide ((L.want.length : Int) < (L.texts.length : Int)) = false := decide_eq_false z2_
 have c2 : decide (L.want.length < L.texts.length) = false := decide_eq_false z2_
 have x14 := HE.out.cell 14
 have x17 := HE.out.cell 17
 simp only [cellsR] at x14 x17
 go_enter Try.func8, Try.ntmps8
 go_wp2
 repeat (go_quiet (fail); try go_wp2)
 go_loopw [22] (fun v22 w' => ∃ i : Nat, i ≤ L.texts.length ∧ v22 = .int .i64 i ∧ Aside0 (RV b w' g L f vl v0 v1 vn (.slice Aw L.want.length cw) vj (.slice At L.texts.length ct)) ∧ Aside0 (Below w.heap.size w w')) (fun v22 _ => L.texts.length - (intOf v22).toNat)
 case atStart => exact ⟨0, Nat.zero_le _, rfl, ⟨z162_⟩, ⟨z163_⟩⟩
 case round =>
  clear HE HB x14 x17
  obtain ⟨i, hi, rfl, HE, HB⟩ := hrel
  by_cases hlt : i < L.texts.length
  ·have d1 : decide ((i : Int) < (L.texts.length : Int)) = true := decide_eq_true z2_
   have x14 := HE.out.cell 14
   have x17 := HE.out.cell 17
   simp only [cellsR] at x14 x17
   have p0 : (0 : Int) ≤ (i : Int) := by omega
   have p1 : (i : Int) < (L.texts.length : Int) := by omega
   have p2 : (i : Int) < (L.want.length : Int) := by omega
   obtain ⟨a1, e1, z1⟩ := Kd.at_string (Kd.R_reads' HE.out.ht).2.2 (i : Int) p0 p1
   obtain ⟨a2, e2, z2⟩ := Kd.at_string (Kd.R_reads' HE.out.hw).2.2 (i : Int) p0 p2
   cases e1
   cases e2
   rw [Int.toNat_natCast, rd_str L.texts i hlt] at z1
   rw [Int.toNat_natCast, rd_str L.want i z2_] at z2
   have he : L.texts[i] = L.want[i]'z2_ := HP.out.getElem hlt
   rw [← he] at z2
   generalize L.texts[i] = s at z1 z2
   have c9 : (s.toList == s.toList) = true := beq_self_eq_true _
   have c9' : (s.toList != s.toList) = false := by simp
   go_wp2
   repeat (go_quiet (fail); try go_wp2)
   go_roundw
   case rel => exact ⟨i + 1, z2_, z30_, ⟨z162_⟩, ⟨z163_⟩⟩
   case measure => simp [intOf]; omega
  ·have d1 : decide ((i : Int) < (L.texts.length : Int)) = false := decide_eq_false z2_
   go_wp2
   repeat (go_quiet (fail); try go_wp2)
   go_ret
   exact ⟨rfl, ⟨_, _, _, _, _, _, z162_⟩, z163_⟩
set_option maxHeartbeats 4000000 in
set_option maxRecDepth 100000 in
theorem road_act_none.calls (b g : Nat) (L : RS) (vl : Value) (f : Nat → Nat) (n m : Int) (w : World) (h : RoadF b w g L vl f) (hn : 3 ≤ n) (hz : L.net = []) :
  Calls Try.prog 7 #[.pointer (some ⟨g, 0, none⟩), .int .i64 n, .int .i64 m] w fun e w' => e = .returned (.tuple #[]) ∧ RoadF b w' g L vl f ∧ Below w.heap.size w w' := by
 obtain ⟨v0, v1, vn, vw, vj, vt, h⟩ := h
 obtain ⟨An, cn, hvn, hnc, hC⟩ := Kd.R_reads h.hn
 subst hvn
 have HE := a0_ h
 have HB := a0_ (Below.refl w.heap.size w)
 clear hnc hC h
 have n1 : (n == 0) = false := beq_eq_false_iff_ne.mpr z2_
 have n2 : decide (n < 3) = false := decide_eq_false z2_
 have n3 : ((L.net.length : Int) == 0) = true := by rw [hz]; rfl
 have n4 : (L.net = []) = True := eq_true hz
 have x12 := HE.out.cell 12
 simp only [cellsR] at x12
 clear hz
 go_enter Try.func7, Try.ntmps7
 go_wp2
 repeat (go_quiet (fail); try go_wp2)
 refine bodyPost_ret (results_none rfl _ _ _) rfl ?_
 exact ⟨rfl, ⟨_, _, _, _, _, _, z162_⟩, z163_⟩
def RS.place (L : RS) (m : Int) : Int := wrap64 ((IntKind.u64.wrap m).tmod (L.net.length : Int))
def RS.come (k : Nat) (L : RS) (p : S93) : Option RS :=
 if 1000 < L.texts.length then none
 else if p.f0 = 0 then (link_Take.f k L.x0.f0 L.x0.f1 L.x0.f2 L.x0.f3 L.x0.f4 p.f1).bind fun R => (RS.hearO k { L with x0 := ⟨L.x0.f0, R.o, R.f, R.l, R.w⟩ } R).bind fun M => if M.net.length ≤ 100000 then some (M.reply 1 R.reply) else none
 else if p.f0 = 1 then (link_Take.f k L.x1.f0 L.x1.f1 L.x1.f2 L.x1.f3 L.x1.f4 p.f1).bind fun R => (RS.hearO k { L with x1 := ⟨L.x1.f0, R.o, R.f, R.l, R.w⟩ } R).bind fun M => if M.net.length ≤ 100000 then some (M.reply 0 R.reply) else none
 else none
def RS.act (k : Nat) (l : List S53) (n m : Int) (L : RS) : Option RS :=
 if n < 0 ∨ 9 < n then none
 else if n = 0 then (if 0 ≤ L.sent ∧ L.sent ≤ 100 then L.send k l else none)
 else if n < 3 then (if L.net.length ≤ 100000 then L.tick k else none)
 else if L.net = [] then some L
 else if ¬ (L.place m = ((L.place m).toNat : Int) ∧ (L.place m).toNat < L.net.length ∧ L.net.length ≤ 1000) then none
 else if n = 8 then some (L.gone (L.place m).toNat)
 else (if n < 9 then L.gone (L.place m).toNat else L).come k (rd_T93 L.net (L.place m))
theorem road_act.calls (k b g : Nat) (l : List S53) (Al : Option Addr) (cl : Nat) (L L' : RS) (f : Nat → Nat) (n m : Int) (w0 w : World) (hw0 : b = w0.heap.size) (h : RoadF b w g L (.slice Al l.length cl) f) (hb : b ≤ w.heap.size) (hB0 : Below b w0 w) (hl : Kd.C k53 w0 Al l.length l) (hcl : l.length ≤ cl)
  (hS : L.act k l n m = some L') :
  Calls Try.prog 7 #[.pointer (some ⟨g, 0, none⟩), .int .i64 n, .int .i64 m] w fun e w' => e = .returned (.tuple #[]) ∧ Road b w' g L' (.slice Al l.length cl) ∧ Below b w w' := by
 unfold RS.act at hS
 by_cases h9 : n < 0 ∨ 9 < n
 ·rw [if_pos h9] at hS; cases hS
 rw [if_neg h9] at hS
 by_cases h0 : n = 0
 ·subst h0
  rw [if_pos rfl] at hS
  by_cases hs : 0 ≤ L.sent ∧ L.sent ≤ 100
  ·rw [if_pos hs] at hS
   refine (road_act.calls0 k b g l Al cl L L' f m w0 w hw0 h hb hB0 hl hcl hs hS).mono ?_
   rintro e w' ⟨h1, ⟨f', h2, _⟩, h3⟩
   exact ⟨h1, ⟨f', h2⟩, h3⟩
  ·rw [if_neg hs] at hS; cases hS
 rw [if_neg h0] at hS
 by_cases h3 : n < 3
 ·rw [if_pos h3] at hS
  by_cases hs : L.net.length ≤ 100000
  ·rw [if_pos hs] at hS
   refine (road_act.calls1 k b g _ L L' f n m w h hb z2_ hs hS).mono ?_
   rintro e w' ⟨h1, ⟨f', h2, _⟩, h3⟩
   exact ⟨h1, ⟨f', h2⟩, h3⟩
  ·rw [if_neg hs] at hS; cases hS
 rw [if_neg h3] at hS
 by_cases hz : L.net = []
 ·rw [if_pos hz] at hS
  obtain rfl := Option.some.inj hS
  refine (road_act_none.calls b g L _ f n m w h z2_ hz).mono ?_
  rintro e w' ⟨h1, h2, h3⟩
  exact ⟨h1, ⟨f, h2⟩, h3.mono hb⟩
 rw [if_neg hz] at hS
 by_cases hp : ¬ (L.place m = ((L.place m).toNat : Int) ∧ (L.place m).toNat < L.net.length ∧ L.net.length ≤ 1000)
 ·rw [if_pos hp] at hS; cases hS
 rw [if_neg hp] at hS
 obtain ⟨p1, p2, p3⟩ := Classical.not_not.1 hp
 clear hp
 generalize hi : (L.place m).toNat = i at p1 p2 hS
 by_cases h8 : n = 8
 ·rw [if_pos h8] at hS
  obtain rfl := Option.some.inj hS
  generalize hq : rd_T93 L.net (i : Int) = q
  cases q with
  | mk t s =>
   refine (road_act_lost.calls k b g L (L.gone i) _ f n m i s t w h hb z2_ z2_ h8 p2 p3 p1 hq (by rw [if_pos z2_])).mono ?_
   rintro e w' ⟨h1, h2, h3⟩
   exact ⟨h1, h2, h3⟩
 rw [if_neg h8, p1] at hS
 generalize hq : rd_T93 L.net (i : Int) = q at hS
 generalize hLL : (if n < 9 then L.gone i else L) = LL at hS
 cases q with
 | mk t s =>
  unfold RS.come at hS
  by_cases c1 : 1000 < LL.texts.length
  ·rw [if_pos c1] at hS; cases hS
  rw [if_neg c1] at hS
  by_cases c2 : t = 0
  ·subst c2
   rw [if_pos rfl] at hS
   obtain ⟨R, hR, hS⟩ := Option.bind_eq_some_iff.1 hS
   obtain ⟨M, hM, hS⟩ := Option.bind_eq_some_iff.1 hS
   by_cases c3 : M.net.length ≤ 100000
   ·rw [if_pos c3] at hS
    obtain rfl := Option.some.inj hS
    exact road_act_come0.calls k b g L LL _ f n m i s R M w h hb z2_ z2_ h8 z2_ hR hM c3 p2 p3 p1 hq hLL.symm
   ·rw [if_neg c3] at hS; cases hS
  rw [if_neg c2] at hS
  by_cases c4 : t = 1
  ·subst c4
   rw [if_pos rfl] at hS
   obtain ⟨R, hR, hS⟩ := Option.bind_eq_some_iff.1 hS
   obtain ⟨M, hM, hS⟩ := Option.bind_eq_some_iff.1 hS
   by_cases c3 : M.net.length ≤ 100000
   ·rw [if_pos c3] at hS
    obtain rfl := Option.some.inj hS
    exact road_act_come1.calls k b g L LL _ f n m i s R M w h hb z2_ z2_ h8 z2_ hR hM c3 p2 p3 p1 hq hLL.symm
   ·rw [if_neg c3] at hS; cases hS
  ·rw [if_neg c4] at hS; cases hS
end Go.Proofs.Ytecfndblgefhdaa.P
namespace Go.Proofs.Ytecfndblgefhdaa.P
open Go.RowKit Go.Proofs.YtecfndblgefhdaaW.PrintWords Go.Proofs.YtecfndblgefhdaaW.PrintLast Go.Proofs.YtecfndblgefhdaaW.PrintMore
attribute [local go_sem] max2_int min2_int max_two min_two max_three min_three max_four min_four
set_option linter.unusedVariables false
set_option linter.unusedSimpArgs false
theorem qpx160_ {p : Prop} (h : p := by exact ⟨z3_, z164_, z165_, z166_⟩) : p := h
def IsS101 (w0 W : World) (g : Nat) (f0 : ByteArray) (f1 : Bool) : Prop := W.heap[g]? = some (.cells #[.string f0, .bool f1] 101 (0, 0)) ∧ w0.heap.size ≤ g
theorem IsS101.grown {w0 W : World} {g : Nat} {f0 : ByteArray} {f1 : Bool} {W1 : World} {row : Option Nat} (h : IsS101 w0 W g f0 f1) (hw : W.grownBy W1 row) (hne : some g ≠ row) : IsS101 w0 W1 g f0 f1 := by
 obtain ⟨hb, hg⟩ := h
 exact ⟨blk_grown hb hw hne, hg⟩
theorem IsS101.below {w0 W : World} {g : Nat} {f0 : ByteArray} {f1 : Bool} {W1 : World} (h : IsS101 w0 W g f0 f1) (hw : Below W.heap.size W W1) : IsS101 w0 W1 g f0 f1 := h.grown (grown_of_below hw none) (by simp)
theorem IsS101.alloc {w0 W : World} {g : Nat} {f0 : ByteArray} {f1 : Bool} (h : IsS101 w0 W g f0 f1) (o : Obj) : IsS101 w0 (W.alloc o) g f0 f1 := h.below (below_alloc (Below.refl _ _) o)
theorem IsS101.drewN {w0 W : World} {g : Nat} {f0 : ByteArray} {f1 : Bool} (h : IsS101 w0 W g f0 f1) (m : Nat) : IsS101 w0 (W.drewN m) g f0 f1 := h
theorem IsS101.drew {w0 W : World} {g : Nat} {f0 : ByteArray} {f1 : Bool} (h : IsS101 w0 W g f0 f1) : IsS101 w0 W.drew g f0 f1 := h
theorem IsS101.apart {w0 W : World} {g : Nat} {f0 : ByteArray} {f1 : Bool} {α : Type} {d : Kd α} {e : Nat} {base : Nat} {ok : Nat → Prop} {v : Value} {xs : List α} (h : IsS101 w0 W g f0 f1) (ho : d.R e W base ok v xs) (ht : ∀ q, q ∈ e :: d.E → q ≠ 101) : d.R e W base (fun k => ok k ∧ k ≠ g) v xs := by
 obtain ⟨hb, hg⟩ := h
 exact Kd.R_types ho hb ht
theorem IsS101.own_ne {w0 W : World} {g : Nat} {f0 : ByteArray} {f1 : Bool} {α : Type} {d : Kd α} {e : Nat} {base : Nat} {ok : Nat → Prop} {v : Value} {xs : List α} (h : IsS101 w0 W g f0 f1) (ho : d.R e W base ok v xs) (ht : e ≠ 101) : some g ≠ v.ownBlock := by
 obtain ⟨hb, hg⟩ := h
 exact Kd.R_ne ho hb ht
theorem IsS101.lt {w0 W : World} {g : Nat} {f0 : ByteArray} {f1 : Bool} (h : IsS101 w0 W g f0 f1) : g < W.heap.size := by
 obtain ⟨hb, hg⟩ := h
 exact blk_lt hb
theorem IsS101.ge {w0 W : World} {g : Nat} {f0 : ByteArray} {f1 : Bool} (h : IsS101 w0 W g f0 f1) : w0.heap.size ≤ g := by
 obtain ⟨hb, hg⟩ := h
 exact hg
theorem IsS101.far {w0 W : World} {g : Nat} {f0 : ByteArray} {f1 : Bool} {p : Addr} (h : IsS101 w0 W g f0 f1) (hne : g ≠ p.block) (u : Value) : IsS101 w0 (W.setCell p u) g f0 f1 := by
 obtain ⟨hb, hg⟩ := h
 exact ⟨blk_far hb hne u, hg⟩
theorem cellS101_0 {W : World} {g : Nat} {f0 : ByteArray} {f1 : Bool} (h : W.heap[g]? = some (.cells #[.string f0, .bool f1] 101 (0, 0))) : W.cell? ⟨g, 0, none⟩ = some (.string f0) := (blk_cell h 0).trans rfl
theorem IsS101.set_0 {w0 W : World} {g : Nat} {f0 : ByteArray} {f1 : Bool} (h : IsS101 w0 W g f0 f1) (x : ByteArray) : IsS101 w0 (W.setCell ⟨g, 0, none⟩ (.string x)) g x f1 := by
 obtain ⟨hb, hg⟩ := h
 exact ⟨by simpa using blk_set hb 0 (.string x), hg⟩
theorem cellS101_1 {W : World} {g : Nat} {f0 : ByteArray} {f1 : Bool} (h : W.heap[g]? = some (.cells #[.string f0, .bool f1] 101 (0, 0))) : W.cell? ⟨g, 1, none⟩ = some (.bool f1) := (blk_cell h 1).trans rfl
theorem IsS101.set_1 {w0 W : World} {g : Nat} {f0 : ByteArray} {f1 : Bool} (h : IsS101 w0 W g f0 f1) (x : Bool) : IsS101 w0 (W.setCell ⟨g, 1, none⟩ (.bool x)) g f0 x := by
 obtain ⟨hb, hg⟩ := h
 exact ⟨by simpa using blk_set hb 1 (.bool x), hg⟩
def msg_reader_number.f (k : Nat) (s0_0 : ByteArray) (s0_1 : Bool) (a1 : Int) : Option (Int × ByteArray × Bool) := (octet_Number.f k s0_0 a1).bind fun bt339 => (if s0_1 = true then (some (0, s0_0, true)) else (if bt339.2.2 = 0 then (some (bt339.1, bt339.2.1, s0_1)) else (some (0, s0_0, true))))
set_option maxHeartbeats 8000000 in
set_option maxRecDepth 100000 in
theorem msg_reader_number.calls (k : Nat) (g : Nat) (s0_0 : ByteArray) (s0_1 : Bool) (a1 : Int) (r1 : Int) (r2 : ByteArray) (r3 : Bool) (w0 w : World) (hI : IsS101 w0 w g s0_0 s0_1) (hB : Below w0.heap.size w0 w) (h : msg_reader_number.f k s0_0 s0_1 a1 = some (r1, r2, r3)) :
  Calls Try.prog 33 #[.pointer (some ⟨g, 0, none⟩), .int .i64 a1] w fun e w' => e = .returned (.int .i64 r1) ∧ IsS101 w0 w' g r2 r3 ∧ Below w0.heap.size w0 w' ∧ KeepBut w w' g none := by
 have HI0 := a0_ hI
 have HK := a0_ (KeepBut.refl w g none)
 have HL := a0_ hB.size
 clear hI
 have HW0 := a0_ hB.size
 have HB := a0_ hB
 clear hB
 have H : ((octet_Number.f k s0_0 a1).bind fun bt339 => (if s0_1 = true then (some (0, s0_0, true)) else (if bt339.2.2 = 0 then (some (bt339.1, bt339.2.1, s0_1)) else (some (0, s0_0, true))))) = some (r1, r2, r3) := h
 clear h
 replace H := Option.bind_eq_some_iff.mp H
 obtain ⟨⟨t339, t340, t341⟩, A30, H⟩ := H
 try dsimp only at H
 have A3 := a0_ A30
 clear A30
 by_cases c4 : s0_1 = true
 ·subst c4
  rw [if_pos rfl] at H
  simp only [Option.some.injEq, Prod.mk.injEq] at H
  obtain ⟨rfl, rfl, rfl⟩ := H
  obtain ⟨HGz5, hgz5⟩ := HI0.out
  have hcz5_0 := cellS101_0 HGz5
  have hcz5_1 := cellS101_1 HGz5
  have hfz5_0 := blk_frozen HGz5 0
  have hfz5_1 := blk_frozen HGz5 1
  clear HGz5 hgz5
  go_enter Try.func33, Try.ntmps33
  go_wp2_with (first | ((with_reducible refine gate_callee (f := 71) rfl ?_); refine goesL_ (some 14) rfl rfl Try.func71 z11_ rfl #[.string s0_0, .int .i64 a1] rfl z12_ ?_; (with_reducible refine (octet_Number.calls k s0_0 a1 t339 t340 t341 _ A3.out).mono ?_); rintro e w' ⟨rfl, ⟨nd, rfl⟩⟩; refine ⟨_, rfl, ?_⟩))
  go_ret
  exact qpx160_
 ·replace c4 := Bool.eq_false_iff.mpr c4
  subst c4
  rw [if_neg (show ¬ (false = true) from z17_)] at H
  by_cases c6 : t341 = 0
  ·rw [if_pos c6] at H
   have c6b0 : (t341 == 0) = true := beq_iff_eq.mpr c6
   have c6b1 : (t341 != 0) = false := bne_eq_false_iff_eq.mpr c6
   clear c6
   simp only [Option.some.injEq, Prod.mk.injEq] at H
   obtain ⟨rfl, rfl, rfl⟩ := H
   obtain ⟨HGz7, hgz7⟩ := HI0.out
   have hcz7_0 := cellS101_0 HGz7
   have hcz7_1 := cellS101_1 HGz7
   have hfz7_0 := blk_frozen HGz7 0
   have hfz7_1 := blk_frozen HGz7 1
   clear HGz7 hgz7
   go_enter Try.func33, Try.ntmps33
   go_wp2_with (first | ((with_reducible refine gate_callee (f := 71) rfl ?_); refine goesL_ (some 14) rfl rfl Try.func71 z11_ rfl #[.string s0_0, .int .i64 a1] rfl z12_ ?_; (with_reducible refine (octet_Number.calls k s0_0 a1 t339 t340 t341 _ A3.out).mono ?_); rintro e w' ⟨rfl, ⟨nd, rfl⟩⟩; refine ⟨_, rfl, ?_⟩))
   go_ret
   exact qpx160_
  ·rw [if_neg c6] at H
   have c6b0 : (t341 == 0) = false := beq_eq_false_iff_ne.mpr c6
   have c6b1 : (t341 != 0) = true := bne_iff_ne.mpr c6
   simp only [Option.some.injEq, Prod.mk.injEq] at H
   obtain ⟨rfl, rfl, rfl⟩ := H
   obtain ⟨HGz8, hgz8⟩ := HI0.out
   have hcz8_0 := cellS101_0 HGz8
   have hcz8_1 := cellS101_1 HGz8
   have hfz8_0 := blk_frozen HGz8 0
   have hfz8_1 := blk_frozen HGz8 1
   clear HGz8 hgz8
   go_enter Try.func33, Try.ntmps33
   go_wp2_with (first | ((with_reducible refine gate_callee (f := 71) rfl ?_); refine goesL_ (some 14) rfl rfl Try.func71 z11_ rfl #[.string s0_0, .int .i64 a1] rfl z12_ ?_; (with_reducible refine (octet_Number.calls k s0_0 a1 t339 t340 t341 _ A3.out).mono ?_); rintro e w' ⟨rfl, ⟨nd, rfl⟩⟩; refine ⟨_, rfl, ?_⟩))
   go_ret
   exact qpx160_
def msg_reader_line.l0 : Nat → List (S160) → Int → Int → ByteArray → Bool → Option ((List (S160)) × ByteArray × Bool)
 | 0, _, _, _, _, _ => none
 | k + 1, x3, x5, x6, x1000, x1001 => if x6 < x5 then ((msg_reader_number.f k x1000 x1001 8).bind fun bt346 => ((msg_reader_number.f k bt346.2.1 bt346.2.2 8).bind fun bt349 => (if x3.length < 8796093022208 then (if bt349.2.2 = true then (some (([] : List (S160)), bt349.2.1, bt349.2.2)) else (msg_reader_line.l0 k (x3 ++ [(⟨bt346.1, bt349.1⟩ : S160)]) x5 (wrap64 (x6 + 1)) bt349.2.1 bt349.2.2)) else (none)))) else (if x1001 = true then (some (x3, x1000, true)) else (if (x3.length : Int) > 0 then ((line_Right.f k x3).bind fun t345 => (some (x3, x1000, !t345))) else (some (x3, x1000, false))))
def msg_reader_line.f (k : Nat) (s0_0 : ByteArray) (s0_1 : Bool) : Option ((List (S160)) × ByteArray × Bool) := (msg_reader_number.f k s0_0 s0_1 1).bind fun bt342 => (msg_reader_line.l0 k ([] : List (S160)) bt342.1 0 bt342.2.1 bt342.2.2)
set_option maxHeartbeats 8000000 in
set_option maxRecDepth 100000 in
theorem msg_reader_line.calls (k : Nat) (g : Nat) (s0_0 : ByteArray) (s0_1 : Bool) (r1 : List (S160)) (r2 : ByteArray) (r3 : Bool) (w0 w : World) (hI : IsS101 w0 w g s0_0 s0_1) (hB : Below w0.heap.size w0 w) (h : msg_reader_line.f k s0_0 s0_1 = some (r1, r2, r3)) :
  Calls Try.prog 34 #[.pointer (some ⟨g, 0, none⟩)] w fun e w' => ∃ v0_ : Value, e = .returned (v0_) ∧ Kd.R k160 160 w' w.heap.size (fun _ => True) v0_ r1 ∧ IsS101 w0 w' g r2 r3 ∧ Below w0.heap.size w0 w' ∧ KeepBut w w' g none := by
 have hu160 := Try.underlying160
 have HI0 := a0_ hI
 have HK := a0_ (KeepBut.refl w g none)
 have HL := a0_ hB.size
 clear hI
 have HW0 := a0_ hB.size
 have HB := a0_ hB
 clear hB
 have H : ((msg_reader_number.f k s0_0 s0_1 1).bind fun bt342 => (msg_reader_line.l0 k ([] : List (S160)) bt342.1 0 bt342.2.1 bt342.2.2)) = some (r1, r2, r3) := h
 clear h
 replace H := Option.bind_eq_some_iff.mp H
 obtain ⟨⟨t342, t343, t344⟩, A20, H⟩ := H
 try dsimp only at H
 have A2 := a0_ A20
 clear A20
 have H' := a0_ H
 clear H
 go_enter Try.func34, Try.ntmps34
 go_wp2_with (first | ((with_reducible refine gate_callee (f := 33) rfl ?_); refine goesL_ (some 5) rfl rfl Try.func33 z11_ rfl #[.pointer (some ⟨g, 0, none⟩), .int .i64 1] rfl z12_ ?_; (with_reducible refine (msg_reader_number.calls k g s0_0 s0_1 1 t342 t343 t344 w0 _ ?side1 ?side2 A2.out).mono ?_); (case side1 => exact z164_); (case side2 => exact z165_); rintro e w3 ⟨rfl, hi, hb, hk⟩; refine ⟨_, rfl, ?_⟩; replace HK := a0_ (KeepBut.trans z166_ hk (.inl rfl)); replace HB := a0_ (hb); replace HI0 := a0_ (hi); (try clear hb); (try clear hb2); (try clear hk); (try clear hi)))
 go_loopg [3, 6] k (fun kq v3 v6 w' => ∃ (x3_1 : List (S160)) (x6_1 : Int) (x1000_1 : ByteArray) (x1001_1 : Bool), v6 = .int .i64 x6_1 ∧ Aside0 (msg_reader_line.l0 kq x3_1 t342 x6_1 x1000_1 x1001_1 = some (r1, r2, r3)) ∧ Aside0 (kq ≤ k) ∧ Aside0 (Kd.R k160 160 w' w.heap.size (fun _ => True) v3 x3_1) ∧ Aside0 (IsS101 w0 w' g x1000_1 x1001_1) ∧ Aside0 (KeepBut w w' g none) ∧ Aside0 (Below w0.heap.size w0 w'))
 case atStart => exact ⟨(([] : List (S160))), (0), (t343), (t344), z9_, H', ⟨Nat.le_refl _⟩, ⟨z15_⟩, ⟨z164_⟩, ⟨z166_⟩, ⟨z165_⟩⟩
 case round =>
  clear H'
  obtain ⟨x3_1, x6_1, x1000_1, x1001_1, rfl, HA, HK1, HO_3, HI0, HK, HB⟩ := hrel
  cases gk with
  | zero => exact absurd HA.out (by simp [msg_reader_line.l0])
  | succ k1 =>
   have H := HA.out
   clear HA
   simp only [msg_reader_line.l0] at H
   by_cases c4 : x6_1 < t342
   ·rw [if_pos c4] at H
    have c4b0 : decide (x6_1 < t342) = true := decide_eq_true c4
    clear c4
    replace H := Option.bind_eq_some_iff.mp H
    obtain ⟨⟨t346, t347, t348⟩, A50, H⟩ := H
    try dsimp only at H
    have A5 := a0_ A50
    clear A50
    replace H := Option.bind_eq_some_iff.mp H
    obtain ⟨⟨t349, t350, t351⟩, A60, H⟩ := H
    try dsimp only at H
    have A6 := a0_ A60
    clear A60
    by_cases c7 : x3_1.length < 8796093022208
    ·rw [if_pos c7] at H
     have LMc7 := a0_ c7
     clear c7
     obtain ⟨y352, hy352⟩ : ∃ y_ : List (S160), y_ = (x3_1 ++ [(⟨t346, t349⟩ : S160)]) := ⟨_, rfl⟩
     replace H : (if t351 = true then (some (([] : List (S160)), t350, t351)) else (msg_reader_line.l0 k1 y352 t342 (wrap64 (x6_1 + 1)) t350 t351)) = some (r1, r2, r3) := by first | (rw [hy352]; with_reducible exact H) | (have H2_ := (Option.bind_some _ _).symm.trans H; rw [hy352]; with_reducible exact H2_) | (have H2_ := (Option.bind_some _ _).symm.trans H; with_reducible exact H2_) | with_reducible exact H | (rw [hy352]; exact H) | exact H
     have Ny352 := a0_ hy352
     clear hy352
     by_cases c8 : t351 = true
     ·subst c8
      rw [if_pos rfl] at H
      simp only [Option.some.injEq, Prod.mk.injEq] at H
      obtain ⟨rfl, rfl, rfl⟩ := H
      go_wp2_with (first | ((with_reducible refine gate_callee (f := 33) rfl ?_); refine goesL_ (some 10) rfl rfl Try.func33 z11_ rfl #[.pointer (some ⟨g, 0, none⟩), .int .i64 8] rfl z12_ ?_; (with_reducible refine (msg_reader_number.calls k1 g x1000_1 x1001_1 8 t346 t347 t348 w0 _ ?side1 ?side2 A5.out).mono ?_); (case side1 => exact z164_); (case side2 => exact z165_); rintro e w9 ⟨rfl, hi, hb, hk⟩; refine ⟨_, rfl, ?_⟩; replace HO_3 := a0_ (Kd.R_mono (Kd.R_keep (IsS101.apart (show IsS101 w0 _ g x1000_1 x1001_1 from z164_) z67_ z17_) hk (fun _ h => h.2)) (fun _ h => h.1)); replace HK := a0_ (KeepBut.trans z166_ hk (.inl rfl)); replace HB := a0_ (hb); replace HI0 := a0_ (hi); (try clear hb); (try clear hb2); (try clear hk); (try clear hi)) | ((with_reducible refine gate_callee (f := 33) rfl ?_); refine goesL_ (some 12) rfl rfl Try.func33 z11_ rfl #[.pointer (some ⟨g, 0, none⟩), .int .i64 8] rfl z12_ ?_; (with_reducible refine (msg_reader_number.calls k1 g t347 t348 8 t349 t350 true w0 _ ?side1 ?side2 A6.out).mono ?_); (case side1 => exact z164_); (case side2 => exact z165_); rintro e w10 ⟨rfl, hi, hb, hk⟩; refine ⟨_, rfl, ?_⟩; replace HO_3 := a0_ (Kd.R_mono (Kd.R_keep (IsS101.apart (show IsS101 w0 _ g t347 t348 from z164_) z67_ z17_) hk (fun _ h => h.2)) (fun _ h => h.1)); replace HK := a0_ (KeepBut.trans z166_ hk (.inl rfl)); replace HB := a0_ (hb); replace HI0 := a0_ (hi); (try clear hb); (try clear hb2); (try clear hk); (try clear hi)) | ((with_reducible refine gate_builtin (b := .append) (xs := #[.tmp 8, .tmp 14]) rfl ?_); (try (refine gate_guard (by rfl) ?_; dsimp only)); at_builtin; refine Kd.R_append k160 w.heap.size rfl (.tmp 8) (.tmp 14) 44 160 (.agg #[(.int .i64 0), (.int .i64 0)]) 16 rfl Try.underlying44 info160 rfl z17_ z2_ u3 x3_1 (⟨t346, t349⟩ : S160) [.int .i64 t346, .int .i64 t349] (fun _ => True) (fun _ => False) rfl rfl ?aP (fun _ hk => hk.elim) ?aF ?aO (Below.refl _ _) ?aS ?aL ?_; (case aP => exact k160_mkM _ _ _ (⟨t346, t349⟩ : S160)); (case aF => exact z43_); (case aO => exact z105_); (case aS => exact z167_); (case aL => have := LMc7.out; omega); intro v353 w11 ho hb hg hat; rw [← Ny352.out] at ho; have n0_ := a0_ (IsS101.grown z164_ hg (IsS101.own_ne HI0.out HO_3.out z17_)); have n1_ := a0_ (below_weaken z165_ HL.out hb); have n2_ := a0_ (KeepBut.trans z166_ (KeepBut.of_grown hg g) (Kd.R_base2 HO_3.out)); have n3_ := a0_ (ho); clear HI0; clear HB; clear HK; clear HO_3; have HI0 := n0_; have HB := n1_; have HK := n2_; have HO354 := n3_; clear n0_ n1_ n2_ n3_; clear ho hb hg hat; obtain ⟨HGz12, hgz12⟩ := HI0.out; have hcz12_0 := cellS101_0 HGz12; have hcz12_1 := cellS101_1 HGz12; have hfz12_0 := blk_frozen HGz12 0; have hfz12_1 := blk_frozen HGz12 1; clear HGz12 hgz12))
      go_ret
      exact ⟨_, z3_, z15_, z164_, z165_, z166_⟩
     ·replace c8 := Bool.eq_false_iff.mpr c8
      subst c8
      rw [if_neg (show ¬ (false = true) from z17_)] at H
      have H' := a0_ H
      clear H
      go_wp2_with (first | ((with_reducible refine gate_callee (f := 33) rfl ?_); refine goesL_ (some 10) rfl rfl Try.func33 z11_ rfl #[.pointer (some ⟨g, 0, none⟩), .int .i64 8] rfl z12_ ?_; (with_reducible refine (msg_reader_number.calls k1 g x1000_1 x1001_1 8 t346 t347 t348 w0 _ ?side1 ?side2 A5.out).mono ?_); (case side1 => exact z164_); (case side2 => exact z165_); rintro e w13 ⟨rfl, hi, hb, hk⟩; refine ⟨_, rfl, ?_⟩; replace HO_3 := a0_ (Kd.R_mono (Kd.R_keep (IsS101.apart (show IsS101 w0 _ g x1000_1 x1001_1 from z164_) z67_ z17_) hk (fun _ h => h.2)) (fun _ h => h.1)); replace HK := a0_ (KeepBut.trans z166_ hk (.inl rfl)); replace HB := a0_ (hb); replace HI0 := a0_ (hi); (try clear hb); (try clear hb2); (try clear hk); (try clear hi)) | ((with_reducible refine gate_callee (f := 33) rfl ?_); refine goesL_ (some 12) rfl rfl Try.func33 z11_ rfl #[.pointer (some ⟨g, 0, none⟩), .int .i64 8] rfl z12_ ?_; (with_reducible refine (msg_reader_number.calls k1 g t347 t348 8 t349 t350 false w0 _ ?side1 ?side2 A6.out).mono ?_); (case side1 => exact z164_); (case side2 => exact z165_); rintro e w14 ⟨rfl, hi, hb, hk⟩; refine ⟨_, rfl, ?_⟩; replace HO_3 := a0_ (Kd.R_mono (Kd.R_keep (IsS101.apart (show IsS101 w0 _ g t347 t348 from z164_) z67_ z17_) hk (fun _ h => h.2)) (fun _ h => h.1)); replace HK := a0_ (KeepBut.trans z166_ hk (.inl rfl)); replace HB := a0_ (hb); replace HI0 := a0_ (hi); (try clear hb); (try clear hb2); (try clear hk); (try clear hi)) | ((with_reducible refine gate_builtin (b := .append) (xs := #[.tmp 8, .tmp 14]) rfl ?_); (try (refine gate_guard (by rfl) ?_; dsimp only)); at_builtin; refine Kd.R_append k160 w.heap.size rfl (.tmp 8) (.tmp 14) 44 160 (.agg #[(.int .i64 0), (.int .i64 0)]) 16 rfl Try.underlying44 info160 rfl z17_ z2_ u3 x3_1 (⟨t346, t349⟩ : S160) [.int .i64 t346, .int .i64 t349] (fun _ => True) (fun _ => False) rfl rfl ?aP (fun _ hk => hk.elim) ?aF ?aO (Below.refl _ _) ?aS ?aL ?_; (case aP => exact k160_mkM _ _ _ (⟨t346, t349⟩ : S160)); (case aF => exact z43_); (case aO => exact z105_); (case aS => exact z167_); (case aL => have := LMc7.out; omega); intro v353 w15 ho hb hg hat; rw [← Ny352.out] at ho; have n0_ := a0_ (IsS101.grown z164_ hg (IsS101.own_ne HI0.out HO_3.out z17_)); have n1_ := a0_ (below_weaken z165_ HL.out hb); have n2_ := a0_ (KeepBut.trans z166_ (KeepBut.of_grown hg g) (Kd.R_base2 HO_3.out)); have n3_ := a0_ (ho); clear HI0; clear HB; clear HK; clear HO_3; have HI0 := n0_; have HB := n1_; have HK := n2_; have HO354 := n3_; clear n0_ n1_ n2_ n3_; clear ho hb hg hat; obtain ⟨HGz16, hgz16⟩ := HI0.out; have hcz16_0 := cellS101_0 HGz16; have hcz16_1 := cellS101_1 HGz16; have hfz16_0 := blk_frozen HGz16 0; have hfz16_1 := blk_frozen HGz16 1; clear HGz16 hgz16))
      go_roundg k1
      case measure => have := HK1.out; omega
      case rel => exact ⟨(y352), (wrap64 (x6_1 + 1)), (t350), (false), z9_, H', ⟨z21_⟩, ⟨by (with_reducible repeat (first | apply Kd.R_alloc | apply Kd.R_drewN | apply Kd.R_drew)); exact HO354.out⟩, ⟨z164_⟩, ⟨z166_⟩, ⟨z165_⟩⟩
    ·rw [if_neg c7] at H
     exact absurd H (by simp)
   ·rw [if_neg c4] at H
    have c4b0 : decide (x6_1 < t342) = false := decide_eq_false c4
    clear c4
    by_cases c17 : x1001_1 = true
    ·subst c17
     rw [if_pos rfl] at H
     simp only [Option.some.injEq, Prod.mk.injEq] at H
     obtain ⟨rfl, rfl, rfl⟩ := H
     obtain ⟨HGz18, hgz18⟩ := HI0.out
     have hcz18_0 := cellS101_0 HGz18
     have hcz18_1 := cellS101_1 HGz18
     have hfz18_0 := blk_frozen HGz18 0
     have hfz18_1 := blk_frozen HGz18 1
     clear HGz18 hgz18
     go_wp2
     go_ret
     exact ⟨_, z3_, by (with_reducible repeat (first | apply Kd.R_alloc | apply Kd.R_drewN | apply Kd.R_drew)); exact Kd.R_mono (Kd.R_far (p := ⟨g, 1, none⟩) (IsS101.apart HI0.out HO_3.out z17_) (fun _ hk => hk.2) (.bool true)) (fun _ hk => trivial), z164_, z165_, z166_⟩
    ·replace c17 := Bool.eq_false_iff.mpr c17
     subst c17
     rw [if_neg (show ¬ (false = true) from z17_)] at H
     by_cases c19 : (x3_1.length : Int) > 0
     ·rw [if_pos c19] at H
      have c19b0 : decide (0 < (x3_1.length : Int)) = true := decide_eq_true c19
      have c19b1 : decide (0 < x3_1.length) = true := decide_eq_true z2_
      clear c19
      replace H := Option.bind_eq_some_iff.mp H
      obtain ⟨t345, A200, H⟩ := H
      try dsimp only at H
      have A20 := a0_ A200
      clear A200
      simp only [Option.some.injEq, Prod.mk.injEq] at H
      obtain ⟨rfl, rfl, rfl⟩ := H
      obtain ⟨HGz21, hgz21⟩ := HI0.out
      have hcz21_0 := cellS101_0 HGz21
      have hcz21_1 := cellS101_1 HGz21
      have hfz21_0 := blk_frozen HGz21 0
      have hfz21_1 := blk_frozen HGz21 1
      clear HGz21 hgz21
      obtain ⟨Ao22, co22, eo22⟩ := Kd.R_slice HO_3.out
      subst eo22
      go_wp2_with (first | (go_at_call 72; (with_reducible refine (line_Right.calls k1 _ _ x3_1 t345 _ ?side1 ?side2 A20.out).mono ?_); (case side1 => repeat (first | exact (Kd.R_reads' HO_3.out).2.2 | (with_reducible refine Kd.C_alloc ?_ _) | (with_reducible refine Kd.C_drewN ?_ _) | (with_reducible refine Kd.C_drew ?_))); (case side2 => exact (Kd.R_reads' HO_3.out).2.1); rintro e w23 ⟨rfl, hb⟩; have n0_ := a0_ (Kd.R_below z67_ hb); have n1_ := a0_ (IsS101.below z164_ hb); have n2_ := a0_ (KeepBut.trans z166_ (KeepBut.of_below hb g none) (.inl rfl)); have n3_ := a0_ (below_step z165_ hb); clear HO_3; clear HI0; clear HK; clear HB; have HO_3 := n0_; have HI0 := n1_; have HK := n2_; have HB := n3_; clear n0_ n1_ n2_ n3_; (try clear hb); (try clear hb2); (try clear hk); (try clear hi); obtain ⟨HGz24, hgz24⟩ := HI0.out; have hcz24_0 := cellS101_0 HGz24; have hcz24_1 := cellS101_1 HGz24; have hfz24_0 := blk_frozen HGz24 0; have hfz24_1 := blk_frozen HGz24 1; clear HGz24 hgz24))
      go_ret
      exact ⟨_, z3_, by (with_reducible repeat (first | apply Kd.R_alloc | apply Kd.R_drewN | apply Kd.R_drew)); exact Kd.R_mono (Kd.R_far (p := ⟨g, 1, none⟩) (IsS101.apart HI0.out HO_3.out z17_) (fun _ hk => hk.2) (.bool (!t345))) (fun _ hk => trivial), z164_, z165_, z166_⟩
     ·rw [if_neg c19] at H
      have c19b0 : decide (0 < (x3_1.length : Int)) = false := decide_eq_false c19
      have c19b1 : decide (0 < x3_1.length) = false := decide_eq_false z2_
      clear c19
      simp only [Option.some.injEq, Prod.mk.injEq] at H
      obtain ⟨rfl, rfl, rfl⟩ := H
      obtain ⟨HGz25, hgz25⟩ := HI0.out
      have hcz25_0 := cellS101_0 HGz25
      have hcz25_1 := cellS101_1 HGz25
      have hfz25_0 := blk_frozen HGz25 0
      have hfz25_1 := blk_frozen HGz25 1
      clear HGz25 hgz25
      obtain ⟨Ao26, co26, eo26⟩ := Kd.R_slice HO_3.out
      subst eo26
      go_wp2
      go_ret
      exact ⟨_, z3_, by (with_reducible repeat (first | apply Kd.R_alloc | apply Kd.R_drewN | apply Kd.R_drew)); exact Kd.R_mono (Kd.R_far (p := ⟨g, 1, none⟩) (IsS101.apart HI0.out HO_3.out z17_) (fun _ hk => hk.2) (.bool false)) (fun _ hk => trivial), z164_, z165_, z166_⟩
end Go.Proofs.Ytecfndblgefhdaa.P
