-- Printed by this session's own program wip/mprint.py
import Derived.Test.YtgfmdfgibkkfaaaKoPx0
import Derived.Test.YtgfmdfgibkkfaaaKoPx10
import Derived.Test.YtgfmdfgibkkfaaaKoPx11
namespace Go.Proofs.Ytgfmdfgibkkfaaa.P
open Go.RowKit Go.Proofs.YtgfmdfgibkkfaaaW.PrintWords Go.Proofs.YtgfmdfgibkkfaaaW.PrintLast Go.Proofs.YtgfmdfgibkkfaaaW.PrintMore
attribute [local go_sem] max2_int min2_int max_two min_two max_three min_three max_four min_four   -- for this text's walks alone
set_option linter.unusedVariables false
set_option linter.unusedSimpArgs false

/-! ### counterfoilref15_Take: function 23 -/
structure counterfoilref15_Take.Res where
 o : Int
 f : Int
 w : Int
 l : List ByteArray
 s : ByteArray
 has : Bool
 reply : ByteArray
 anew : Bool
def counterfoilref15_Take.tail (k : Nat) (a o f w : Int) (l : List ByteArray) (anew : Bool) (kind n2 : Int) (s : ByteArray) : Option counterfoilref15_Take.Res :=
 if kind = 2 then some ⟨o, f, w, l, (⟨#[]⟩ : ByteArray), false, (⟨#[]⟩ : ByteArray), anew⟩ else
  (if n2 = w then
   (if w < 1099511627776 then (counterfoilref15_Packet.f k a o f (wrap64 (w + 1)) l 2 0 (⟨#[]⟩ : ByteArray)).bind fun t => some ⟨o, f, wrap64 (w + 1), l, s, true, t, anew⟩
   else (counterfoilref15_Packet.f k a o f w l 2 0 (⟨#[]⟩ : ByteArray)).bind fun t => some ⟨o, f, w, l, (⟨#[]⟩ : ByteArray), false, t, anew⟩)
  else (counterfoilref15_Packet.f k a o f w l 2 0 (⟨#[]⟩ : ByteArray)).bind fun t => some ⟨o, f, w, l, (⟨#[]⟩ : ByteArray), false, t, anew⟩)
def counterfoilref15_Take.rest (k : Nat) (a o f w : Int) (l : List ByteArray) (anew : Bool) (kind n1 n2 n3 : Int) (s : ByteArray) : Option counterfoilref15_Take.Res :=
 if n1 = a then
  (if (decide (0 ≤ wrap64 (n3 - f)) && decide (wrap64 (n3 - f) ≤ (l.length : Int))) = true then
   (if (l.drop (wrap64 (n3 - f)).toNat).length < 8796093022208 then counterfoilref15_Take.tail k a o n3 w (l.drop (wrap64 (n3 - f)).toNat) anew kind n2 s else none)
  else counterfoilref15_Take.tail k a o f w l anew kind n2 s)
 else (counterfoilref15_Packet.f k a o f w l 2 0 (⟨#[]⟩ : ByteArray)).bind fun t => some ⟨o, f, w, l, (⟨#[]⟩ : ByteArray), false, t, anew⟩
def counterfoilref15_Take.step (k : Nat) (a o f w : Int) (l : List ByteArray) (anew : Bool) (kind n0 n1 n2 n3 : Int) (s : ByteArray) : Option counterfoilref15_Take.Res :=
 if o < n0 then counterfoilref15_Take.rest k a n0 f 1 l anew kind n1 n2 n3 s else counterfoilref15_Take.rest k a o f w l anew kind n1 n2 n3 s
def counterfoilref15_Take.go (k : Nat) (a o f w : Int) (l : List ByteArray) (anew : Bool) (kind n0 n1 n2 n3 : Int) (s : ByteArray) : Option counterfoilref15_Take.Res :=
 if anew = true then counterfoilref15_Take.step k a o 1 w [] anew kind n0 n1 n2 n3 s else counterfoilref15_Take.step k a o f w l anew kind n0 n1 n2 n3 s
def counterfoilref15_Take.same (o f w : Int) (l : List ByteArray) : counterfoilref15_Take.Res := ⟨o, f, w, l, (⟨#[]⟩ : ByteArray), false, (⟨#[]⟩ : ByteArray), false⟩
def counterfoilref15_Take.f (k : Nat) (a o f w : Int) (l : List ByteArray) (p : ByteArray) : Option counterfoilref15_Take.Res :=
 (counterfoilref15_Heard.f k p).bind fun h => if h.1 = 0 then some (counterfoilref15_Take.same o f w l) else if h.2.1 < o then some (counterfoilref15_Take.same o f w l) else
  counterfoilref15_Take.go k a o f w l (decide (o < h.2.1) && decide (0 < o)) h.1 h.2.1 h.2.2.1 h.2.2.2.1 h.2.2.2.2.1 h.2.2.2.2.2
section
variable {w W W1 : World} {gx gr gn : Nat} {xs ns rs xs1 rs1 : Array Value} {A0 : Option Addr} {c : Nat} {l0 : List ByteArray} {v v1 u : Value} {l l1 : List ByteArray}
end
/-! ### counterfoillaw15_LinkTakes: function 5 -/

end Go.Proofs.Ytgfmdfgibkkfaaa.P
