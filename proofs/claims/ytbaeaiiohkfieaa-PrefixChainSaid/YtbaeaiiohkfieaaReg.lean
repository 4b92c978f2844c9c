/-
  A region whose operations come up in an order that Go leaves open, walked one operation after another: short words over the laid ones. What has come up is told by the bits of one number.
-/
import Derived.Test.YtbaeaiiohkfieaaProg
import Derived.Test.YtbaeaiiohkfieaaWFour
import Derived.Test.YtbaeaiiohkfieaaWEqStruct
namespace Go.Proofs.Ytbaeaiiohkfieaa.Reg
open Go.RowKit Go.Proofs.YtbaeaiiohkfieaaW.PrintWords Go.Proofs.YtbaeaiiohkfieaaW.PrintLast
set_option linter.unusedVariables false

def lb (n m : Nat) : Array Bool := ((List.range n).map fun i => m.testBit i).toArray
section
variable {P : Program} {md : Region.Mode} {ops : Array Oper} {Q : Exit → Act → World → Prop} {S : World → Prop} {ds : List Nat} {T : Bool × List (List Nat × List Nat)} {B : List Nat} {oi : Oper} {v : Value} {fuel n m0 : Nat} {a a' : Act} {w : World}
theorem px (i m : Nat) (N : Option Tmp) (HT : Aside0 (rtab md ops = T)) (hi : ops[i]? = some oi) (hN : oi.dst = N) (hc : anyT T (lb n m0).toList (lb n m).toList i = true) (hQ : ∀ c a w, Q (.panic c) (a.put oi.dst v) w → Q (.panic c) a w)
    (hw : Region.wanted oi (yielded ops a.tmps) = true) (hy : ∀ w, (execOp a.eval oi).run P w = .ok (.value v) w) (ha : a.put N v = a') (h : wpAnyLast P md ops Q S ds fuel (lb n m) a' w) : wpAnyLast P md ops Q S ds (fuel + 1) (lb n m0) a w :=
  pure_ (lb n m) hi hN (any_of HT.out hc) hQ (Or.inl ⟨hw, hy⟩) ha h
theorem pn (i m : Nat) (N : Option Tmp) (HT : Aside0 (rtab md ops = T)) (hi : ops[i]? = some oi) (hN : oi.dst = N) (hc : anyT T (lb n m0).toList (lb n m).toList i = true) (hQ : ∀ c a w, Q (.panic c) (a.put oi.dst undef) w → Q (.panic c) a w)
    (hw : Region.wanted oi (yielded ops a.tmps) = false) (ha : a.put N undef = a') (h : wpAnyLast P md ops Q S ds fuel (lb n m) a' w) : wpAnyLast P md ops Q S ds (fuel + 1) (lb n m0) a w :=
  pure_ (lb n m) hi hN (any_of HT.out hc) hQ (Or.inr ⟨hw, rfl⟩) ha h
theorem pt (i m : Nat) (N : Option Tmp) (HT : Aside0 (rtab md ops = T)) (HW : Aside0 (waitsOk T.2 B = true)) (hi : ops[i]? = some oi) (hN : oi.dst = N) (hc : takeW T B ds (lb n m0).toList (lb n m).toList i = true) (hQ : ∀ c a w, Q (.panic c) (a.put oi.dst v) w → Q (.panic c) a w)
    (hw : Region.wanted oi (yielded ops a.tmps) = true) (hy : ∀ w, S w → (execOp a.eval oi).run P w = .ok (.value v) w) (hS : S w) (ha : a.put N v = a') (h : wpAnyLast P md ops Q S ds fuel (lb n m) a' w) : wpAnyLast P md ops Q S ds (fuel + 1) (lb n m0) a w :=
  take_ (lb n m) hi hN (take_ofW HT.out HW.out hc) hQ (Or.inl ⟨hw, hy⟩) hS ha h
theorem pc (i m : Nat) (N : Option Tmp) (HT : Aside0 (rtab md ops = T)) (hi : ops[i]? = some oi) (hN : oi.dst = N) (hc : (readyT T.2 (lb n m0).toList == [i] && (lb n m0).toList.set i true == (lb n m).toList) = true) (hd : i ∉ ds)
    (h : ∀ K : Act → World → Prop, Shut (∀ a' w', S w' → (S w' → wpAnyLast P md ops Q S ds fuel (lb n m) a' w') → K a' w') → if Region.wanted oi (yielded ops a.tmps) = true then Oper.wp P oi a w K Q else K (a.put N undef) w) :
    wpAnyLast P md ops Q S ds (fuel + 1) (lb n m0) a w :=
  one_ (lb n m) hi hN (one_of HT.out hc) hd h
theorem pd (HT : Aside0 (rtab md ops = T)) (hc : (readyT T.2 (lb n m0).toList == []) = true) (h : Q .normal a w) : wpAnyLast P md ops Q S ds fuel (lb n m0) a w := done_ (done_of HT.out hc) h
theorem ps {id : Nat} (n : Nat) (hm : P.follows .mixedOrders = true) (hn : ops.size = n) (hl : Array.replicate n false = lb n 0) (hT : rtab .any ops = T) (hB : waitsOk T.2 B = true) (hS : S w.drew)
    (h : Aside0 (rtab .any ops = T) → Aside0 (waitsOk T.2 B = true) → S w.drew → wpAnyLast P .any ops Q S [] n (lb n 0) a w.drew) : (Code.region id ops true).wp P Q a w :=
  start_ (lb n 0) hm hn hl hS (fun hH => h ⟨hT⟩ ⟨hB⟩ hH)
end
end Go.Proofs.Ytbaeaiiohkfieaa.Reg
