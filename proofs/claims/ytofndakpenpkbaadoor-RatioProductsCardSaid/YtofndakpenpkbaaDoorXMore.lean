/- Small words of my own, in the place of the print's great text of words. -/
import Derived.Test.YtofndakpenpkbaaDoorWWords
import Derived.Test.YtofndakpenpkbaaDoorWLast
namespace Go.Proofs.YtofndakpenpkbaaDoorW.PrintMore
theorem nothing : True := trivial
end Go.Proofs.YtofndakpenpkbaaDoorW.PrintMore
namespace Go.Proofs.YtofndakpenpkbaaDoorW.PrintWords
open Go Go.RowKit
/-- A look at the operation: it calls that function. -/
theorem gate_callee {P : Program} {ops : Array Oper} {rest : List Oper} {o : Oper} {a : Act} {Q : Exit → Act → World → Prop} {W : World} {f : FuncId} {as : Array Operand} {ts : Array TypeId}
    (_h0 : o.op = .call { callee := .value (.func f), args := as, argTypes := ts }) (h1 : wpList P ops Q (o :: rest) a W) : wpList P ops Q (o :: rest) a W := h1
/-- A shift to the left, to the right. -/
def shl (k : IntKind) (x y : Int) : Int := k.wrap (x * 2 ^ min y.toNat k.bits)
def shr (k : IntKind) (x y : Int) : Int := x / 2 ^ min y.toNat k.bits
theorem shl_small {k : IntKind} {x y j : Int} (h : shl k x y = j) (hy : y ≤ k.bits) : k.wrap (x * 2 ^ y.toNat) = j := by
  unfold shl at h
  rw [Nat.min_eq_left (by omega)] at h
  exact h
theorem shr_small {k : IntKind} {x y j : Int} (h : shr k x y = j) (hy : y ≤ k.bits) : x / 2 ^ y.toNat = j := by
  unfold shr at h
  rw [Nat.min_eq_left (by omega)] at h
  exact h
theorem drewN_self (w : World) (n : Nat) : w.drewN n = w.drewN n := rfl
end Go.Proofs.YtofndakpenpkbaaDoorW.PrintWords
