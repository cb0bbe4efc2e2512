/-
  The contracts of Leq and Concurrent at a known answer. No condition.
-/
import Derived.Test.YtngfjoifkolaiaaClkAwake
import Derived.Test.YtngfjoifkolaiaaClkPlain
namespace Go.Proofs.Ytngfjoifkolaiaa
open Go.RowKit

theorem Leq_val (A : Option Addr) (n c : Nat) (xs : List Int) (B : Option Addr) (m d : Nat) (ys : List Int) (w : World) (b : Bool) (hb : Hid (leqC xs ys = b)) (h : RdI w A n c xs) (g : RdI w B m d ys) :
    Calls Try.prog 28 #[.slice A n c, .slice B m d] w fun e w' => e = .returned (.bool b) ∧ w = w' := by
  rw [← hb.out]; exact Leq_any A n c xs B m d ys w h g
theorem rLeq_val (A : Option Addr) (n c : Nat) (xs : List Int) (B : Option Addr) (m d : Nat) (ys : List Int) (w : World) (b : Bool) (hb : Hid (leqC xs ys = b)) (h : RdI w A n c xs) (g : RdI w B m d ys) :
    Calls Try.prog 27 #[.slice A n c, .slice B m d] w fun e w' => e = .returned (.bool b) ∧ w = w' := by
  rw [← hb.out]; exact rLeq_any A n c xs B m d ys w h g
theorem Concurrent_val (A : Option Addr) (n c : Nat) (xs : List Int) (B : Option Addr) (m d : Nat) (ys : List Int) (w : World) (b : Bool) (hb : Hid ((!leqC xs ys && !leqC ys xs) = b)) (h : RdI w A n c xs) (g : RdI w B m d ys) :
    Calls Try.prog 29 #[.slice A n c, .slice B m d] w fun e w' => e = .returned (.bool b) ∧ w = w' := by
  rw [← hb.out]; exact Concurrent_any A n c xs B m d ys w h g

end Go.Proofs.Ytngfjoifkolaiaa
