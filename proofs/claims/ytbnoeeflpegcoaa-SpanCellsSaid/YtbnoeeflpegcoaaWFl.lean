-- words of this session's own: float64 as a kind (its bits)
import Derived.Test.YtbnoeeflpegcoaaWMore
import Derived.Laws.FloatArith
namespace Go.Proofs.YtbnoeeflpegcoaaW
@[go_sem] theorem run_store_float (P : Program) (w : World) (a : Addr) (m : Mode) (k : FloatKind) (b : Nat) : (store a (.float k b) m).run P w = stored P w a (.float k b) m := run_store P w a _ m rfl
end Go.Proofs.YtbnoeeflpegcoaaW
namespace Go.Proofs.YtbnoeeflpegcoaaW.PrintWords
namespace Kd
def f64 : Kd Nat := scalar (Value.float .f64) (fun _ => rfl)
theorem heap_f64 : Heap Kd.f64 := ⟨fun _ h => h⟩
theorem at_f64 {w : World} {A : Option Addr} {n : Nat} {xs : List Nat} (h : Kd.f64.C w A n xs) (i : Int) (h0 : 0 ≤ i) (h1 : i < n) : ∃ ad, A = some ad ∧ w.cell? (ad.add i.toNat) = some (.float .f64 (rdOf (0 : Nat) xs i)) :=
  ReadsOf.at_ (reads_of_C (enc := Value.float .f64) (d := (0 : Nat)) (h1 := fun _ => rfl) h) i h0 h1
end Kd
end Go.Proofs.YtbnoeeflpegcoaaW.PrintWords
