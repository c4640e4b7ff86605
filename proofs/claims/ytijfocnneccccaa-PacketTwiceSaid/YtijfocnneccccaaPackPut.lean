/- Put of any numbers behind any bytes. -/
import Derived.Test.YtijfocnneccccaaPackMore
set_option linter.unusedVariables false
set_option linter.unusedSimpArgs false
namespace Go.Proofs.Ytijfocnneccccaa.Pk
open Go.RowKit Go.Proofs.YtijfocnneccccaaW.PrintWords
theorem fits_size (k : Int) (l : List Int) (h : fitsF k l = true) : k = 1 ∨ k = 2 ∨ k = 4 := by
 unfold fitsF at h
 rw [Bool.and_eq_true] at h
 have h1 : 0 < spanF k := by simpa using h.1
 unfold spanF at h1
 split at h1
 · omega
 ·
  split at h1
  · omega
  · split at h1 <;> omega
theorem put_ok (A B : Option Addr) (c cl : Nat) (k : Int) (b l : List Int) (n : Nat) (hn : n = l.length) (hf : fitsF k l = true) (w : World) (hb : Kd.C (Kd.int .u8) w A b.length b) (h : Kd.C (Kd.int .i64) w B l.length l) (hc : l.length ≤ cl) (hlen : (b ++ putF k l).length ≤ 1280) :
  Calls Try.prog 81 #[.slice A b.length c, .int .i64 k, .slice B n cl] w fun e w' => ∃ v, e = .returned (.tuple #[v, .int .i64 0]) ∧ w'.ownsRow w.heap.size 5 1 v (b ++ putF k l).length (encs (Value.int .u8) (b ++ putF k l)) ∧ Below w.heap.size w w' := by
 subst hn
 rcases fits_size k l hf with rfl | rfl | rfl
 · exact put_k1 A B c cl b l hf w hb h hc hlen
 · exact put_k2 A B c cl b l hf w hb h hc hlen
 · exact put_k4 A B c cl b l hf w hb h hc hlen
end Go.Proofs.Ytijfocnneccccaa.Pk
