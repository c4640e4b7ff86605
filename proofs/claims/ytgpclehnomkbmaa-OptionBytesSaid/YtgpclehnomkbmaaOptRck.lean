/- The document's Check of an option. -/
import Derived.Test.YtgpclehnomkbmaaOptRef
set_option maxRecDepth 100000
set_option linter.unusedVariables false
set_option linter.unusedSimpArgs false
namespace Go.Proofs.Ytgpclehnomkbmaa.Ork
open Go.RowKit Go.Proofs.YtgpclehnomkbmaaW.PrintWords Go.Proofs.Ytgpclehnomkbmaa.Ds Go.Proofs.Ytgpclehnomkbmaa.Op Go.Proofs.Ytgpclehnomkbmaa.Orf
open Go.Proofs.Ytgpclehnomkbmaa.Pk (Kp fitsF spanF putF digF)
open Go.Proofs.Ytgpclehnomkbmaa.Oc (numB numOK okJ numB_iff chkF chkO fits_yes fits_no sizes_len flat_int flat_arr)
theorem eqY_ks : flat Try.prog 9 43 = some ([some .u8, some .u8, some .u8, some .u8, some .u8, some .u8, some .u8, some .u8, some .u8, some .u8, some .u8, some .u8, some .u8, some .u8, some .u8, some .u8]) := Eq.trans (flat_arr Try.underlying43 (flat_int Try.underlying5) (by kernel_rfl) rfl (Or.inr rfl)) rfl
theorem br_0 (l : List Int) : (∀ j, j < (partsF 0).size → okP (partsF 0) l j) ↔ numOK (sizesF 0) (lenF 0) (zeroF 0) l := by
 constructor
 ·
  intro h j hj
  have hj2 : j < 0 := hj
  omega
 ·
  intro h j hj
  have hj2 : j < 0 := hj
  omega
theorem br_1 (l : List Int) : (∀ j, j < (partsF 1).size → okP (partsF 1) l j) ↔ numOK (sizesF 1) (lenF 1) (zeroF 1) l := by
 have e0 : bt (partsF 1) ((0 : Nat) : Int) = 120 := by decide +kernel
 have c0 : cntF (partsF 1) 0 = 0 := by decide +kernel
 constructor
 ·
  intro h j hj
  have h0 := h 0 (by decide +kernel)
  unfold okP at h0
  rw [c0, e0] at h0
  replace h0 := h0 (by decide +kernel)
  have hj2 : j < 1 := hj
  have hjc : j = 0 := by omega
  rcases hjc with rfl
  · exact ⟨fits_yes (q := 256) rfl (by decide) h0.1, fun hh => absurd hh (by decide), fun hh => absurd hh (by decide)⟩
 ·
  intro h j hj
  have hj2 : j < 1 := hj
  have hjc : j = 0 := by omega
  rcases hjc with rfl
  ·
   intro _
   rw [c0, e0]
   have g := h 0 (by decide +kernel)
   have gf : 0 ≤ rd l ((0 : Nat) : Int) ∧ rd l ((0 : Nat) : Int) < 256 := Classical.byContradiction fun hn => by have := fits_no (k := 1) (q := 256) rfl hn; have g1 := g.1; rw [show rd (sizesF 1) ((0 : Nat) : Int) = 1 from rfl] at g1; rw [g1] at this; cases this
   exact ⟨gf, fun hh => absurd hh (by decide), fun hh => absurd hh (by decide)⟩
theorem br_2 (l : List Int) : (∀ j, j < (partsF 2).size → okP (partsF 2) l j) ↔ numOK (sizesF 2) (lenF 2) (zeroF 2) l := by
 have e0 : bt (partsF 2) ((0 : Nat) : Int) = 116 := by decide +kernel
 have c0 : cntF (partsF 2) 0 = 0 := by decide +kernel
 constructor
 ·
  intro h j hj
  have hj2 : j < 0 := hj
  omega
 ·
  intro h j hj
  have hj2 : j < 1 := hj
  have hjc : j = 0 := by omega
  rcases hjc with rfl
  · intro hh; rw [e0] at hh; exact absurd hh (by decide +kernel)
theorem br_3 (l : List Int) : (∀ j, j < (partsF 3).size → okP (partsF 3) l j) ↔ numOK (sizesF 3) (lenF 3) (zeroF 3) l := by
 have e0 : bt (partsF 3) ((0 : Nat) : Int) = 112 := by decide +kernel
 have c0 : cntF (partsF 3) 0 = 0 := by decide +kernel
 have e1 : bt (partsF 3) ((1 : Nat) : Int) = 49 := by decide +kernel
 have c1 : cntF (partsF 3) 1 = 1 := by decide +kernel
 have e2 : bt (partsF 3) ((2 : Nat) : Int) = 52 := by decide +kernel
 have c2 : cntF (partsF 3) 2 = 2 := by decide +kernel
 have e3 : bt (partsF 3) ((3 : Nat) : Int) = 97 := by decide +kernel
 have c3 : cntF (partsF 3) 3 = 3 := by decide +kernel
 constructor
 ·
  intro h j hj
  have h0 := h 0 (by decide +kernel)
  unfold okP at h0
  rw [c0, e0] at h0
  replace h0 := h0 (by decide +kernel)
  have h1 := h 1 (by decide +kernel)
  unfold okP at h1
  rw [c1, e1] at h1
  replace h1 := h1 (by decide +kernel)
  have h2 := h 2 (by decide +kernel)
  unfold okP at h2
  rw [c2, e2] at h2
  replace h2 := h2 (by decide +kernel)
  have hj2 : j < 3 := hj
  have hjc : j = 0 ∨ j = 1 ∨ j = 2 := by omega
  rcases hjc with rfl | rfl | rfl
  · exact ⟨fits_yes (q := 256) rfl (by decide) h0.1, fun hh => h0.2.1 rfl, fun hh => absurd hh (by decide)⟩
  · exact ⟨fits_yes (q := 256) rfl (by decide) h1.1, fun hh => absurd hh (by decide), fun hh => absurd hh (by decide)⟩
  · exact ⟨fits_yes (q := 4294967296) rfl (by decide) h2.1, fun hh => absurd hh (by decide), fun hh => absurd hh (by decide)⟩
 ·
  intro h j hj
  have hj2 : j < 4 := hj
  have hjc : j = 0 ∨ j = 1 ∨ j = 2 ∨ j = 3 := by omega
  rcases hjc with rfl | rfl | rfl | rfl
  ·
   intro _
   rw [c0, e0]
   have g := h 0 (by decide +kernel)
   have gf : 0 ≤ rd l ((0 : Nat) : Int) ∧ rd l ((0 : Nat) : Int) < 256 := Classical.byContradiction fun hn => by have := fits_no (k := 1) (q := 256) rfl hn; have g1 := g.1; rw [show rd (sizesF 3) ((0 : Nat) : Int) = 1 from rfl] at g1; rw [g1] at this; cases this
   exact ⟨gf, fun hh => g.2.1 rfl, fun hh => absurd hh (by decide)⟩
  ·
   intro _
   rw [c1, e1]
   have g := h 1 (by decide +kernel)
   have gf : 0 ≤ rd l ((1 : Nat) : Int) ∧ rd l ((1 : Nat) : Int) < 256 := Classical.byContradiction fun hn => by have := fits_no (k := 1) (q := 256) rfl hn; have g1 := g.1; rw [show rd (sizesF 3) ((1 : Nat) : Int) = 1 from rfl] at g1; rw [g1] at this; cases this
   exact ⟨gf, fun hh => absurd hh (by decide), fun hh => absurd hh (by decide)⟩
  ·
   intro _
   rw [c2, e2]
   have g := h 2 (by decide +kernel)
   have gf : 0 ≤ rd l ((2 : Nat) : Int) ∧ rd l ((2 : Nat) : Int) < 4294967296 := Classical.byContradiction fun hn => by have := fits_no (k := 4) (q := 4294967296) rfl hn; have g1 := g.1; rw [show rd (sizesF 3) ((2 : Nat) : Int) = 4 from rfl] at g1; rw [g1] at this; cases this
   exact ⟨gf, fun hh => absurd hh (by decide), fun hh => absurd hh (by decide)⟩
  · intro hh; rw [e3] at hh; exact absurd hh (by decide +kernel)
theorem br_4 (l : List Int) : (∀ j, j < (partsF 4).size → okP (partsF 4) l j) ↔ numOK (sizesF 4) (lenF 4) (zeroF 4) l := by
 have e0 : bt (partsF 4) ((0 : Nat) : Int) = 49 := by decide +kernel
 have c0 : cntF (partsF 4) 0 = 0 := by decide +kernel
 have e1 : bt (partsF 4) ((1 : Nat) : Int) = 49 := by decide +kernel
 have c1 : cntF (partsF 4) 1 = 1 := by decide +kernel
 have e2 : bt (partsF 4) ((2 : Nat) : Int) = 49 := by decide +kernel
 have c2 : cntF (partsF 4) 2 = 2 := by decide +kernel
 have e3 : bt (partsF 4) ((3 : Nat) : Int) = 49 := by decide +kernel
 have c3 : cntF (partsF 4) 3 = 3 := by decide +kernel
 have e4 : bt (partsF 4) ((4 : Nat) : Int) = 50 := by decide +kernel
 have c4 : cntF (partsF 4) 4 = 4 := by decide +kernel
 have e5 : bt (partsF 4) ((5 : Nat) : Int) = 50 := by decide +kernel
 have c5 : cntF (partsF 4) 5 = 5 := by decide +kernel
 have e6 : bt (partsF 4) ((6 : Nat) : Int) = 50 := by decide +kernel
 have c6 : cntF (partsF 4) 6 = 6 := by decide +kernel
 have e7 : bt (partsF 4) ((7 : Nat) : Int) = 122 := by decide +kernel
 have c7 : cntF (partsF 4) 7 = 7 := by decide +kernel
 have e8 : bt (partsF 4) ((8 : Nat) : Int) = 49 := by decide +kernel
 have c8 : cntF (partsF 4) 8 = 8 := by decide +kernel
 have e9 : bt (partsF 4) ((9 : Nat) : Int) = 50 := by decide +kernel
 have c9 : cntF (partsF 4) 9 = 9 := by decide +kernel
 constructor
 ·
  intro h j hj
  have h0 := h 0 (by decide +kernel)
  unfold okP at h0
  rw [c0, e0] at h0
  replace h0 := h0 (by decide +kernel)
  have h1 := h 1 (by decide +kernel)
  unfold okP at h1
  rw [c1, e1] at h1
  replace h1 := h1 (by decide +kernel)
  have h2 := h 2 (by decide +kernel)
  unfold okP at h2
  rw [c2, e2] at h2
  replace h2 := h2 (by decide +kernel)
  have h3 := h 3 (by decide +kernel)
  unfold okP at h3
  rw [c3, e3] at h3
  replace h3 := h3 (by decide +kernel)
  have h4 := h 4 (by decide +kernel)
  unfold okP at h4
  rw [c4, e4] at h4
  replace h4 := h4 (by decide +kernel)
  have h5 := h 5 (by decide +kernel)
  unfold okP at h5
  rw [c5, e5] at h5
  replace h5 := h5 (by decide +kernel)
  have h6 := h 6 (by decide +kernel)
  unfold okP at h6
  rw [c6, e6] at h6
  replace h6 := h6 (by decide +kernel)
  have h7 := h 7 (by decide +kernel)
  unfold okP at h7
  rw [c7, e7] at h7
  replace h7 := h7 (by decide +kernel)
  have h8 := h 8 (by decide +kernel)
  unfold okP at h8
  rw [c8, e8] at h8
  replace h8 := h8 (by decide +kernel)
  have h9 := h 9 (by decide +kernel)
  unfold okP at h9
  rw [c9, e9] at h9
  replace h9 := h9 (by decide +kernel)
  have hj2 : j < 10 := hj
  have hjc : j = 0 ∨ j = 1 ∨ j = 2 ∨ j = 3 ∨ j = 4 ∨ j = 5 ∨ j = 6 ∨ j = 7 ∨ j = 8 ∨ j = 9 := by omega
  rcases hjc with rfl | rfl | rfl | rfl | rfl | rfl | rfl | rfl | rfl | rfl
  · exact ⟨fits_yes (q := 256) rfl (by decide) h0.1, fun hh => absurd hh (by decide), fun hh => absurd hh (by decide)⟩
  · exact ⟨fits_yes (q := 256) rfl (by decide) h1.1, fun hh => absurd hh (by decide), fun hh => absurd hh (by decide)⟩
  · exact ⟨fits_yes (q := 256) rfl (by decide) h2.1, fun hh => absurd hh (by decide), fun hh => absurd hh (by decide)⟩
  · exact ⟨fits_yes (q := 256) rfl (by decide) h3.1, fun hh => absurd hh (by decide), fun hh => absurd hh (by decide)⟩
  · exact ⟨fits_yes (q := 65536) rfl (by decide) h4.1, fun hh => absurd hh (by decide), fun hh => absurd hh (by decide)⟩
  · exact ⟨fits_yes (q := 65536) rfl (by decide) h5.1, fun hh => absurd hh (by decide), fun hh => absurd hh (by decide)⟩
  · exact ⟨fits_yes (q := 65536) rfl (by decide) h6.1, fun hh => absurd hh (by decide), fun hh => absurd hh (by decide)⟩
  · exact ⟨fits_yes (q := 256) rfl (by decide) h7.1, fun hh => absurd hh (by decide), fun hh => h7.2.2 (Or.inl rfl)⟩
  · exact ⟨fits_yes (q := 256) rfl (by decide) h8.1, fun hh => absurd hh (by decide), fun hh => absurd hh (by decide)⟩
  · exact ⟨fits_yes (q := 65536) rfl (by decide) h9.1, fun hh => absurd hh (by decide), fun hh => absurd hh (by decide)⟩
 ·
  intro h j hj
  have hj2 : j < 10 := hj
  have hjc : j = 0 ∨ j = 1 ∨ j = 2 ∨ j = 3 ∨ j = 4 ∨ j = 5 ∨ j = 6 ∨ j = 7 ∨ j = 8 ∨ j = 9 := by omega
  rcases hjc with rfl | rfl | rfl | rfl | rfl | rfl | rfl | rfl | rfl | rfl
  ·
   intro _
   rw [c0, e0]
   have g := h 0 (by decide +kernel)
   have gf : 0 ≤ rd l ((0 : Nat) : Int) ∧ rd l ((0 : Nat) : Int) < 256 := Classical.byContradiction fun hn => by have := fits_no (k := 1) (q := 256) rfl hn; have g1 := g.1; rw [show rd (sizesF 4) ((0 : Nat) : Int) = 1 from rfl] at g1; rw [g1] at this; cases this
   exact ⟨gf, fun hh => absurd hh (by decide), fun hh => absurd hh (by decide)⟩
  ·
   intro _
   rw [c1, e1]
   have g := h 1 (by decide +kernel)
   have gf : 0 ≤ rd l ((1 : Nat) : Int) ∧ rd l ((1 : Nat) : Int) < 256 := Classical.byContradiction fun hn => by have := fits_no (k := 1) (q := 256) rfl hn; have g1 := g.1; rw [show rd (sizesF 4) ((1 : Nat) : Int) = 1 from rfl] at g1; rw [g1] at this; cases this
   exact ⟨gf, fun hh => absurd hh (by decide), fun hh => absurd hh (by decide)⟩
  ·
   intro _
   rw [c2, e2]
   have g := h 2 (by decide +kernel)
   have gf : 0 ≤ rd l ((2 : Nat) : Int) ∧ rd l ((2 : Nat) : Int) < 256 := Classical.byContradiction fun hn => by have := fits_no (k := 1) (q := 256) rfl hn; have g1 := g.1; rw [show rd (sizesF 4) ((2 : Nat) : Int) = 1 from rfl] at g1; rw [g1] at this; cases this
   exact ⟨gf, fun hh => absurd hh (by decide), fun hh => absurd hh (by decide)⟩
  ·
   intro _
   rw [c3, e3]
   have g := h 3 (by decide +kernel)
   have gf : 0 ≤ rd l ((3 : Nat) : Int) ∧ rd l ((3 : Nat) : Int) < 256 := Classical.byContradiction fun hn => by have := fits_no (k := 1) (q := 256) rfl hn; have g1 := g.1; rw [show rd (sizesF 4) ((3 : Nat) : Int) = 1 from rfl] at g1; rw [g1] at this; cases this
   exact ⟨gf, fun hh => absurd hh (by decide), fun hh => absurd hh (by decide)⟩
  ·
   intro _
   rw [c4, e4]
   have g := h 4 (by decide +kernel)
   have gf : 0 ≤ rd l ((4 : Nat) : Int) ∧ rd l ((4 : Nat) : Int) < 65536 := Classical.byContradiction fun hn => by have := fits_no (k := 2) (q := 65536) rfl hn; have g1 := g.1; rw [show rd (sizesF 4) ((4 : Nat) : Int) = 2 from rfl] at g1; rw [g1] at this; cases this
   exact ⟨gf, fun hh => absurd hh (by decide), fun hh => absurd hh (by decide)⟩
  ·
   intro _
   rw [c5, e5]
   have g := h 5 (by decide +kernel)
   have gf : 0 ≤ rd l ((5 : Nat) : Int) ∧ rd l ((5 : Nat) : Int) < 65536 := Classical.byContradiction fun hn => by have := fits_no (k := 2) (q := 65536) rfl hn; have g1 := g.1; rw [show rd (sizesF 4) ((5 : Nat) : Int) = 2 from rfl] at g1; rw [g1] at this; cases this
   exact ⟨gf, fun hh => absurd hh (by decide), fun hh => absurd hh (by decide)⟩
  ·
   intro _
   rw [c6, e6]
   have g := h 6 (by decide +kernel)
   have gf : 0 ≤ rd l ((6 : Nat) : Int) ∧ rd l ((6 : Nat) : Int) < 65536 := Classical.byContradiction fun hn => by have := fits_no (k := 2) (q := 65536) rfl hn; have g1 := g.1; rw [show rd (sizesF 4) ((6 : Nat) : Int) = 2 from rfl] at g1; rw [g1] at this; cases this
   exact ⟨gf, fun hh => absurd hh (by decide), fun hh => absurd hh (by decide)⟩
  ·
   intro _
   rw [c7, e7]
   have g := h 7 (by decide +kernel)
   have gf : 0 ≤ rd l ((7 : Nat) : Int) ∧ rd l ((7 : Nat) : Int) < 256 := Classical.byContradiction fun hn => by have := fits_no (k := 1) (q := 256) rfl hn; have g1 := g.1; rw [show rd (sizesF 4) ((7 : Nat) : Int) = 1 from rfl] at g1; rw [g1] at this; cases this
   exact ⟨gf, fun hh => absurd hh (by decide), fun hh => g.2.2 rfl⟩
  ·
   intro _
   rw [c8, e8]
   have g := h 8 (by decide +kernel)
   have gf : 0 ≤ rd l ((8 : Nat) : Int) ∧ rd l ((8 : Nat) : Int) < 256 := Classical.byContradiction fun hn => by have := fits_no (k := 1) (q := 256) rfl hn; have g1 := g.1; rw [show rd (sizesF 4) ((8 : Nat) : Int) = 1 from rfl] at g1; rw [g1] at this; cases this
   exact ⟨gf, fun hh => absurd hh (by decide), fun hh => absurd hh (by decide)⟩
  ·
   intro _
   rw [c9, e9]
   have g := h 9 (by decide +kernel)
   have gf : 0 ≤ rd l ((9 : Nat) : Int) ∧ rd l ((9 : Nat) : Int) < 65536 := Classical.byContradiction fun hn => by have := fits_no (k := 2) (q := 65536) rfl hn; have g1 := g.1; rw [show rd (sizesF 4) ((9 : Nat) : Int) = 2 from rfl] at g1; rw [g1] at this; cases this
   exact ⟨gf, fun hh => absurd hh (by decide), fun hh => absurd hh (by decide)⟩
theorem br_5 (l : List Int) : (∀ j, j < (partsF 5).size → okP (partsF 5) l j) ↔ numOK (sizesF 5) (lenF 5) (zeroF 5) l := by
 have e0 : bt (partsF 5) ((0 : Nat) : Int) = 49 := by decide +kernel
 have c0 : cntF (partsF 5) 0 = 0 := by decide +kernel
 have e1 : bt (partsF 5) ((1 : Nat) : Int) = 112 := by decide +kernel
 have c1 : cntF (partsF 5) 1 = 1 := by decide +kernel
 have e2 : bt (partsF 5) ((2 : Nat) : Int) = 97 := by decide +kernel
 have c2 : cntF (partsF 5) 2 = 2 := by decide +kernel
 constructor
 ·
  intro h j hj
  have h0 := h 0 (by decide +kernel)
  unfold okP at h0
  rw [c0, e0] at h0
  replace h0 := h0 (by decide +kernel)
  have h1 := h 1 (by decide +kernel)
  unfold okP at h1
  rw [c1, e1] at h1
  replace h1 := h1 (by decide +kernel)
  have hj2 : j < 2 := hj
  have hjc : j = 0 ∨ j = 1 := by omega
  rcases hjc with rfl | rfl
  · exact ⟨fits_yes (q := 256) rfl (by decide) h0.1, fun hh => absurd hh (by decide), fun hh => absurd hh (by decide)⟩
  · exact ⟨fits_yes (q := 256) rfl (by decide) h1.1, fun hh => h1.2.1 rfl, fun hh => absurd hh (by decide)⟩
 ·
  intro h j hj
  have hj2 : j < 3 := hj
  have hjc : j = 0 ∨ j = 1 ∨ j = 2 := by omega
  rcases hjc with rfl | rfl | rfl
  ·
   intro _
   rw [c0, e0]
   have g := h 0 (by decide +kernel)
   have gf : 0 ≤ rd l ((0 : Nat) : Int) ∧ rd l ((0 : Nat) : Int) < 256 := Classical.byContradiction fun hn => by have := fits_no (k := 1) (q := 256) rfl hn; have g1 := g.1; rw [show rd (sizesF 5) ((0 : Nat) : Int) = 1 from rfl] at g1; rw [g1] at this; cases this
   exact ⟨gf, fun hh => absurd hh (by decide), fun hh => absurd hh (by decide)⟩
  ·
   intro _
   rw [c1, e1]
   have g := h 1 (by decide +kernel)
   have gf : 0 ≤ rd l ((1 : Nat) : Int) ∧ rd l ((1 : Nat) : Int) < 256 := Classical.byContradiction fun hn => by have := fits_no (k := 1) (q := 256) rfl hn; have g1 := g.1; rw [show rd (sizesF 5) ((1 : Nat) : Int) = 1 from rfl] at g1; rw [g1] at this; cases this
   exact ⟨gf, fun hh => g.2.1 rfl, fun hh => absurd hh (by decide)⟩
  · intro hh; rw [e2] at hh; exact absurd hh (by decide +kernel)
theorem br_6 (l : List Int) : (∀ j, j < (partsF 6).size → okP (partsF 6) l j) ↔ numOK (sizesF 6) (lenF 6) (zeroF 6) l := by
 have e0 : bt (partsF 6) ((0 : Nat) : Int) = 49 := by decide +kernel
 have c0 : cntF (partsF 6) 0 = 0 := by decide +kernel
 have e1 : bt (partsF 6) ((1 : Nat) : Int) = 49 := by decide +kernel
 have c1 : cntF (partsF 6) 1 = 1 := by decide +kernel
 have e2 : bt (partsF 6) ((2 : Nat) : Int) = 49 := by decide +kernel
 have c2 : cntF (partsF 6) 2 = 2 := by decide +kernel
 have e3 : bt (partsF 6) ((3 : Nat) : Int) = 49 := by decide +kernel
 have c3 : cntF (partsF 6) 3 = 3 := by decide +kernel
 constructor
 ·
  intro h j hj
  have h0 := h 0 (by decide +kernel)
  unfold okP at h0
  rw [c0, e0] at h0
  replace h0 := h0 (by decide +kernel)
  have h1 := h 1 (by decide +kernel)
  unfold okP at h1
  rw [c1, e1] at h1
  replace h1 := h1 (by decide +kernel)
  have h2 := h 2 (by decide +kernel)
  unfold okP at h2
  rw [c2, e2] at h2
  replace h2 := h2 (by decide +kernel)
  have h3 := h 3 (by decide +kernel)
  unfold okP at h3
  rw [c3, e3] at h3
  replace h3 := h3 (by decide +kernel)
  have hj2 : j < 4 := hj
  have hjc : j = 0 ∨ j = 1 ∨ j = 2 ∨ j = 3 := by omega
  rcases hjc with rfl | rfl | rfl | rfl
  · exact ⟨fits_yes (q := 256) rfl (by decide) h0.1, fun hh => absurd hh (by decide), fun hh => absurd hh (by decide)⟩
  · exact ⟨fits_yes (q := 256) rfl (by decide) h1.1, fun hh => absurd hh (by decide), fun hh => absurd hh (by decide)⟩
  · exact ⟨fits_yes (q := 256) rfl (by decide) h2.1, fun hh => absurd hh (by decide), fun hh => absurd hh (by decide)⟩
  · exact ⟨fits_yes (q := 256) rfl (by decide) h3.1, fun hh => absurd hh (by decide), fun hh => absurd hh (by decide)⟩
 ·
  intro h j hj
  have hj2 : j < 4 := hj
  have hjc : j = 0 ∨ j = 1 ∨ j = 2 ∨ j = 3 := by omega
  rcases hjc with rfl | rfl | rfl | rfl
  ·
   intro _
   rw [c0, e0]
   have g := h 0 (by decide +kernel)
   have gf : 0 ≤ rd l ((0 : Nat) : Int) ∧ rd l ((0 : Nat) : Int) < 256 := Classical.byContradiction fun hn => by have := fits_no (k := 1) (q := 256) rfl hn; have g1 := g.1; rw [show rd (sizesF 6) ((0 : Nat) : Int) = 1 from rfl] at g1; rw [g1] at this; cases this
   exact ⟨gf, fun hh => absurd hh (by decide), fun hh => absurd hh (by decide)⟩
  ·
   intro _
   rw [c1, e1]
   have g := h 1 (by decide +kernel)
   have gf : 0 ≤ rd l ((1 : Nat) : Int) ∧ rd l ((1 : Nat) : Int) < 256 := Classical.byContradiction fun hn => by have := fits_no (k := 1) (q := 256) rfl hn; have g1 := g.1; rw [show rd (sizesF 6) ((1 : Nat) : Int) = 1 from rfl] at g1; rw [g1] at this; cases this
   exact ⟨gf, fun hh => absurd hh (by decide), fun hh => absurd hh (by decide)⟩
  ·
   intro _
   rw [c2, e2]
   have g := h 2 (by decide +kernel)
   have gf : 0 ≤ rd l ((2 : Nat) : Int) ∧ rd l ((2 : Nat) : Int) < 256 := Classical.byContradiction fun hn => by have := fits_no (k := 1) (q := 256) rfl hn; have g1 := g.1; rw [show rd (sizesF 6) ((2 : Nat) : Int) = 1 from rfl] at g1; rw [g1] at this; cases this
   exact ⟨gf, fun hh => absurd hh (by decide), fun hh => absurd hh (by decide)⟩
  ·
   intro _
   rw [c3, e3]
   have g := h 3 (by decide +kernel)
   have gf : 0 ≤ rd l ((3 : Nat) : Int) ∧ rd l ((3 : Nat) : Int) < 256 := Classical.byContradiction fun hn => by have := fits_no (k := 1) (q := 256) rfl hn; have g1 := g.1; rw [show rd (sizesF 6) ((3 : Nat) : Int) = 1 from rfl] at g1; rw [g1] at this; cases this
   exact ⟨gf, fun hh => absurd hh (by decide), fun hh => absurd hh (by decide)⟩
theorem br_7 (l : List Int) : (∀ j, j < (partsF 7).size → okP (partsF 7) l j) ↔ numOK (sizesF 7) (lenF 7) (zeroF 7) l := by
 have e0 : bt (partsF 7) ((0 : Nat) : Int) = 49 := by decide +kernel
 have c0 : cntF (partsF 7) 0 = 0 := by decide +kernel
 have e1 : bt (partsF 7) ((1 : Nat) : Int) = 49 := by decide +kernel
 have c1 : cntF (partsF 7) 1 = 1 := by decide +kernel
 have e2 : bt (partsF 7) ((2 : Nat) : Int) = 97 := by decide +kernel
 have c2 : cntF (partsF 7) 2 = 2 := by decide +kernel
 have e3 : bt (partsF 7) ((3 : Nat) : Int) = 49 := by decide +kernel
 have c3 : cntF (partsF 7) 3 = 2 := by decide +kernel
 constructor
 ·
  intro h j hj
  have h0 := h 0 (by decide +kernel)
  unfold okP at h0
  rw [c0, e0] at h0
  replace h0 := h0 (by decide +kernel)
  have h1 := h 1 (by decide +kernel)
  unfold okP at h1
  rw [c1, e1] at h1
  replace h1 := h1 (by decide +kernel)
  have h3 := h 3 (by decide +kernel)
  unfold okP at h3
  rw [c3, e3] at h3
  replace h3 := h3 (by decide +kernel)
  have hj2 : j < 3 := hj
  have hjc : j = 0 ∨ j = 1 ∨ j = 2 := by omega
  rcases hjc with rfl | rfl | rfl
  · exact ⟨fits_yes (q := 256) rfl (by decide) h0.1, fun hh => absurd hh (by decide), fun hh => absurd hh (by decide)⟩
  · exact ⟨fits_yes (q := 256) rfl (by decide) h1.1, fun hh => absurd hh (by decide), fun hh => absurd hh (by decide)⟩
  · exact ⟨fits_yes (q := 256) rfl (by decide) h3.1, fun hh => absurd hh (by decide), fun hh => absurd hh (by decide)⟩
 ·
  intro h j hj
  have hj2 : j < 4 := hj
  have hjc : j = 0 ∨ j = 1 ∨ j = 2 ∨ j = 3 := by omega
  rcases hjc with rfl | rfl | rfl | rfl
  ·
   intro _
   rw [c0, e0]
   have g := h 0 (by decide +kernel)
   have gf : 0 ≤ rd l ((0 : Nat) : Int) ∧ rd l ((0 : Nat) : Int) < 256 := Classical.byContradiction fun hn => by have := fits_no (k := 1) (q := 256) rfl hn; have g1 := g.1; rw [show rd (sizesF 7) ((0 : Nat) : Int) = 1 from rfl] at g1; rw [g1] at this; cases this
   exact ⟨gf, fun hh => absurd hh (by decide), fun hh => absurd hh (by decide)⟩
  ·
   intro _
   rw [c1, e1]
   have g := h 1 (by decide +kernel)
   have gf : 0 ≤ rd l ((1 : Nat) : Int) ∧ rd l ((1 : Nat) : Int) < 256 := Classical.byContradiction fun hn => by have := fits_no (k := 1) (q := 256) rfl hn; have g1 := g.1; rw [show rd (sizesF 7) ((1 : Nat) : Int) = 1 from rfl] at g1; rw [g1] at this; cases this
   exact ⟨gf, fun hh => absurd hh (by decide), fun hh => absurd hh (by decide)⟩
  · intro hh; rw [e2] at hh; exact absurd hh (by decide +kernel)
  ·
   intro _
   rw [c3, e3]
   have g := h 2 (by decide +kernel)
   have gf : 0 ≤ rd l ((2 : Nat) : Int) ∧ rd l ((2 : Nat) : Int) < 256 := Classical.byContradiction fun hn => by have := fits_no (k := 1) (q := 256) rfl hn; have g1 := g.1; rw [show rd (sizesF 7) ((2 : Nat) : Int) = 1 from rfl] at g1; rw [g1] at this; cases this
   exact ⟨gf, fun hh => absurd hh (by decide), fun hh => absurd hh (by decide)⟩
theorem br_8 (l : List Int) : (∀ j, j < (partsF 8).size → okP (partsF 8) l j) ↔ numOK (sizesF 8) (lenF 8) (zeroF 8) l := by
 have e0 : bt (partsF 8) ((0 : Nat) : Int) = 112 := by decide +kernel
 have c0 : cntF (partsF 8) 0 = 0 := by decide +kernel
 have e1 : bt (partsF 8) ((1 : Nat) : Int) = 49 := by decide +kernel
 have c1 : cntF (partsF 8) 1 = 1 := by decide +kernel
 have e2 : bt (partsF 8) ((2 : Nat) : Int) = 52 := by decide +kernel
 have c2 : cntF (partsF 8) 2 = 2 := by decide +kernel
 have e3 : bt (partsF 8) ((3 : Nat) : Int) = 52 := by decide +kernel
 have c3 : cntF (partsF 8) 3 = 3 := by decide +kernel
 have e4 : bt (partsF 8) ((4 : Nat) : Int) = 113 := by decide +kernel
 have c4 : cntF (partsF 8) 4 = 4 := by decide +kernel
 have e5 : bt (partsF 8) ((5 : Nat) : Int) = 97 := by decide +kernel
 have c5 : cntF (partsF 8) 5 = 5 := by decide +kernel
 constructor
 ·
  intro h j hj
  have h0 := h 0 (by decide +kernel)
  unfold okP at h0
  rw [c0, e0] at h0
  replace h0 := h0 (by decide +kernel)
  have h1 := h 1 (by decide +kernel)
  unfold okP at h1
  rw [c1, e1] at h1
  replace h1 := h1 (by decide +kernel)
  have h2 := h 2 (by decide +kernel)
  unfold okP at h2
  rw [c2, e2] at h2
  replace h2 := h2 (by decide +kernel)
  have h3 := h 3 (by decide +kernel)
  unfold okP at h3
  rw [c3, e3] at h3
  replace h3 := h3 (by decide +kernel)
  have h4 := h 4 (by decide +kernel)
  unfold okP at h4
  rw [c4, e4] at h4
  replace h4 := h4 (by decide +kernel)
  have hj2 : j < 5 := hj
  have hjc : j = 0 ∨ j = 1 ∨ j = 2 ∨ j = 3 ∨ j = 4 := by omega
  rcases hjc with rfl | rfl | rfl | rfl | rfl
  · exact ⟨fits_yes (q := 256) rfl (by decide) h0.1, fun hh => h0.2.1 rfl, fun hh => absurd hh (by decide)⟩
  · exact ⟨fits_yes (q := 256) rfl (by decide) h1.1, fun hh => absurd hh (by decide), fun hh => absurd hh (by decide)⟩
  · exact ⟨fits_yes (q := 4294967296) rfl (by decide) h2.1, fun hh => absurd hh (by decide), fun hh => absurd hh (by decide)⟩
  · exact ⟨fits_yes (q := 4294967296) rfl (by decide) h3.1, fun hh => absurd hh (by decide), fun hh => absurd hh (by decide)⟩
  · exact ⟨fits_yes (q := 4294967296) rfl (by decide) h4.1, fun hh => absurd hh (by decide), fun hh => h4.2.2 (Or.inr rfl)⟩
 ·
  intro h j hj
  have hj2 : j < 6 := hj
  have hjc : j = 0 ∨ j = 1 ∨ j = 2 ∨ j = 3 ∨ j = 4 ∨ j = 5 := by omega
  rcases hjc with rfl | rfl | rfl | rfl | rfl | rfl
  ·
   intro _
   rw [c0, e0]
   have g := h 0 (by decide +kernel)
   have gf : 0 ≤ rd l ((0 : Nat) : Int) ∧ rd l ((0 : Nat) : Int) < 256 := Classical.byContradiction fun hn => by have := fits_no (k := 1) (q := 256) rfl hn; have g1 := g.1; rw [show rd (sizesF 8) ((0 : Nat) : Int) = 1 from rfl] at g1; rw [g1] at this; cases this
   exact ⟨gf, fun hh => g.2.1 rfl, fun hh => absurd hh (by decide)⟩
  ·
   intro _
   rw [c1, e1]
   have g := h 1 (by decide +kernel)
   have gf : 0 ≤ rd l ((1 : Nat) : Int) ∧ rd l ((1 : Nat) : Int) < 256 := Classical.byContradiction fun hn => by have := fits_no (k := 1) (q := 256) rfl hn; have g1 := g.1; rw [show rd (sizesF 8) ((1 : Nat) : Int) = 1 from rfl] at g1; rw [g1] at this; cases this
   exact ⟨gf, fun hh => absurd hh (by decide), fun hh => absurd hh (by decide)⟩
  ·
   intro _
   rw [c2, e2]
   have g := h 2 (by decide +kernel)
   have gf : 0 ≤ rd l ((2 : Nat) : Int) ∧ rd l ((2 : Nat) : Int) < 4294967296 := Classical.byContradiction fun hn => by have := fits_no (k := 4) (q := 4294967296) rfl hn; have g1 := g.1; rw [show rd (sizesF 8) ((2 : Nat) : Int) = 4 from rfl] at g1; rw [g1] at this; cases this
   exact ⟨gf, fun hh => absurd hh (by decide), fun hh => absurd hh (by decide)⟩
  ·
   intro _
   rw [c3, e3]
   have g := h 3 (by decide +kernel)
   have gf : 0 ≤ rd l ((3 : Nat) : Int) ∧ rd l ((3 : Nat) : Int) < 4294967296 := Classical.byContradiction fun hn => by have := fits_no (k := 4) (q := 4294967296) rfl hn; have g1 := g.1; rw [show rd (sizesF 8) ((3 : Nat) : Int) = 4 from rfl] at g1; rw [g1] at this; cases this
   exact ⟨gf, fun hh => absurd hh (by decide), fun hh => absurd hh (by decide)⟩
  ·
   intro _
   rw [c4, e4]
   have g := h 4 (by decide +kernel)
   have gf : 0 ≤ rd l ((4 : Nat) : Int) ∧ rd l ((4 : Nat) : Int) < 4294967296 := Classical.byContradiction fun hn => by have := fits_no (k := 4) (q := 4294967296) rfl hn; have g1 := g.1; rw [show rd (sizesF 8) ((4 : Nat) : Int) = 4 from rfl] at g1; rw [g1] at this; cases this
   exact ⟨gf, fun hh => absurd hh (by decide), fun hh => g.2.2 rfl⟩
  · intro hh; rw [e5] at hh; exact absurd hh (by decide +kernel)
theorem br_9 (l : List Int) : (∀ j, j < (partsF 9).size → okP (partsF 9) l j) ↔ numOK (sizesF 9) (lenF 9) (zeroF 9) l := by
 have e0 : bt (partsF 9) ((0 : Nat) : Int) = 52 := by decide +kernel
 have c0 : cntF (partsF 9) 0 = 0 := by decide +kernel
 constructor
 ·
  intro h j hj
  have h0 := h 0 (by decide +kernel)
  unfold okP at h0
  rw [c0, e0] at h0
  replace h0 := h0 (by decide +kernel)
  have hj2 : j < 1 := hj
  have hjc : j = 0 := by omega
  rcases hjc with rfl
  · exact ⟨fits_yes (q := 4294967296) rfl (by decide) h0.1, fun hh => absurd hh (by decide), fun hh => absurd hh (by decide)⟩
 ·
  intro h j hj
  have hj2 : j < 1 := hj
  have hjc : j = 0 := by omega
  rcases hjc with rfl
  ·
   intro _
   rw [c0, e0]
   have g := h 0 (by decide +kernel)
   have gf : 0 ≤ rd l ((0 : Nat) : Int) ∧ rd l ((0 : Nat) : Int) < 4294967296 := Classical.byContradiction fun hn => by have := fits_no (k := 4) (q := 4294967296) rfl hn; have g1 := g.1; rw [show rd (sizesF 9) ((0 : Nat) : Int) = 4 from rfl] at g1; rw [g1] at this; cases this
   exact ⟨gf, fun hh => absurd hh (by decide), fun hh => absurd hh (by decide)⟩
theorem br (k : Nat) (hk : k ≤ 9) (l : List Int) : (∀ j, j < (partsF k).size → okP (partsF k) l j) ↔ numB (sizesF k) (lenF k) (zeroF k) l = true := by
 rw [numB_iff]
 match k, hk with
 | 0, _ => exact br_0 l
 | 1, _ => exact br_1 l
 | 2, _ => exact br_2 l
 | 3, _ => exact br_3 l
 | 4, _ => exact br_4 l
 | 5, _ => exact br_5 l
 | 6, _ => exact br_6 l
 | 7, _ => exact br_7 l
 | 8, _ => exact br_8 l
 | 9, _ => exact br_9 l
theorem R20_15_l : List.range (regOf Try.f20 15).size = [0] := by kernel_rfl
theorem R20_16_l : List.range (regOf Try.f20 16).size = [0] := by kernel_rfl
theorem R20_17_l : List.range (regOf Try.f20 17).size = [0, 1, 2, 3] := by kernel_rfl
theorem R20_19_l : List.range (regOf Try.f20 19).size = [0, 1, 2, 3, 4] := by kernel_rfl
theorem R20_20_l : List.range (regOf Try.f20 20).size = [0, 1, 2, 3, 4, 5] := by kernel_rfl
theorem R20_21_l : List.range (regOf Try.f20 21).size = [0, 1, 2] := by kernel_rfl
theorem R20_22_l : List.range (regOf Try.f20 22).size = [0, 1, 2, 3, 4, 5, 6, 7, 8, 9, 10] := by kernel_rfl
theorem R20_23_l : List.range (regOf Try.f20 23).size = [0, 1, 2, 3, 4, 5, 6, 7, 8, 9, 10, 11, 12, 13, 14, 15, 16, 17, 18, 19, 20, 21, 22, 23, 24, 25, 26, 27] := by kernel_rfl
theorem R20_24_l : List.range (regOf Try.f20 24).size = [0] := by kernel_rfl
theorem R20_18_l : List.range (regOf Try.f20 18).size = [0, 1, 2] := by kernel_rfl
theorem R20_25_l : List.range (regOf Try.f20 25).size = [0, 1, 2, 3] := by kernel_rfl
theorem R20_26_l : List.range (regOf Try.f20 26).size = [0] := by kernel_rfl
theorem R20_27_l : List.range (regOf Try.f20 27).size = [0] := by kernel_rfl
theorem p20_15_0 : pj (regOf Try.f20 15) 0 = some (some 9, .assign (.const (.int .i64 0)), 3, none) := by kernel_rfl
theorem p20_16_0 : pj (regOf Try.f20 16) 0 = some (some 10, .assign (.const (.int .i64 0)), 3, none) := by kernel_rfl
theorem p20_17_0 : pj (regOf Try.f20 17) 0 = some (some 71, .move (.tmp 10), 3, none) := by kernel_rfl
theorem p20_17_1 : pj (regOf Try.f20 17) 1 = some (some 72, .move (.tmp 3), 9, none) := by kernel_rfl
theorem p20_17_2 : pj (regOf Try.f20 17) 2 = some (some 73, .call { callee := .builtin .len, args := #[.tmp 72], argTypes := #[9] }, 3, none) := by kernel_rfl
theorem p20_17_3 : pj (regOf Try.f20 17) 3 = some (some 74, .binOp .lss 3 (.tmp 71) (.tmp 73) 3, 4, none) := by kernel_rfl
theorem p20_19_0 : pj (regOf Try.f20 19) 0 = some (some 77, .move (.tmp 3), 9, none) := by kernel_rfl
theorem p20_19_1 : pj (regOf Try.f20 19) 1 = some (some 78, .move (.tmp 10), 3, none) := by kernel_rfl
theorem p20_19_2 : pj (regOf Try.f20 19) 2 = some (some 79, .index 9 (.tmp 77) (.tmp 78), 5, none) := by kernel_rfl
theorem p20_19_3 : pj (regOf Try.f20 19) 3 = some (some 80, .call { callee := .value (.func 58), args := #[.tmp 79], argTypes := #[5] }, 3, none) := by kernel_rfl
theorem cl58 : callable Try.f58 = true := by kernel_rfl
theorem p20_19_4 : pj (regOf Try.f20 19) 4 = some (some 81, .binOp .eql 3 (.tmp 80) (.const (.int .i64 0)) 3, 4, none) := by kernel_rfl
theorem p20_18_0 : pj (regOf Try.f20 18) 0 = some (some 75, .move (.tmp 10), 3, none) := by kernel_rfl
theorem p20_18_1 : pj (regOf Try.f20 18) 1 = some (some 76, .binOp .add 3 (.tmp 75) (.const (.int .i64 1)) 3, 3, none) := by kernel_rfl
theorem p20_18_2 : pj (regOf Try.f20 18) 2 = some (some 10, .assign (.tmp 76), 3, none) := by kernel_rfl
theorem p20_20_0 : pj (regOf Try.f20 20) 0 = some (some 82, .fieldAddr 45 (.tmp 1) 1, 0, none) := by kernel_rfl
theorem tS42 : (Try.prog.info? 42).map (·.size) = some 1 := by kernel_rfl
theorem p20_20_1 : pj (regOf Try.f20 20) 1 = some (some 83, .load 42 (.tmp 82), 42, none) := by kernel_rfl
theorem tA42 : (Try.prog.underlying 42).map aggD = some false := by kernel_rfl
theorem p20_20_2 : pj (regOf Try.f20 20) 2 = some (some 84, .move (.tmp 9), 3, none) := by kernel_rfl
theorem p20_20_3 : pj (regOf Try.f20 20) 3 = some (some 85, .indexAddr 42 (.tmp 83) (.tmp 84), 0, none) := by kernel_rfl
theorem tS3 : (Try.prog.info? 3).map (·.size) = some 1 := by kernel_rfl
theorem p20_20_4 : pj (regOf Try.f20 20) 4 = some (some 86, .load 3 (.tmp 85), 3, none) := by kernel_rfl
theorem tA3 : (Try.prog.underlying 3).map aggD = some false := by kernel_rfl
theorem p20_20_5 : pj (regOf Try.f20 20) 5 = some (some 11, .assign (.tmp 86), 3, none) := by kernel_rfl
theorem p20_21_0 : pj (regOf Try.f20 21) 0 = some (some 87, .move (.tmp 9), 3, none) := by kernel_rfl
theorem p20_21_1 : pj (regOf Try.f20 21) 1 = some (some 88, .binOp .add 3 (.tmp 87) (.const (.int .i64 1)) 3, 3, none) := by kernel_rfl
theorem p20_21_2 : pj (regOf Try.f20 21) 2 = some (some 9, .assign (.tmp 88), 3, none) := by kernel_rfl
theorem p20_22_0 : pj (regOf Try.f20 22) 0 = some (some 90, .move (.tmp 3), 9, none) := by kernel_rfl
theorem p20_22_1 : pj (regOf Try.f20 22) 1 = some (some 91, .move (.tmp 10), 3, none) := by kernel_rfl
theorem p20_22_2 : pj (regOf Try.f20 22) 2 = some (some 92, .index 9 (.tmp 90) (.tmp 91), 5, none) := by kernel_rfl
theorem p20_22_3 : pj (regOf Try.f20 22) 3 = some (some 93, .call { callee := .value (.func 58), args := #[.tmp 92], argTypes := #[5] }, 3, none) := by kernel_rfl
theorem p20_22_4 : pj (regOf Try.f20 22) 4 = some (some 94, .move (.tmp 11), 3, none) := by kernel_rfl
theorem p20_22_5 : pj (regOf Try.f20 22) 5 = some (some 95, .call { callee := .value (.func 59), args := #[.tmp 93, .tmp 94], argTypes := #[3, 3] }, 121, none) := by kernel_rfl
theorem cl59 : callable Try.f59 = true := by kernel_rfl
theorem p20_22_6 : pj (regOf Try.f20 22) 6 = some (some 89, .move (.tmp 95), 121, none) := by kernel_rfl
theorem p20_22_7 : pj (regOf Try.f20 22) 7 = some (some 96, .extract (.tmp 89) 0, 22, none) := by kernel_rfl
theorem p20_22_8 : pj (regOf Try.f20 22) 8 = some (some 97, .extract (.tmp 89) 1, 4, none) := by kernel_rfl
theorem p20_22_9 : pj (regOf Try.f20 22) 9 = some (some 12, .assign (.tmp 96), 22, none) := by kernel_rfl
theorem p20_22_10 : pj (regOf Try.f20 22) 10 = some (some 13, .assign (.tmp 97), 4, none) := by kernel_rfl
theorem p20_23_0 : pj (regOf Try.f20 23) 0 = some (some 98, .move (.tmp 13), 4, none) := by kernel_rfl
theorem p20_23_1 : pj (regOf Try.f20 23) 1 = some (some 99, .unOp .not 4 (.tmp 98), 4, none) := by kernel_rfl
theorem p20_23_2 : pj (regOf Try.f20 23) 2 = some (some 100, .move (.tmp 99), 4, none) := by kernel_rfl
theorem p20_23_3 : pj (regOf Try.f20 23) 3 = some (some 101, .move (.tmp 3), 9, some (2, false)) := by kernel_rfl
theorem g20_23_2 : dstOf (regOf Try.f20 23) 2 = some 100 := by kernel_rfl
theorem p20_23_4 : pj (regOf Try.f20 23) 4 = some (some 102, .move (.tmp 10), 3, some (2, false)) := by kernel_rfl
theorem p20_23_5 : pj (regOf Try.f20 23) 5 = some (some 103, .index 9 (.tmp 101) (.tmp 102), 5, some (2, false)) := by kernel_rfl
theorem p20_23_6 : pj (regOf Try.f20 23) 6 = some (some 104, .binOp .eql 5 (.tmp 103) (.const (.int .u8 112)) 5, 4, some (2, false)) := by kernel_rfl
theorem p20_23_7 : pj (regOf Try.f20 23) 7 = some (some 105, .move (.tmp 104), 4, some (2, false)) := by kernel_rfl
theorem p20_23_8 : pj (regOf Try.f20 23) 8 = some (some 106, .move (.tmp 11), 3, some (7, true)) := by kernel_rfl
theorem g20_23_7 : dstOf (regOf Try.f20 23) 7 = some 105 := by kernel_rfl
theorem p20_23_9 : pj (regOf Try.f20 23) 9 = some (some 107, .binOp .gtr 3 (.tmp 106) (.const (.int .i64 128)) 3, 4, some (7, true)) := by kernel_rfl
theorem p20_23_10 : pj (regOf Try.f20 23) 10 = some (some 108, .pick (.tmp 105) (.tmp 107) (.const (.bool false)), 4, some (2, false)) := by kernel_rfl
theorem p20_23_11 : pj (regOf Try.f20 23) 11 = some (some 109, .pick (.tmp 100) (.const (.bool true)) (.tmp 108), 4, none) := by kernel_rfl
theorem p20_23_12 : pj (regOf Try.f20 23) 12 = some (some 110, .move (.tmp 109), 4, none) := by kernel_rfl
theorem p20_23_13 : pj (regOf Try.f20 23) 13 = some (some 111, .move (.tmp 3), 9, some (12, false)) := by kernel_rfl
theorem g20_23_12 : dstOf (regOf Try.f20 23) 12 = some 110 := by kernel_rfl
theorem p20_23_14 : pj (regOf Try.f20 23) 14 = some (some 112, .move (.tmp 10), 3, some (12, false)) := by kernel_rfl
theorem p20_23_15 : pj (regOf Try.f20 23) 15 = some (some 113, .index 9 (.tmp 111) (.tmp 112), 5, some (12, false)) := by kernel_rfl
theorem p20_23_16 : pj (regOf Try.f20 23) 16 = some (some 114, .binOp .eql 5 (.tmp 113) (.const (.int .u8 122)) 5, 4, some (12, false)) := by kernel_rfl
theorem p20_23_17 : pj (regOf Try.f20 23) 17 = some (some 115, .move (.tmp 114), 4, some (12, false)) := by kernel_rfl
theorem p20_23_18 : pj (regOf Try.f20 23) 18 = some (some 116, .move (.tmp 3), 9, some (17, false)) := by kernel_rfl
theorem g20_23_17 : dstOf (regOf Try.f20 23) 17 = some 115 := by kernel_rfl
theorem p20_23_19 : pj (regOf Try.f20 23) 19 = some (some 117, .move (.tmp 10), 3, some (17, false)) := by kernel_rfl
theorem p20_23_20 : pj (regOf Try.f20 23) 20 = some (some 118, .index 9 (.tmp 116) (.tmp 117), 5, some (17, false)) := by kernel_rfl
theorem p20_23_21 : pj (regOf Try.f20 23) 21 = some (some 119, .binOp .eql 5 (.tmp 118) (.const (.int .u8 113)) 5, 4, some (17, false)) := by kernel_rfl
theorem p20_23_22 : pj (regOf Try.f20 23) 22 = some (some 120, .pick (.tmp 115) (.const (.bool true)) (.tmp 119), 4, some (12, false)) := by kernel_rfl
theorem p20_23_23 : pj (regOf Try.f20 23) 23 = some (some 121, .move (.tmp 120), 4, some (12, false)) := by kernel_rfl
theorem p20_23_24 : pj (regOf Try.f20 23) 24 = some (some 122, .move (.tmp 11), 3, some (23, true)) := by kernel_rfl
theorem g20_23_23 : dstOf (regOf Try.f20 23) 23 = some 121 := by kernel_rfl
theorem p20_23_25 : pj (regOf Try.f20 23) 25 = some (some 123, .binOp .neq 3 (.tmp 122) (.const (.int .i64 0)) 3, 4, some (23, true)) := by kernel_rfl
theorem p20_23_26 : pj (regOf Try.f20 23) 26 = some (some 124, .pick (.tmp 121) (.tmp 123) (.const (.bool false)), 4, some (12, false)) := by kernel_rfl
theorem p20_23_27 : pj (regOf Try.f20 23) 27 = some (some 125, .pick (.tmp 110) (.const (.bool true)) (.tmp 124), 4, none) := by kernel_rfl
theorem p20_24_0 : pj (regOf Try.f20 24) 0 = some (some 2, .assign (.const (.int .i64 1)), 3, none) := by kernel_rfl
theorem p20_25_0 : pj (regOf Try.f20 25) 0 = some (some 126, .fieldAddr 45 (.tmp 1) 3, 0, none) := by kernel_rfl
theorem tS22 : (Try.prog.info? 22).map (·.size) = some 1 := by kernel_rfl
theorem p20_25_1 : pj (regOf Try.f20 25) 1 = some (some 127, .load 22 (.tmp 126), 22, none) := by kernel_rfl
theorem tA22 : (Try.prog.underlying 22).map aggD = some false := by kernel_rfl
theorem p20_25_2 : pj (regOf Try.f20 25) 2 = some (some 128, .call { callee := .builtin .len, args := #[.tmp 127], argTypes := #[22] }, 3, none) := by kernel_rfl
theorem p20_25_3 : pj (regOf Try.f20 25) 3 = some (some 129, .binOp .gtr 3 (.tmp 128) (.const (.int .i64 64)) 3, 4, none) := by kernel_rfl
theorem p20_26_0 : pj (regOf Try.f20 26) 0 = some (some 2, .assign (.const (.int .i64 2)), 3, none) := by kernel_rfl
theorem p20_27_0 : pj (regOf Try.f20 27) 0 = some (some 2, .assign (.const (.int .i64 0)), 3, none) := by kernel_rfl
set_option maxHeartbeats 4000000 in
theorem rtail (k : Nat) (hk9 : k ≤ 9) (B T : Option Addr) (nb cb tn ct : Nat) (l : List Int) (hly : ∀ i : Int, rd l i ≤ 9223372036854775807) (f : Nat → Int) (w W : World) (gO : Nat) (B_gO : W.heap[gO]? = some (.cells (([Value.int .i64 (k : Int), Value.slice B nb cb] ++ b16 f ++ [Value.slice T tn ct])).toArray 45 (0, 0))) (z_0_gO : w.heap.size ≤ gO) (K_0 : Kp w W (fun _ => False)) (F_B : ∀ W', Kp w W' (fun _ => False) → Kd.C (Kd.int .i64) W' B nb l) (hnb : nb = (sizesF k).length) (n3 : ¬ (¬ nb = (sizesF k).length ∨ (¬ eqL (b16 f) (b16 (fun _ => 0)) = true ∧ ¬ addrF k = true) ∨ (0 < tn ∧ ¬ k = 2))) (a : Act) (hE : En 130 a [(1, Value.pointer (some ⟨gO, 0, none⟩)), (3, Value.string (partsF k))]) : Code.wp Try.prog (.seq (.region 15 (regOf Try.f20 15) false) (.seq (.seq (.region 16 (regOf Try.f20 16) false) (.block 2 (.loop (.seq (.seq (.region 17 (regOf Try.f20 17) false) (.cond (Operand.tmp 74) (.skip) (.exit 2))) (.seq (.block 3 (.seq (.seq (.region 19 (regOf Try.f20 19) false) (.cond (Operand.tmp 81) (.exit 3) (.skip))) (.seq (.region 20 (regOf Try.f20 20) false) (.seq (.region 21 (regOf Try.f20 21) false) (.seq (.region 22 (regOf Try.f20 22) false) (.seq (.region 23 (regOf Try.f20 23) false) (.cond (Operand.tmp 125) (.seq (.region 24 (regOf Try.f20 24) false) (.ret)) (.skip)))))))) (.region 18 (regOf Try.f20 18) false)))))) (.seq (.seq (.region 25 (regOf Try.f20 25) false) (.cond (Operand.tmp 129) (.seq (.region 26 (regOf Try.f20 26) false) (.ret)) (.skip))) (.seq (.region 27 (regOf Try.f20 27) false) (.ret))))) (bodyPost Try.prog Try.f20 (fun e w' => e = .returned (.int .i64 (chkO (k : Int) nb l f tn)) ∧ Kp w w' (fun _ => False))) a W := by
 obtain ⟨pf1, pf2, pf3, pf4, pf5⟩ := parts_facts k hk9
 have e39 : eqL (b16 f) (b16 f) = eqL (b16 f) (b16 f) := rfl
 refine c_reg R20_15_l ?_
 refine q0 p20_15_0 hE (st_assign rfl) ?_; clear hE a; intro a hE
 refine p_nil (x_norm (wp_seq (c_reg R20_16_l ?_)))
 refine q0 p20_16_0 hE (st_assign rfl) ?_; clear hE a; intro a hE
 refine p_nil (x_norm (wp_block ?_))
 refine c_loop (α := Nat) (fun i a W => En 130 a [(1, Value.pointer (some ⟨gO, 0, none⟩)), (3, Value.string (partsF k)), (10, Value.int .i64 (i : Int)), (9, Value.int .i64 (cntF (partsF k) i : Int))] ∧ i ≤ (partsF k).size ∧ (∀ j, j < i → okP (partsF k) l j) ∧ W.heap[gO]? = some (.cells (([Value.int .i64 (k : Int), Value.slice B nb cb] ++ b16 f ++ [Value.slice T tn ct])).toArray 45 (0, 0)) ∧ Kp w W (fun _ => False)) (fun i => (partsF k).size - i) (0) ?_ ?_
 ·
  exact ⟨En.sub hE ⟨rfl, rfl, rfl, rfl, trivial⟩, Nat.zero_le _, fun j hj => absurd hj (Nat.not_lt_zero j), B_gO, K_0⟩
 ·
  clear hE a
  rintro i a w1 ⟨hE, hi9, hall, B_gO, K_0⟩
  have hcl := cnt_le (partsF k) i
  refine wp_seq (c_reg R20_17_l ?_)
  refine q0 p20_17_0 hE (st_move rfl) ?_; clear hE a; intro a hE
  refine q0 p20_17_1 hE (st_move rfl) ?_; clear hE a; intro a hE
  refine q0 p20_17_2 hE (st_lenS Try.underlying9 rfl) ?_; clear hE a; intro a hE
  rcases Decidable.em ((i : Int) < ((partsF k).size : Int)) with hc2 | hc2
  ·
   refine p_cons (s_still (v := Value.bool true) p20_17_3 hE wn_none rfl (st_lss rfl rfl (decide_eq_true hc2)) ?_); clear hE a; intro a hE
   refine p_nil (x_norm ?_)
   refine c_cond (t := true) hE rfl ?_
   refine wp_skip (x_norm (wp_seq (wp_block (wp_seq ?_))))
   have hsz9 := szF_cases (bt (partsF k) (i : Int))
   have hci := fun (hz : ¬ szF (bt (partsF k) (i : Int)) = 0) => cnt_lt (s := partsF k) (i := i) (n := (partsF k).size) (by omega) (by omega)
   rw [pf1] at hci
   refine c_reg R20_19_l ?_
   refine q0 p20_19_0 hE (st_move rfl) ?_; clear hE a; intro a hE
   refine q0 p20_19_1 hE (st_move rfl) ?_; clear hE a; intro a hE
   refine q0 p20_19_2 hE (st_indexS (i := i) Try.underlying9 rfl rfl (by omega)) ?_; clear hE a; intro a hE
   refine p_cons (s_call (xs := [Operand.tmp 79]) (args := [Value.int .u8 (bt (partsF k) (i : Int))]) p20_19_3 hE wn_none rfl rfl Try.func58 cl58 (size_any (bt (partsF k) (i : Int)) _) ?_)
   rintro e w3 ⟨rfl, hk⟩
   replace B_gO := kp_blk B_gO hk (fun h => h)
   replace K_0 := K_0.then_ hk (fun _ h => h.elim)
   refine ⟨_, rfl, ?_⟩; clear hE a; intro a hE
   rcases Decidable.em ((szF (bt (partsF k) (i : Int))) = 0) with hc4 | hc4
   ·
    refine p_cons (s_still (v := Value.bool true) p20_19_4 hE wn_none rfl (st_eql rfl rfl (decide_eq_true hc4)) ?_); clear hE a; intro a hE
    refine p_nil (x_norm ?_)
    refine c_cond (t := true) hE rfl ?_
    refine wp_exit (x_exit (x_in (x_norm (c_regL R20_18_l ?_))))
    refine q0 p20_18_0 hE (st_move rfl) ?_; clear hE a; intro a hE
    refine q0 p20_18_1 hE (st_add (z := (i : Int) + 1) rfl rfl (wr_i64 _ (by omega) (by omega))) ?_; clear hE a; intro a hE
    refine q0 p20_18_2 hE (st_assign rfl) ?_; clear hE a; intro a hE
    refine p_nil (x_norm ?_)
    have e9 : cntF (partsF k) (i + 1) = cntF (partsF k) i := cnt_not (by omega)
    have hok9 : okP (partsF k) l i := fun h => by omega
    exact ⟨i + 1, by omega, En.sub hE ⟨rfl, rfl, rfl, (by rw [e9]; rfl), trivial⟩, by omega, fun j hj => by rcases Nat.lt_succ_iff_lt_or_eq.1 hj with h | h; exact hall j h; rw [h]; exact hok9, B_gO, K_0⟩
   ·
    refine p_cons (s_still (v := Value.bool false) p20_19_4 hE wn_none rfl (st_eql rfl rfl (decide_eq_false hc4)) ?_); clear hE a; intro a hE
    refine p_nil (x_norm ?_)
    refine c_cond (t := false) hE rfl ?_
    refine wp_skip (x_norm ?_)
    have hci2 := hci (by omega)
    refine c_reg R20_20_l ?_
    refine q0 p20_20_0 hE (st_fieldAddr Try.underlying45 rfl tS42 rfl rfl) ?_; clear hE a; intro a hE
    refine q0 p20_20_1 hE (st_load1 tA42 rfl ((blk_cell B_gO 1).trans rfl)) ?_; clear hE a; intro a hE
    refine q0 p20_20_2 hE (st_move rfl) ?_; clear hE a; intro a hE
    refine q0 p20_20_3 hE (st_indexAddrC (i := cntF (partsF k) i) Try.underlying42 tS3 (F_B _ K_0) rfl rfl (by omega)) ?_; clear hE a; intro a hE
    refine q0 (v := Value.int .i64 (rd l (cntF (partsF k) i : Int))) p20_20_4 hE (st_loadC (i := cntF (partsF k) i) tA3 (F_B _ K_0) (by omega) rfl) ?_; clear hE a; intro a hE
    refine q0 p20_20_5 hE (st_assign rfl) ?_; clear hE a; intro a hE
    refine p_nil (x_norm (c_reg R20_21_l ?_))
    refine q0 p20_21_0 hE (st_move rfl) ?_; clear hE a; intro a hE
    refine q0 p20_21_1 hE (st_add (z := (cntF (partsF k) i : Int) + 1) rfl rfl (wr_i64 _ (by omega) (by omega))) ?_; clear hE a; intro a hE
    refine q0 p20_21_2 hE (st_assign rfl) ?_; clear hE a; intro a hE
    refine p_nil (x_norm (c_reg R20_22_l ?_))
    refine q0 p20_22_0 hE (st_move rfl) ?_; clear hE a; intro a hE
    refine q0 p20_22_1 hE (st_move rfl) ?_; clear hE a; intro a hE
    refine q0 p20_22_2 hE (st_indexS (i := i) Try.underlying9 rfl rfl (by omega)) ?_; clear hE a; intro a hE
    refine p_cons (s_call (xs := [Operand.tmp 92]) (args := [Value.int .u8 (bt (partsF k) (i : Int))]) p20_22_3 hE wn_none rfl rfl Try.func58 cl58 (size_any (bt (partsF k) (i : Int)) _) ?_)
    rintro e w5 ⟨rfl, hk⟩
    replace B_gO := kp_blk B_gO hk (fun h => h)
    replace K_0 := K_0.then_ hk (fun _ h => h.elim)
    refine ⟨_, rfl, ?_⟩; clear hE a; intro a hE
    refine q0 p20_22_4 hE (st_move rfl) ?_; clear hE a; intro a hE
    refine p_cons (s_call (xs := [Operand.tmp 93, Operand.tmp 94]) (args := [Value.int .i64 (szF (bt (partsF k) (i : Int))), Value.int .i64 (rd l (cntF (partsF k) i : Int))]) p20_22_5 hE wn_none rfl rfl Try.func59 cl59 (dig_sz (bt (partsF k) (i : Int)) (rd l (cntF (partsF k) i : Int)) (by omega) (hly _) _) ?_)
    rintro e w6 ⟨A9, n9, c9, rfl, _, hk⟩
    replace B_gO := kp_blk B_gO hk (fun h => h)
    replace K_0 := K_0.then_ hk (fun _ h => h.elim)
    refine ⟨_, rfl, ?_⟩; clear hE a; intro a hE
    refine q0 p20_22_6 hE (st_move rfl) ?_; clear hE a; intro a hE
    refine q0 p20_22_7 hE (st_extract rfl rfl) ?_; clear hE a; intro a hE
    refine q0 p20_22_8 hE (st_extract rfl rfl) ?_; clear hE a; intro a hE
    refine q0 p20_22_9 hE (st_assign rfl) ?_; clear hE a; intro a hE
    refine q0 p20_22_10 hE (st_assign rfl) ?_; clear hE a; intro a hE
    refine p_nil (x_norm (c_reg R20_23_l ?_))
    refine q0 p20_23_0 hE (st_move rfl) ?_; clear hE a; intro a hE
    refine q0 p20_23_1 hE (st_not rfl rfl) ?_; clear hE a; intro a hE
    refine q0 p20_23_2 hE (st_move rfl) ?_; clear hE a; intro a hE
    rcases Bool.eq_false_or_eq_true (decide (0 ≤ (rd l (cntF (partsF k) i : Int)) ∧ (rd l (cntF (partsF k) i : Int)) < spanF (szF (bt (partsF k) (i : Int))))) with hb7 | hb7
    ·
     rw [hb7] at hE
     have hb7P := of_decide_eq_true hb7
     refine p_cons (s_still p20_23_3 hE (wn_some g20_23_2 rfl rfl) rfl (st_move rfl) ?_); clear hE a; intro a hE
     refine p_cons (s_still p20_23_4 hE (wn_some g20_23_2 rfl rfl) rfl (st_move rfl) ?_); clear hE a; intro a hE
     refine p_cons (s_still p20_23_5 hE (wn_some g20_23_2 rfl rfl) rfl (st_indexS (i := i) Try.underlying9 rfl rfl (by omega)) ?_); clear hE a; intro a hE
     rcases Decidable.em ((bt (partsF k) (i : Int)) = 112) with hc8 | hc8
     ·
      refine p_cons (s_still (v := Value.bool true) p20_23_6 hE (wn_some g20_23_2 rfl rfl) rfl (st_eql rfl rfl (decide_eq_true hc8)) ?_); clear hE a; intro a hE
      refine p_cons (s_still p20_23_7 hE (wn_some g20_23_2 rfl rfl) rfl (st_move rfl) ?_); clear hE a; intro a hE
      refine p_cons (s_still p20_23_8 hE (wn_some g20_23_7 rfl rfl) rfl (st_move rfl) ?_); clear hE a; intro a hE
      rcases Decidable.em (128 < (rd l (cntF (partsF k) i : Int))) with hc9 | hc9
      ·
       refine p_cons (s_still (v := Value.bool true) p20_23_9 hE (wn_some g20_23_7 rfl rfl) rfl (st_gtr rfl rfl (decide_eq_true hc9)) ?_); clear hE a; intro a hE
       refine p_cons (s_still p20_23_10 hE (wn_some g20_23_2 rfl rfl) rfl (st_pick rfl rfl) ?_); clear hE a; intro a hE
       refine q0 p20_23_11 hE (st_pick rfl rfl) ?_; clear hE a; intro a hE
       refine q0 p20_23_12 hE (st_move rfl) ?_; clear hE a; intro a hE
       refine p_cons (s_skip p20_23_13 hE (wn_some g20_23_12 rfl rfl) rfl ?_); clear hE a; intro a hE
       refine p_cons (s_skip p20_23_14 hE (wn_some g20_23_12 rfl rfl) rfl ?_); clear hE a; intro a hE
       refine p_cons (s_skip p20_23_15 hE (wn_some g20_23_12 rfl rfl) rfl ?_); clear hE a; intro a hE
       refine p_cons (s_skip p20_23_16 hE (wn_some g20_23_12 rfl rfl) rfl ?_); clear hE a; intro a hE
       refine p_cons (s_skip p20_23_17 hE (wn_some g20_23_12 rfl rfl) rfl ?_); clear hE a; intro a hE
       refine p_cons (s_skip p20_23_18 hE (wn_undef g20_23_17 rfl) rfl ?_); clear hE a; intro a hE
       refine p_cons (s_skip p20_23_19 hE (wn_undef g20_23_17 rfl) rfl ?_); clear hE a; intro a hE
       refine p_cons (s_skip p20_23_20 hE (wn_undef g20_23_17 rfl) rfl ?_); clear hE a; intro a hE
       refine p_cons (s_skip p20_23_21 hE (wn_undef g20_23_17 rfl) rfl ?_); clear hE a; intro a hE
       refine p_cons (s_skip p20_23_22 hE (wn_some g20_23_12 rfl rfl) rfl ?_); clear hE a; intro a hE
       refine p_cons (s_skip p20_23_23 hE (wn_some g20_23_12 rfl rfl) rfl ?_); clear hE a; intro a hE
       refine p_cons (s_skip p20_23_24 hE (wn_undef g20_23_23 rfl) rfl ?_); clear hE a; intro a hE
       refine p_cons (s_skip p20_23_25 hE (wn_undef g20_23_23 rfl) rfl ?_); clear hE a; intro a hE
       refine p_cons (s_skip p20_23_26 hE (wn_some g20_23_12 rfl rfl) rfl ?_); clear hE a; intro a hE
       refine q0 p20_23_27 hE (st_pick rfl rfl) ?_; clear hE a; intro a hE
       refine p_nil (x_norm ?_)
       refine c_cond (t := true) hE rfl ?_
       refine c_reg R20_24_l ?_
       refine q0 p20_24_0 hE (st_assign rfl) ?_; clear hE a; intro a hE
       refine p_nil (x_norm (wp_ret (x_retB (x_ret (x_ret (x_retB (x_ret ?_)))))))
       refine ret_one (v := Value.int .i64 1) rfl hE (.tmp rfl .nil) ?_
       have ec : chkO (k : Int) nb l f tn = chkF k nb l f tn := by unfold chkO; rw [if_pos ⟨by omega, by omega⟩]; rfl
       have hNB : ¬ numB (sizesF k) (lenF k) (zeroF k) l = true := fun H => by
        have h9 := (br k hk9 l).2 H i (by omega) (by omega)
        exact (by have := h9.2.1 hc8; omega)
       exact ⟨by rw [ec]; unfold chkF; rw [if_neg n3, if_pos hNB], K_0⟩
      ·
       refine p_cons (s_still (v := Value.bool false) p20_23_9 hE (wn_some g20_23_7 rfl rfl) rfl (st_gtr rfl rfl (decide_eq_false hc9)) ?_); clear hE a; intro a hE
       refine p_cons (s_still p20_23_10 hE (wn_some g20_23_2 rfl rfl) rfl (st_pick rfl rfl) ?_); clear hE a; intro a hE
       refine q0 p20_23_11 hE (st_pick rfl rfl) ?_; clear hE a; intro a hE
       refine q0 p20_23_12 hE (st_move rfl) ?_; clear hE a; intro a hE
       refine p_cons (s_still p20_23_13 hE (wn_some g20_23_12 rfl rfl) rfl (st_move rfl) ?_); clear hE a; intro a hE
       refine p_cons (s_still p20_23_14 hE (wn_some g20_23_12 rfl rfl) rfl (st_move rfl) ?_); clear hE a; intro a hE
       refine p_cons (s_still p20_23_15 hE (wn_some g20_23_12 rfl rfl) rfl (st_indexS (i := i) Try.underlying9 rfl rfl (by omega)) ?_); clear hE a; intro a hE
       refine p_cons (s_still p20_23_16 hE (wn_some g20_23_12 rfl rfl) rfl (st_eql (b := false) rfl rfl (decide_eq_false (by omega))) ?_); clear hE a; intro a hE
       refine p_cons (s_still p20_23_17 hE (wn_some g20_23_12 rfl rfl) rfl (st_move rfl) ?_); clear hE a; intro a hE
       refine p_cons (s_still p20_23_18 hE (wn_some g20_23_17 rfl rfl) rfl (st_move rfl) ?_); clear hE a; intro a hE
       refine p_cons (s_still p20_23_19 hE (wn_some g20_23_17 rfl rfl) rfl (st_move rfl) ?_); clear hE a; intro a hE
       refine p_cons (s_still p20_23_20 hE (wn_some g20_23_17 rfl rfl) rfl (st_indexS (i := i) Try.underlying9 rfl rfl (by omega)) ?_); clear hE a; intro a hE
       refine p_cons (s_still p20_23_21 hE (wn_some g20_23_17 rfl rfl) rfl (st_eql (b := false) rfl rfl (decide_eq_false (by omega))) ?_); clear hE a; intro a hE
       refine p_cons (s_still p20_23_22 hE (wn_some g20_23_12 rfl rfl) rfl (st_pick rfl rfl) ?_); clear hE a; intro a hE
       refine p_cons (s_still p20_23_23 hE (wn_some g20_23_12 rfl rfl) rfl (st_move rfl) ?_); clear hE a; intro a hE
       refine p_cons (s_skip p20_23_24 hE (wn_some g20_23_23 rfl rfl) rfl ?_); clear hE a; intro a hE
       refine p_cons (s_skip p20_23_25 hE (wn_some g20_23_23 rfl rfl) rfl ?_); clear hE a; intro a hE
       refine p_cons (s_still p20_23_26 hE (wn_some g20_23_12 rfl rfl) rfl (st_pick rfl rfl) ?_); clear hE a; intro a hE
       refine q0 p20_23_27 hE (st_pick rfl rfl) ?_; clear hE a; intro a hE
       refine p_nil (x_norm ?_)
       refine c_cond (t := false) hE rfl ?_
       refine wp_skip (x_normB (x_norm (c_regL R20_18_l ?_)))
       refine q0 p20_18_0 hE (st_move rfl) ?_; clear hE a; intro a hE
       refine q0 p20_18_1 hE (st_add (z := (i : Int) + 1) rfl rfl (wr_i64 _ (by omega) (by omega))) ?_; clear hE a; intro a hE
       refine q0 p20_18_2 hE (st_assign rfl) ?_; clear hE a; intro a hE
       refine p_nil (x_norm ?_)
       have e9 : cntF (partsF k) (i + 1) = cntF (partsF k) i + 1 := cnt_yes (by omega)
       have hok9 : okP (partsF k) l i := fun _ => ⟨of_decide_eq_true hb7, fun h => by omega, fun h => absurd h (by omega)⟩
       exact ⟨i + 1, by omega, En.sub hE ⟨rfl, rfl, rfl, (by rw [e9]; rfl), trivial⟩, by omega, fun j hj => by rcases Nat.lt_succ_iff_lt_or_eq.1 hj with h | h; exact hall j h; rw [h]; exact hok9, B_gO, K_0⟩
     ·
      refine p_cons (s_still (v := Value.bool false) p20_23_6 hE (wn_some g20_23_2 rfl rfl) rfl (st_eql rfl rfl (decide_eq_false hc8)) ?_); clear hE a; intro a hE
      refine p_cons (s_still p20_23_7 hE (wn_some g20_23_2 rfl rfl) rfl (st_move rfl) ?_); clear hE a; intro a hE
      refine p_cons (s_skip p20_23_8 hE (wn_some g20_23_7 rfl rfl) rfl ?_); clear hE a; intro a hE
      refine p_cons (s_skip p20_23_9 hE (wn_some g20_23_7 rfl rfl) rfl ?_); clear hE a; intro a hE
      refine p_cons (s_still p20_23_10 hE (wn_some g20_23_2 rfl rfl) rfl (st_pick rfl rfl) ?_); clear hE a; intro a hE
      refine q0 p20_23_11 hE (st_pick rfl rfl) ?_; clear hE a; intro a hE
      refine q0 p20_23_12 hE (st_move rfl) ?_; clear hE a; intro a hE
      refine p_cons (s_still p20_23_13 hE (wn_some g20_23_12 rfl rfl) rfl (st_move rfl) ?_); clear hE a; intro a hE
      refine p_cons (s_still p20_23_14 hE (wn_some g20_23_12 rfl rfl) rfl (st_move rfl) ?_); clear hE a; intro a hE
      refine p_cons (s_still p20_23_15 hE (wn_some g20_23_12 rfl rfl) rfl (st_indexS (i := i) Try.underlying9 rfl rfl (by omega)) ?_); clear hE a; intro a hE
      rcases Decidable.em ((bt (partsF k) (i : Int)) = 122) with hc10 | hc10
      ·
       refine p_cons (s_still (v := Value.bool true) p20_23_16 hE (wn_some g20_23_12 rfl rfl) rfl (st_eql rfl rfl (decide_eq_true hc10)) ?_); clear hE a; intro a hE
       refine p_cons (s_still p20_23_17 hE (wn_some g20_23_12 rfl rfl) rfl (st_move rfl) ?_); clear hE a; intro a hE
       refine p_cons (s_skip p20_23_18 hE (wn_some g20_23_17 rfl rfl) rfl ?_); clear hE a; intro a hE
       refine p_cons (s_skip p20_23_19 hE (wn_some g20_23_17 rfl rfl) rfl ?_); clear hE a; intro a hE
       refine p_cons (s_skip p20_23_20 hE (wn_some g20_23_17 rfl rfl) rfl ?_); clear hE a; intro a hE
       refine p_cons (s_skip p20_23_21 hE (wn_some g20_23_17 rfl rfl) rfl ?_); clear hE a; intro a hE
       refine p_cons (s_still p20_23_22 hE (wn_some g20_23_12 rfl rfl) rfl (st_pick rfl rfl) ?_); clear hE a; intro a hE
       refine p_cons (s_still p20_23_23 hE (wn_some g20_23_12 rfl rfl) rfl (st_move rfl) ?_); clear hE a; intro a hE
       refine p_cons (s_still p20_23_24 hE (wn_some g20_23_23 rfl rfl) rfl (st_move rfl) ?_); clear hE a; intro a hE
       rcases Decidable.em ((rd l (cntF (partsF k) i : Int)) = 0) with hc11 | hc11
       ·
        refine p_cons (s_still (v := Value.bool false) p20_23_25 hE (wn_some g20_23_23 rfl rfl) rfl (st_neq rfl rfl (by rw [decide_eq_true hc11]; rfl)) ?_); clear hE a; intro a hE
        refine p_cons (s_still p20_23_26 hE (wn_some g20_23_12 rfl rfl) rfl (st_pick rfl rfl) ?_); clear hE a; intro a hE
        refine q0 p20_23_27 hE (st_pick rfl rfl) ?_; clear hE a; intro a hE
        refine p_nil (x_norm ?_)
        refine c_cond (t := false) hE rfl ?_
        refine wp_skip (x_normB (x_norm (c_regL R20_18_l ?_)))
        refine q0 p20_18_0 hE (st_move rfl) ?_; clear hE a; intro a hE
        refine q0 p20_18_1 hE (st_add (z := (i : Int) + 1) rfl rfl (wr_i64 _ (by omega) (by omega))) ?_; clear hE a; intro a hE
        refine q0 p20_18_2 hE (st_assign rfl) ?_; clear hE a; intro a hE
        refine p_nil (x_norm ?_)
        have e9 : cntF (partsF k) (i + 1) = cntF (partsF k) i + 1 := cnt_yes (by omega)
        have hok9 : okP (partsF k) l i := fun _ => ⟨of_decide_eq_true hb7, fun h => absurd h hc8, fun h => hc11⟩
        exact ⟨i + 1, by omega, En.sub hE ⟨rfl, rfl, rfl, (by rw [e9]; rfl), trivial⟩, by omega, fun j hj => by rcases Nat.lt_succ_iff_lt_or_eq.1 hj with h | h; exact hall j h; rw [h]; exact hok9, B_gO, K_0⟩
       ·
        refine p_cons (s_still (v := Value.bool true) p20_23_25 hE (wn_some g20_23_23 rfl rfl) rfl (st_neq rfl rfl (by rw [decide_eq_false hc11]; rfl)) ?_); clear hE a; intro a hE
        refine p_cons (s_still p20_23_26 hE (wn_some g20_23_12 rfl rfl) rfl (st_pick rfl rfl) ?_); clear hE a; intro a hE
        refine q0 p20_23_27 hE (st_pick rfl rfl) ?_; clear hE a; intro a hE
        refine p_nil (x_norm ?_)
        refine c_cond (t := true) hE rfl ?_
        refine c_reg R20_24_l ?_
        refine q0 p20_24_0 hE (st_assign rfl) ?_; clear hE a; intro a hE
        refine p_nil (x_norm (wp_ret (x_retB (x_ret (x_ret (x_retB (x_ret ?_)))))))
        refine ret_one (v := Value.int .i64 1) rfl hE (.tmp rfl .nil) ?_
        have ec : chkO (k : Int) nb l f tn = chkF k nb l f tn := by unfold chkO; rw [if_pos ⟨by omega, by omega⟩]; rfl
        have hNB : ¬ numB (sizesF k) (lenF k) (zeroF k) l = true := fun H => by
         have h9 := (br k hk9 l).2 H i (by omega) (by omega)
         exact hc11 (h9.2.2 (by omega))
        exact ⟨by rw [ec]; unfold chkF; rw [if_neg n3, if_pos hNB], K_0⟩
      ·
       refine p_cons (s_still (v := Value.bool false) p20_23_16 hE (wn_some g20_23_12 rfl rfl) rfl (st_eql rfl rfl (decide_eq_false hc10)) ?_); clear hE a; intro a hE
       refine p_cons (s_still p20_23_17 hE (wn_some g20_23_12 rfl rfl) rfl (st_move rfl) ?_); clear hE a; intro a hE
       refine p_cons (s_still p20_23_18 hE (wn_some g20_23_17 rfl rfl) rfl (st_move rfl) ?_); clear hE a; intro a hE
       refine p_cons (s_still p20_23_19 hE (wn_some g20_23_17 rfl rfl) rfl (st_move rfl) ?_); clear hE a; intro a hE
       refine p_cons (s_still p20_23_20 hE (wn_some g20_23_17 rfl rfl) rfl (st_indexS (i := i) Try.underlying9 rfl rfl (by omega)) ?_); clear hE a; intro a hE
       rcases Decidable.em ((bt (partsF k) (i : Int)) = 113) with hc12 | hc12
       ·
        refine p_cons (s_still (v := Value.bool true) p20_23_21 hE (wn_some g20_23_17 rfl rfl) rfl (st_eql rfl rfl (decide_eq_true hc12)) ?_); clear hE a; intro a hE
        refine p_cons (s_still p20_23_22 hE (wn_some g20_23_12 rfl rfl) rfl (st_pick rfl rfl) ?_); clear hE a; intro a hE
        refine p_cons (s_still p20_23_23 hE (wn_some g20_23_12 rfl rfl) rfl (st_move rfl) ?_); clear hE a; intro a hE
        refine p_cons (s_still p20_23_24 hE (wn_some g20_23_23 rfl rfl) rfl (st_move rfl) ?_); clear hE a; intro a hE
        rcases Decidable.em ((rd l (cntF (partsF k) i : Int)) = 0) with hc13 | hc13
        ·
         refine p_cons (s_still (v := Value.bool false) p20_23_25 hE (wn_some g20_23_23 rfl rfl) rfl (st_neq rfl rfl (by rw [decide_eq_true hc13]; rfl)) ?_); clear hE a; intro a hE
         refine p_cons (s_still p20_23_26 hE (wn_some g20_23_12 rfl rfl) rfl (st_pick rfl rfl) ?_); clear hE a; intro a hE
         refine q0 p20_23_27 hE (st_pick rfl rfl) ?_; clear hE a; intro a hE
         refine p_nil (x_norm ?_)
         refine c_cond (t := false) hE rfl ?_
         refine wp_skip (x_normB (x_norm (c_regL R20_18_l ?_)))
         refine q0 p20_18_0 hE (st_move rfl) ?_; clear hE a; intro a hE
         refine q0 p20_18_1 hE (st_add (z := (i : Int) + 1) rfl rfl (wr_i64 _ (by omega) (by omega))) ?_; clear hE a; intro a hE
         refine q0 p20_18_2 hE (st_assign rfl) ?_; clear hE a; intro a hE
         refine p_nil (x_norm ?_)
         have e9 : cntF (partsF k) (i + 1) = cntF (partsF k) i + 1 := cnt_yes (by omega)
         have hok9 : okP (partsF k) l i := fun _ => ⟨of_decide_eq_true hb7, fun h => absurd h hc8, fun h => hc13⟩
         exact ⟨i + 1, by omega, En.sub hE ⟨rfl, rfl, rfl, (by rw [e9]; rfl), trivial⟩, by omega, fun j hj => by rcases Nat.lt_succ_iff_lt_or_eq.1 hj with h | h; exact hall j h; rw [h]; exact hok9, B_gO, K_0⟩
        ·
         refine p_cons (s_still (v := Value.bool true) p20_23_25 hE (wn_some g20_23_23 rfl rfl) rfl (st_neq rfl rfl (by rw [decide_eq_false hc13]; rfl)) ?_); clear hE a; intro a hE
         refine p_cons (s_still p20_23_26 hE (wn_some g20_23_12 rfl rfl) rfl (st_pick rfl rfl) ?_); clear hE a; intro a hE
         refine q0 p20_23_27 hE (st_pick rfl rfl) ?_; clear hE a; intro a hE
         refine p_nil (x_norm ?_)
         refine c_cond (t := true) hE rfl ?_
         refine c_reg R20_24_l ?_
         refine q0 p20_24_0 hE (st_assign rfl) ?_; clear hE a; intro a hE
         refine p_nil (x_norm (wp_ret (x_retB (x_ret (x_ret (x_retB (x_ret ?_)))))))
         refine ret_one (v := Value.int .i64 1) rfl hE (.tmp rfl .nil) ?_
         have ec : chkO (k : Int) nb l f tn = chkF k nb l f tn := by unfold chkO; rw [if_pos ⟨by omega, by omega⟩]; rfl
         have hNB : ¬ numB (sizesF k) (lenF k) (zeroF k) l = true := fun H => by
          have h9 := (br k hk9 l).2 H i (by omega) (by omega)
          exact hc13 (h9.2.2 (by omega))
         exact ⟨by rw [ec]; unfold chkF; rw [if_neg n3, if_pos hNB], K_0⟩
       ·
        refine p_cons (s_still (v := Value.bool false) p20_23_21 hE (wn_some g20_23_17 rfl rfl) rfl (st_eql rfl rfl (decide_eq_false hc12)) ?_); clear hE a; intro a hE
        refine p_cons (s_still p20_23_22 hE (wn_some g20_23_12 rfl rfl) rfl (st_pick rfl rfl) ?_); clear hE a; intro a hE
        refine p_cons (s_still p20_23_23 hE (wn_some g20_23_12 rfl rfl) rfl (st_move rfl) ?_); clear hE a; intro a hE
        refine p_cons (s_skip p20_23_24 hE (wn_some g20_23_23 rfl rfl) rfl ?_); clear hE a; intro a hE
        refine p_cons (s_skip p20_23_25 hE (wn_some g20_23_23 rfl rfl) rfl ?_); clear hE a; intro a hE
        refine p_cons (s_still p20_23_26 hE (wn_some g20_23_12 rfl rfl) rfl (st_pick rfl rfl) ?_); clear hE a; intro a hE
        refine q0 p20_23_27 hE (st_pick rfl rfl) ?_; clear hE a; intro a hE
        refine p_nil (x_norm ?_)
        refine c_cond (t := false) hE rfl ?_
        refine wp_skip (x_normB (x_norm (c_regL R20_18_l ?_)))
        refine q0 p20_18_0 hE (st_move rfl) ?_; clear hE a; intro a hE
        refine q0 p20_18_1 hE (st_add (z := (i : Int) + 1) rfl rfl (wr_i64 _ (by omega) (by omega))) ?_; clear hE a; intro a hE
        refine q0 p20_18_2 hE (st_assign rfl) ?_; clear hE a; intro a hE
        refine p_nil (x_norm ?_)
        have e9 : cntF (partsF k) (i + 1) = cntF (partsF k) i + 1 := cnt_yes (by omega)
        have hok9 : okP (partsF k) l i := fun _ => ⟨of_decide_eq_true hb7, fun h => absurd h hc8, fun h => absurd h (by omega)⟩
        exact ⟨i + 1, by omega, En.sub hE ⟨rfl, rfl, rfl, (by rw [e9]; rfl), trivial⟩, by omega, fun j hj => by rcases Nat.lt_succ_iff_lt_or_eq.1 hj with h | h; exact hall j h; rw [h]; exact hok9, B_gO, K_0⟩
    ·
     rw [hb7] at hE
     have hb7P := of_decide_eq_false hb7
     refine p_cons (s_skip p20_23_3 hE (wn_some g20_23_2 rfl rfl) rfl ?_); clear hE a; intro a hE
     refine p_cons (s_skip p20_23_4 hE (wn_some g20_23_2 rfl rfl) rfl ?_); clear hE a; intro a hE
     refine p_cons (s_skip p20_23_5 hE (wn_some g20_23_2 rfl rfl) rfl ?_); clear hE a; intro a hE
     refine p_cons (s_skip p20_23_6 hE (wn_some g20_23_2 rfl rfl) rfl ?_); clear hE a; intro a hE
     refine p_cons (s_skip p20_23_7 hE (wn_some g20_23_2 rfl rfl) rfl ?_); clear hE a; intro a hE
     refine p_cons (s_skip p20_23_8 hE (wn_undef g20_23_7 rfl) rfl ?_); clear hE a; intro a hE
     refine p_cons (s_skip p20_23_9 hE (wn_undef g20_23_7 rfl) rfl ?_); clear hE a; intro a hE
     refine p_cons (s_skip p20_23_10 hE (wn_some g20_23_2 rfl rfl) rfl ?_); clear hE a; intro a hE
     refine q0 p20_23_11 hE (st_pick rfl rfl) ?_; clear hE a; intro a hE
     refine q0 p20_23_12 hE (st_move rfl) ?_; clear hE a; intro a hE
     refine p_cons (s_skip p20_23_13 hE (wn_some g20_23_12 rfl rfl) rfl ?_); clear hE a; intro a hE
     refine p_cons (s_skip p20_23_14 hE (wn_some g20_23_12 rfl rfl) rfl ?_); clear hE a; intro a hE
     refine p_cons (s_skip p20_23_15 hE (wn_some g20_23_12 rfl rfl) rfl ?_); clear hE a; intro a hE
     refine p_cons (s_skip p20_23_16 hE (wn_some g20_23_12 rfl rfl) rfl ?_); clear hE a; intro a hE
     refine p_cons (s_skip p20_23_17 hE (wn_some g20_23_12 rfl rfl) rfl ?_); clear hE a; intro a hE
     refine p_cons (s_skip p20_23_18 hE (wn_undef g20_23_17 rfl) rfl ?_); clear hE a; intro a hE
     refine p_cons (s_skip p20_23_19 hE (wn_undef g20_23_17 rfl) rfl ?_); clear hE a; intro a hE
     refine p_cons (s_skip p20_23_20 hE (wn_undef g20_23_17 rfl) rfl ?_); clear hE a; intro a hE
     refine p_cons (s_skip p20_23_21 hE (wn_undef g20_23_17 rfl) rfl ?_); clear hE a; intro a hE
     refine p_cons (s_skip p20_23_22 hE (wn_some g20_23_12 rfl rfl) rfl ?_); clear hE a; intro a hE
     refine p_cons (s_skip p20_23_23 hE (wn_some g20_23_12 rfl rfl) rfl ?_); clear hE a; intro a hE
     refine p_cons (s_skip p20_23_24 hE (wn_undef g20_23_23 rfl) rfl ?_); clear hE a; intro a hE
     refine p_cons (s_skip p20_23_25 hE (wn_undef g20_23_23 rfl) rfl ?_); clear hE a; intro a hE
     refine p_cons (s_skip p20_23_26 hE (wn_some g20_23_12 rfl rfl) rfl ?_); clear hE a; intro a hE
     refine q0 p20_23_27 hE (st_pick rfl rfl) ?_; clear hE a; intro a hE
     refine p_nil (x_norm ?_)
     refine c_cond (t := true) hE rfl ?_
     refine c_reg R20_24_l ?_
     refine q0 p20_24_0 hE (st_assign rfl) ?_; clear hE a; intro a hE
     refine p_nil (x_norm (wp_ret (x_retB (x_ret (x_ret (x_retB (x_ret ?_)))))))
     refine ret_one (v := Value.int .i64 1) rfl hE (.tmp rfl .nil) ?_
     have ec : chkO (k : Int) nb l f tn = chkF k nb l f tn := by unfold chkO; rw [if_pos ⟨by omega, by omega⟩]; rfl
     have hNB : ¬ numB (sizesF k) (lenF k) (zeroF k) l = true := fun H => by
      have h9 := (br k hk9 l).2 H i (by omega) (by omega)
      exact (of_decide_eq_false hb7) h9.1
     exact ⟨by rw [ec]; unfold chkF; rw [if_neg n3, if_pos hNB], K_0⟩
  ·
   refine p_cons (s_still (v := Value.bool false) p20_17_3 hE wn_none rfl (st_lss rfl rfl (decide_eq_false hc2)) ?_); clear hE a; intro a hE
   refine p_nil (x_norm ?_)
   refine c_cond (t := false) hE rfl ?_
   refine wp_exit (x_exit (x_exit ?_))
   obtain rfl : i = (partsF k).size := by omega
   refine x_in (x_norm (wp_seq (c_reg R20_25_l ?_)))
   refine q0 p20_25_0 hE (st_fieldAddr Try.underlying45 rfl tS22 rfl rfl) ?_; clear hE a; intro a hE
   refine q0 p20_25_1 hE (st_load1 tA22 rfl ((blk_cell B_gO 18).trans rfl)) ?_; clear hE a; intro a hE
   refine q0 p20_25_2 hE (st_len Try.underlying22 rfl) ?_; clear hE a; intro a hE
   rcases Decidable.em (64 < (tn : Int)) with hc14 | hc14
   ·
    refine p_cons (s_still (v := Value.bool true) p20_25_3 hE wn_none rfl (st_gtr rfl rfl (decide_eq_true hc14)) ?_); clear hE a; intro a hE
    refine p_nil (x_norm ?_)
    refine c_cond (t := true) hE rfl ?_
    refine c_reg R20_26_l ?_
    refine q0 p20_26_0 hE (st_assign rfl) ?_; clear hE a; intro a hE
    refine p_nil (x_norm (wp_ret (x_ret ?_)))
    refine ret_one (v := Value.int .i64 2) rfl hE (.tmp rfl .nil) ?_
    have ec : chkO (k : Int) nb l f tn = chkF k nb l f tn := by unfold chkO; rw [if_pos ⟨by omega, by omega⟩]; rfl
    have hNB : numB (sizesF k) (lenF k) (zeroF k) l = true := (br k hk9 l).1 hall
    exact ⟨by rw [ec]; unfold chkF; rw [if_neg n3, if_neg (fun h => h hNB), if_pos (by omega)], K_0⟩
   ·
    refine p_cons (s_still (v := Value.bool false) p20_25_3 hE wn_none rfl (st_gtr rfl rfl (decide_eq_false hc14)) ?_); clear hE a; intro a hE
    refine p_nil (x_norm ?_)
    refine c_cond (t := false) hE rfl ?_
    refine wp_skip (x_norm (c_reg R20_27_l ?_))
    refine q0 p20_27_0 hE (st_assign rfl) ?_; clear hE a; intro a hE
    refine p_nil (x_norm (wp_ret ?_))
    refine ret_one (v := Value.int .i64 0) rfl hE (.tmp rfl .nil) ?_
    have ec : chkO (k : Int) nb l f tn = chkF k nb l f tn := by unfold chkO; rw [if_pos ⟨by omega, by omega⟩]; rfl
    have hNB : numB (sizesF k) (lenF k) (zeroF k) l = true := (br k hk9 l).1 hall
    exact ⟨by rw [ec]; unfold chkF; rw [if_neg n3, if_neg (fun h => h hNB), if_neg (by omega)], K_0⟩
theorem R20_0_l : List.range (regOf Try.f20 0).size = [0, 1] := by kernel_rfl
theorem R20_1_l : List.range (regOf Try.f20 1).size = [0, 1, 2, 3] := by kernel_rfl
theorem R20_2_l : List.range (regOf Try.f20 2).size = [0, 1] := by kernel_rfl
theorem R20_3_l : List.range (regOf Try.f20 3).size = [0] := by kernel_rfl
theorem R20_4_l : List.range (regOf Try.f20 4).size = [0, 1, 2] := by kernel_rfl
theorem R20_5_l : List.range (regOf Try.f20 5).size = [0] := by kernel_rfl
theorem R20_6_l : List.range (regOf Try.f20 6).size = [0, 1, 2, 3] := by kernel_rfl
theorem R20_8_l : List.range (regOf Try.f20 8).size = [0, 1, 2, 3, 4] := by kernel_rfl
theorem R20_9_l : List.range (regOf Try.f20 9).size = [0, 1, 2] := by kernel_rfl
theorem R20_10_l : List.range (regOf Try.f20 10).size = [0, 1, 2, 3, 4, 5, 6, 7] := by kernel_rfl
theorem R20_11_l : List.range (regOf Try.f20 11).size = [0, 1, 2, 3, 4, 5, 6, 7] := by kernel_rfl
theorem R20_7_l : List.range (regOf Try.f20 7).size = [0, 1, 2] := by kernel_rfl
theorem R20_12_l : List.range (regOf Try.f20 12).size = [0] := by kernel_rfl
theorem R20_13_l : List.range (regOf Try.f20 13).size = [0, 1, 2, 3, 4, 5, 6, 7, 8, 9, 10, 11, 12, 13, 14, 15, 16, 17, 18, 19, 20, 21, 22, 23, 24] := by kernel_rfl
theorem R20_14_l : List.range (regOf Try.f20 14).size = [0] := by kernel_rfl
theorem body20 : Try.f20.body = some (.seq (.region 0 (regOf Try.f20 0) false) (.seq (.region 1 (regOf Try.f20 1) false) (.seq (.seq (.region 2 (regOf Try.f20 2) false) (.cond (Operand.tmp 18) (.seq (.region 3 (regOf Try.f20 3) false) (.ret)) (.skip))) (.seq (.region 4 (regOf Try.f20 4) false) (.seq (.seq (.region 5 (regOf Try.f20 5) false) (.block 0 (.loop (.seq (.seq (.region 6 (regOf Try.f20 6) false) (.cond (Operand.tmp 22) (.skip) (.exit 0))) (.seq (.block 1 (.seq (.seq (.region 8 (regOf Try.f20 8) false) (.cond (Operand.tmp 29) (.region 9 (regOf Try.f20 9) false) (.skip))) (.seq (.region 10 (regOf Try.f20 10) false) (.region 11 (regOf Try.f20 11) false)))) (.region 7 (regOf Try.f20 7) false)))))) (.seq (.region 12 (regOf Try.f20 12) false) (.seq (.seq (.region 13 (regOf Try.f20 13) false) (.cond (Operand.tmp 70) (.seq (.region 14 (regOf Try.f20 14) false) (.ret)) (.skip))) (.seq (.region 15 (regOf Try.f20 15) false) (.seq (.seq (.region 16 (regOf Try.f20 16) false) (.block 2 (.loop (.seq (.seq (.region 17 (regOf Try.f20 17) false) (.cond (Operand.tmp 74) (.skip) (.exit 2))) (.seq (.block 3 (.seq (.seq (.region 19 (regOf Try.f20 19) false) (.cond (Operand.tmp 81) (.exit 3) (.skip))) (.seq (.region 20 (regOf Try.f20 20) false) (.seq (.region 21 (regOf Try.f20 21) false) (.seq (.region 22 (regOf Try.f20 22) false) (.seq (.region 23 (regOf Try.f20 23) false) (.cond (Operand.tmp 125) (.seq (.region 24 (regOf Try.f20 24) false) (.ret)) (.skip)))))))) (.region 18 (regOf Try.f20 18) false)))))) (.seq (.seq (.region 25 (regOf Try.f20 25) false) (.cond (Operand.tmp 129) (.seq (.region 26 (regOf Try.f20 26) false) (.ret)) (.skip))) (.seq (.region 27 (regOf Try.f20 27) false) (.ret)))))))))))) := by kernel_rfl
theorem p20_0_0 : pj (regOf Try.f20 0) 0 = some (some 1, .box 45 (.tmp 0), 0, none) := by kernel_rfl
theorem p20_0_1 : pj (regOf Try.f20 0) 1 = some (some 2, .assign (.const (.int .i64 0)), 3, none) := by kernel_rfl
theorem p20_1_0 : pj (regOf Try.f20 1) 0 = some (some 14, .fieldAddr 45 (.tmp 1) 0, 0, none) := by kernel_rfl
theorem p20_1_1 : pj (regOf Try.f20 1) 1 = some (some 15, .load 3 (.tmp 14), 3, none) := by kernel_rfl
theorem p20_1_2 : pj (regOf Try.f20 1) 2 = some (some 16, .call { callee := .value (.func 53), args := #[.tmp 15], argTypes := #[3] }, 9, none) := by kernel_rfl
theorem cl53 : callable Try.f53 = true := by kernel_rfl
theorem p20_1_3 : pj (regOf Try.f20 1) 3 = some (some 3, .assign (.tmp 16), 9, none) := by kernel_rfl
theorem p20_2_0 : pj (regOf Try.f20 2) 0 = some (some 17, .move (.tmp 3), 9, none) := by kernel_rfl
theorem p20_2_1 : pj (regOf Try.f20 2) 1 = some (some 18, .binOp .eql 9 (.tmp 17) (.const (.string { data := #[63] })) 9, 4, none) := by kernel_rfl
theorem p20_4_0 : pj (regOf Try.f20 4) 0 = some (some 4, .assign (.const (.int .i64 0)), 3, none) := by kernel_rfl
theorem p20_4_1 : pj (regOf Try.f20 4) 1 = some (some 5, .assign (.const (.bool false)), 4, none) := by kernel_rfl
theorem p20_4_2 : pj (regOf Try.f20 4) 2 = some (some 6, .assign (.const (.bool false)), 4, none) := by kernel_rfl
theorem p20_5_0 : pj (regOf Try.f20 5) 0 = some (some 7, .assign (.const (.int .i64 0)), 3, none) := by kernel_rfl
theorem p20_6_0 : pj (regOf Try.f20 6) 0 = some (some 19, .move (.tmp 7), 3, none) := by kernel_rfl
theorem p20_6_1 : pj (regOf Try.f20 6) 1 = some (some 20, .move (.tmp 3), 9, none) := by kernel_rfl
theorem p20_6_2 : pj (regOf Try.f20 6) 2 = some (some 21, .call { callee := .builtin .len, args := #[.tmp 20], argTypes := #[9] }, 3, none) := by kernel_rfl
theorem p20_6_3 : pj (regOf Try.f20 6) 3 = some (some 22, .binOp .lss 3 (.tmp 19) (.tmp 21) 3, 4, none) := by kernel_rfl
theorem p20_8_0 : pj (regOf Try.f20 8) 0 = some (some 25, .move (.tmp 3), 9, none) := by kernel_rfl
theorem p20_8_1 : pj (regOf Try.f20 8) 1 = some (some 26, .move (.tmp 7), 3, none) := by kernel_rfl
theorem p20_8_2 : pj (regOf Try.f20 8) 2 = some (some 27, .index 9 (.tmp 25) (.tmp 26), 5, none) := by kernel_rfl
theorem p20_8_3 : pj (regOf Try.f20 8) 3 = some (some 28, .call { callee := .value (.func 58), args := #[.tmp 27], argTypes := #[5] }, 3, none) := by kernel_rfl
theorem p20_8_4 : pj (regOf Try.f20 8) 4 = some (some 29, .binOp .gtr 3 (.tmp 28) (.const (.int .i64 0)) 3, 4, none) := by kernel_rfl
theorem p20_9_0 : pj (regOf Try.f20 9) 0 = some (some 30, .move (.tmp 4), 3, none) := by kernel_rfl
theorem p20_9_1 : pj (regOf Try.f20 9) 1 = some (some 31, .binOp .add 3 (.tmp 30) (.const (.int .i64 1)) 3, 3, none) := by kernel_rfl
theorem p20_9_2 : pj (regOf Try.f20 9) 2 = some (some 4, .assign (.tmp 31), 3, none) := by kernel_rfl
theorem p20_10_0 : pj (regOf Try.f20 10) 0 = some (some 32, .move (.tmp 5), 4, none) := by kernel_rfl
theorem p20_10_1 : pj (regOf Try.f20 10) 1 = some (some 33, .move (.tmp 32), 4, none) := by kernel_rfl
theorem p20_10_2 : pj (regOf Try.f20 10) 2 = some (some 34, .move (.tmp 3), 9, some (1, false)) := by kernel_rfl
theorem g20_10_1 : dstOf (regOf Try.f20 10) 1 = some 33 := by kernel_rfl
theorem p20_10_3 : pj (regOf Try.f20 10) 3 = some (some 35, .move (.tmp 7), 3, some (1, false)) := by kernel_rfl
theorem p20_10_4 : pj (regOf Try.f20 10) 4 = some (some 36, .index 9 (.tmp 34) (.tmp 35), 5, some (1, false)) := by kernel_rfl
theorem p20_10_5 : pj (regOf Try.f20 10) 5 = some (some 37, .binOp .eql 5 (.tmp 36) (.const (.int .u8 97)) 5, 4, some (1, false)) := by kernel_rfl
theorem p20_10_6 : pj (regOf Try.f20 10) 6 = some (some 38, .pick (.tmp 33) (.const (.bool true)) (.tmp 37), 4, none) := by kernel_rfl
theorem p20_10_7 : pj (regOf Try.f20 10) 7 = some (some 5, .assign (.tmp 38), 4, none) := by kernel_rfl
theorem p20_11_0 : pj (regOf Try.f20 11) 0 = some (some 39, .move (.tmp 6), 4, none) := by kernel_rfl
theorem p20_11_1 : pj (regOf Try.f20 11) 1 = some (some 40, .move (.tmp 39), 4, none) := by kernel_rfl
theorem p20_11_2 : pj (regOf Try.f20 11) 2 = some (some 41, .move (.tmp 3), 9, some (1, false)) := by kernel_rfl
theorem g20_11_1 : dstOf (regOf Try.f20 11) 1 = some 40 := by kernel_rfl
theorem p20_11_3 : pj (regOf Try.f20 11) 3 = some (some 42, .move (.tmp 7), 3, some (1, false)) := by kernel_rfl
theorem p20_11_4 : pj (regOf Try.f20 11) 4 = some (some 43, .index 9 (.tmp 41) (.tmp 42), 5, some (1, false)) := by kernel_rfl
theorem p20_11_5 : pj (regOf Try.f20 11) 5 = some (some 44, .binOp .eql 5 (.tmp 43) (.const (.int .u8 116)) 5, 4, some (1, false)) := by kernel_rfl
theorem p20_11_6 : pj (regOf Try.f20 11) 6 = some (some 45, .pick (.tmp 40) (.const (.bool true)) (.tmp 44), 4, none) := by kernel_rfl
theorem p20_11_7 : pj (regOf Try.f20 11) 7 = some (some 6, .assign (.tmp 45), 4, none) := by kernel_rfl
theorem p20_7_0 : pj (regOf Try.f20 7) 0 = some (some 23, .move (.tmp 7), 3, none) := by kernel_rfl
theorem p20_7_1 : pj (regOf Try.f20 7) 1 = some (some 24, .binOp .add 3 (.tmp 23) (.const (.int .i64 1)) 3, 3, none) := by kernel_rfl
theorem p20_7_2 : pj (regOf Try.f20 7) 2 = some (some 7, .assign (.tmp 24), 3, none) := by kernel_rfl
theorem p20_12_0 : pj (regOf Try.f20 12) 0 = some (some 8, .alloc 43, 0, none) := by kernel_rfl
theorem tZ43 : (Try.prog.info? 43).bind (·.zero) = some (Value.agg (b16 (fun _ => 0)).toArray) := by kernel_rfl
theorem p20_13_0 : pj (regOf Try.f20 13) 0 = some (some 46, .fieldAddr 45 (.tmp 1) 1, 0, none) := by kernel_rfl
theorem p20_13_1 : pj (regOf Try.f20 13) 1 = some (some 47, .load 42 (.tmp 46), 42, none) := by kernel_rfl
theorem p20_13_2 : pj (regOf Try.f20 13) 2 = some (some 48, .call { callee := .builtin .len, args := #[.tmp 47], argTypes := #[42] }, 3, none) := by kernel_rfl
theorem p20_13_3 : pj (regOf Try.f20 13) 3 = some (some 49, .move (.tmp 4), 3, none) := by kernel_rfl
theorem p20_13_4 : pj (regOf Try.f20 13) 4 = some (some 50, .binOp .neq 3 (.tmp 48) (.tmp 49) 3, 4, none) := by kernel_rfl
theorem p20_13_5 : pj (regOf Try.f20 13) 5 = some (some 51, .move (.tmp 50), 4, none) := by kernel_rfl
theorem p20_13_6 : pj (regOf Try.f20 13) 6 = some (some 52, .fieldAddr 45 (.tmp 1) 2, 0, some (5, false)) := by kernel_rfl
theorem g20_13_5 : dstOf (regOf Try.f20 13) 5 = some 51 := by kernel_rfl
theorem tS43 : (Try.prog.info? 43).map (·.size) = some 16 := by kernel_rfl
theorem p20_13_7 : pj (regOf Try.f20 13) 7 = some (some 53, .load 43 (.tmp 52), 43, some (5, false)) := by kernel_rfl
theorem tA43 : (Try.prog.underlying 43).map aggD = some true := by kernel_rfl
theorem p20_13_8 : pj (regOf Try.f20 13) 8 = some (some 54, .load 43 (.tmp 8), 43, some (5, false)) := by kernel_rfl
theorem p20_13_9 : pj (regOf Try.f20 13) 9 = some (some 55, .binOp .neq 43 (.tmp 53) (.tmp 54) 43, 4, some (5, false)) := by kernel_rfl
theorem eg43 : Try.prog.eqGuardType Try.prog.depth 43 = false := by kernel_rfl
theorem p20_13_10 : pj (regOf Try.f20 13) 10 = some (some 56, .move (.tmp 55), 4, some (5, false)) := by kernel_rfl
theorem p20_13_11 : pj (regOf Try.f20 13) 11 = some (some 57, .move (.tmp 5), 4, some (10, true)) := by kernel_rfl
theorem g20_13_10 : dstOf (regOf Try.f20 13) 10 = some 56 := by kernel_rfl
theorem p20_13_12 : pj (regOf Try.f20 13) 12 = some (some 58, .unOp .not 4 (.tmp 57), 4, some (10, true)) := by kernel_rfl
theorem p20_13_13 : pj (regOf Try.f20 13) 13 = some (some 59, .pick (.tmp 56) (.tmp 58) (.const (.bool false)), 4, some (5, false)) := by kernel_rfl
theorem p20_13_14 : pj (regOf Try.f20 13) 14 = some (some 60, .pick (.tmp 51) (.const (.bool true)) (.tmp 59), 4, none) := by kernel_rfl
theorem p20_13_15 : pj (regOf Try.f20 13) 15 = some (some 61, .move (.tmp 60), 4, none) := by kernel_rfl
theorem p20_13_16 : pj (regOf Try.f20 13) 16 = some (some 62, .fieldAddr 45 (.tmp 1) 3, 0, some (15, false)) := by kernel_rfl
theorem g20_13_15 : dstOf (regOf Try.f20 13) 15 = some 61 := by kernel_rfl
theorem p20_13_17 : pj (regOf Try.f20 13) 17 = some (some 63, .load 22 (.tmp 62), 22, some (15, false)) := by kernel_rfl
theorem p20_13_18 : pj (regOf Try.f20 13) 18 = some (some 64, .call { callee := .builtin .len, args := #[.tmp 63], argTypes := #[22] }, 3, some (15, false)) := by kernel_rfl
theorem p20_13_19 : pj (regOf Try.f20 13) 19 = some (some 65, .binOp .gtr 3 (.tmp 64) (.const (.int .i64 0)) 3, 4, some (15, false)) := by kernel_rfl
theorem p20_13_20 : pj (regOf Try.f20 13) 20 = some (some 66, .move (.tmp 65), 4, some (15, false)) := by kernel_rfl
theorem p20_13_21 : pj (regOf Try.f20 13) 21 = some (some 67, .move (.tmp 6), 4, some (20, true)) := by kernel_rfl
theorem g20_13_20 : dstOf (regOf Try.f20 13) 20 = some 66 := by kernel_rfl
theorem p20_13_22 : pj (regOf Try.f20 13) 22 = some (some 68, .unOp .not 4 (.tmp 67), 4, some (20, true)) := by kernel_rfl
theorem p20_13_23 : pj (regOf Try.f20 13) 23 = some (some 69, .pick (.tmp 66) (.tmp 68) (.const (.bool false)), 4, some (15, false)) := by kernel_rfl
theorem p20_13_24 : pj (regOf Try.f20 13) 24 = some (some 70, .pick (.tmp 61) (.const (.bool true)) (.tmp 69), 4, none) := by kernel_rfl
theorem p20_14_0 : pj (regOf Try.f20 14) 0 = some (some 2, .assign (.const (.int .i64 3)), 3, none) := by kernel_rfl
theorem p20_3_0 : pj (regOf Try.f20 3) 0 = some (some 2, .assign (.const (.int .i64 6)), 3, none) := by kernel_rfl
set_option maxHeartbeats 4000000 in
theorem rcheck_any (kk : Int) (B T : Option Addr) (nb cb tn ct : Nat) (l : List Int) (hly : ∀ i : Int, rd l i ≤ 9223372036854775807) (f : Nat → Int) (w : World) (F_B : ∀ W', Kp w W' (fun _ => False) → Kd.C (Kd.int .i64) W' B nb l) : Calls Try.prog 20 #[Value.agg (([Value.int .i64 kk, Value.slice B nb cb] ++ b16 f ++ [Value.slice T tn ct])).toArray] w fun e w' => e = .returned (.int .i64 (chkO kk nb l f tn)) ∧ Kp w w' (fun _ => False) := by
 have K_0 := Kp.refl w (fun _ => False)
 refine enter (args := [Value.agg (([Value.int .i64 kk, Value.slice B nb cb] ++ b16 f ++ [Value.slice T tn ct])).toArray]) (n := 130) Try.func20 body20 rfl rfl rfl ?_
 intro a hE
 refine c_reg R20_0_l ?_
 refine p_cons (s_box p20_0_0 hE wn_none rfl rfl ?_)
 clear hE a; intro g1 w2 z3 B_g1 hk a hE
 replace B_g1 : w2.heap[g1]? = some (.cells (([Value.int .i64 kk, Value.slice B nb cb] ++ b16 f ++ [Value.slice T tn ct])).toArray 45 (0, 0)) := B_g1
 have z_0_g1 := Nat.le_trans K_0.kept.1 z3
 replace K_0 := K_0.then_ hk (fun _ h => h.elim)
 clear hk
 refine q0 p20_0_1 hE (st_assign rfl) ?_; clear hE a; intro a hE
 refine p_nil (x_norm ?_)
 rcases Decidable.em (0 ≤ kk ∧ kk ≤ 9) with hKN | hKN
 ·
  obtain ⟨k, rfl⟩ : ∃ k : Nat, kk = (k : Int) := ⟨kk.toNat, by omega⟩
  have hk9 : k ≤ 9 := by omega
  obtain ⟨pf1, pf2, pf3, pf4, pf5⟩ := parts_facts k hk9
  refine c_reg R20_1_l ?_
  refine q0 p20_1_0 hE (st_fieldAddr Try.underlying45 rfl tS3 rfl rfl) ?_; clear hE a; intro a hE
  refine q0 p20_1_1 hE (st_load1 tA3 rfl ((blk_cell B_g1 0).trans rfl)) ?_; clear hE a; intro a hE
  refine p_cons (s_call (xs := [Operand.tmp 15]) (args := [Value.int .i64 (k : Int)]) p20_1_2 hE wn_none rfl rfl Try.func53 cl53 (parts_ok k hk9 _) ?_)
  rintro e w4 ⟨rfl, hk⟩
  replace B_g1 := kp_blk B_g1 hk (fun h => h)
  replace K_0 := K_0.then_ hk (fun _ h => h.elim)
  refine ⟨_, rfl, ?_⟩; clear hE a; intro a hE
  refine q0 p20_1_3 hE (st_assign rfl) ?_; clear hE a; intro a hE
  refine p_nil (x_norm (wp_seq (c_reg R20_2_l ?_)))
  refine q0 p20_2_0 hE (st_move rfl) ?_; clear hE a; intro a hE
  refine q0 p20_2_1 hE (st_eqlS (b := false) rfl rfl (parts_facts k hk9).2.2.2.2) ?_; clear hE a; intro a hE
  refine p_nil (x_norm ?_)
  refine c_cond (t := false) hE rfl ?_
  refine wp_skip (x_norm (c_reg R20_4_l ?_))
  refine q0 p20_4_0 hE (st_assign rfl) ?_; clear hE a; intro a hE
  refine q0 p20_4_1 hE (st_assign rfl) ?_; clear hE a; intro a hE
  refine q0 p20_4_2 hE (st_assign rfl) ?_; clear hE a; intro a hE
  refine p_nil (x_norm (wp_seq (c_reg R20_5_l ?_)))
  refine q0 p20_5_0 hE (st_assign rfl) ?_; clear hE a; intro a hE
  refine p_nil (x_norm (wp_block ?_))
  refine c_loop (α := Nat) (fun i a W => En 130 a [(0, Value.agg (([Value.int .i64 (k : Int), Value.slice B nb cb] ++ b16 f ++ [Value.slice T tn ct])).toArray), (1, Value.pointer (some ⟨g1, 0, none⟩)), (2, Value.int .i64 0), (3, Value.string (partsF k)), (18, Value.bool false), (7, Value.int .i64 (i : Int)), (4, Value.int .i64 (cntF (partsF k) i : Int)), (5, Value.bool (hasF (partsF k) 97 i)), (6, Value.bool (hasF (partsF k) 116 i))] ∧ i ≤ (partsF k).size ∧ W.heap[g1]? = some (.cells (([Value.int .i64 (k : Int), Value.slice B nb cb] ++ b16 f ++ [Value.slice T tn ct])).toArray 45 (0, 0)) ∧ Kp w W (fun _ => False)) (fun i => (partsF k).size - i) (0) ?_ ?_
  ·
   exact ⟨En.sub hE ⟨rfl, rfl, rfl, rfl, rfl, rfl, rfl, rfl, rfl, trivial⟩, Nat.zero_le _, B_g1, K_0⟩
  ·
   clear hE a
   rintro i a w5 ⟨hE, hi9, B_g1, K_0⟩
   have hcl := cnt_le (partsF k) i
   refine wp_seq (c_reg R20_6_l ?_)
   refine q0 p20_6_0 hE (st_move rfl) ?_; clear hE a; intro a hE
   refine q0 p20_6_1 hE (st_move rfl) ?_; clear hE a; intro a hE
   refine q0 p20_6_2 hE (st_lenS Try.underlying9 rfl) ?_; clear hE a; intro a hE
   rcases Decidable.em ((i : Int) < ((partsF k).size : Int)) with hc6 | hc6
   ·
    refine p_cons (s_still (v := Value.bool true) p20_6_3 hE wn_none rfl (st_lss rfl rfl (decide_eq_true hc6)) ?_); clear hE a; intro a hE
    refine p_nil (x_norm ?_)
    refine c_cond (t := true) hE rfl ?_
    refine wp_skip (x_norm (wp_seq (wp_block (wp_seq (c_reg R20_8_l ?_)))))
    refine q0 p20_8_0 hE (st_move rfl) ?_; clear hE a; intro a hE
    refine q0 p20_8_1 hE (st_move rfl) ?_; clear hE a; intro a hE
    refine q0 p20_8_2 hE (st_indexS (i := i) Try.underlying9 rfl rfl (by omega)) ?_; clear hE a; intro a hE
    refine p_cons (s_call (xs := [Operand.tmp 27]) (args := [Value.int .u8 (bt (partsF k) (i : Int))]) p20_8_3 hE wn_none rfl rfl Try.func58 cl58 (size_any (bt (partsF k) (i : Int)) _) ?_)
    rintro e w7 ⟨rfl, hk⟩
    replace B_g1 := kp_blk B_g1 hk (fun h => h)
    replace K_0 := K_0.then_ hk (fun _ h => h.elim)
    refine ⟨_, rfl, ?_⟩; clear hE a; intro a hE
    rcases Decidable.em (0 < (szF (bt (partsF k) (i : Int)))) with hc8 | hc8
    ·
     refine p_cons (s_still (v := Value.bool true) p20_8_4 hE wn_none rfl (st_gtr rfl rfl (decide_eq_true hc8)) ?_); clear hE a; intro a hE
     refine p_nil (x_norm ?_)
     refine c_cond (t := true) hE rfl ?_
     refine c_regL R20_9_l ?_
     refine q0 p20_9_0 hE (st_move rfl) ?_; clear hE a; intro a hE
     refine q0 p20_9_1 hE (st_add (z := (cntF (partsF k) i : Int) + 1) rfl rfl (wr_i64 _ (by omega) (by omega))) ?_; clear hE a; intro a hE
     refine q0 p20_9_2 hE (st_assign rfl) ?_; clear hE a; intro a hE
     refine p_nil (x_norm (c_reg R20_10_l ?_))
     refine q0 p20_10_0 hE (st_move rfl) ?_; clear hE a; intro a hE
     refine q0 p20_10_1 hE (st_move rfl) ?_; clear hE a; intro a hE
     rcases Bool.eq_false_or_eq_true (hasF (partsF k) 97 i) with hb9 | hb9
     ·
      rw [hb9] at hE
      refine p_cons (s_skip p20_10_2 hE (wn_some g20_10_1 rfl rfl) rfl ?_); clear hE a; intro a hE
      refine p_cons (s_skip p20_10_3 hE (wn_some g20_10_1 rfl rfl) rfl ?_); clear hE a; intro a hE
      refine p_cons (s_skip p20_10_4 hE (wn_some g20_10_1 rfl rfl) rfl ?_); clear hE a; intro a hE
      refine p_cons (s_skip p20_10_5 hE (wn_some g20_10_1 rfl rfl) rfl ?_); clear hE a; intro a hE
      refine q0 p20_10_6 hE (st_pick rfl rfl) ?_; clear hE a; intro a hE
      refine q0 p20_10_7 hE (st_assign rfl) ?_; clear hE a; intro a hE
      refine p_nil (x_norm (c_regL R20_11_l ?_))
      refine q0 p20_11_0 hE (st_move rfl) ?_; clear hE a; intro a hE
      refine q0 p20_11_1 hE (st_move rfl) ?_; clear hE a; intro a hE
      rcases Bool.eq_false_or_eq_true (hasF (partsF k) 116 i) with hb10 | hb10
      ·
       rw [hb10] at hE
       refine p_cons (s_skip p20_11_2 hE (wn_some g20_11_1 rfl rfl) rfl ?_); clear hE a; intro a hE
       refine p_cons (s_skip p20_11_3 hE (wn_some g20_11_1 rfl rfl) rfl ?_); clear hE a; intro a hE
       refine p_cons (s_skip p20_11_4 hE (wn_some g20_11_1 rfl rfl) rfl ?_); clear hE a; intro a hE
       refine p_cons (s_skip p20_11_5 hE (wn_some g20_11_1 rfl rfl) rfl ?_); clear hE a; intro a hE
       refine q0 p20_11_6 hE (st_pick rfl rfl) ?_; clear hE a; intro a hE
       refine q0 p20_11_7 hE (st_assign rfl) ?_; clear hE a; intro a hE
       refine p_nil (x_normB (x_norm (c_regL R20_7_l ?_)))
       refine q0 p20_7_0 hE (st_move rfl) ?_; clear hE a; intro a hE
       refine q0 p20_7_1 hE (st_add (z := (i : Int) + 1) rfl rfl (wr_i64 _ (by omega) (by omega))) ?_; clear hE a; intro a hE
       refine q0 p20_7_2 hE (st_assign rfl) ?_; clear hE a; intro a hE
       refine p_nil (x_norm ?_)
       have e4 : cntF (partsF k) (i + 1) = cntF (partsF k) i + 1 := cnt_yes (by omega)
       have e5 : hasF (partsF k) 97 (i + 1) = true := by rw [has_succ, hb9]; simp
       have e6 : hasF (partsF k) 116 (i + 1) = true := by rw [has_succ, hb10]; simp
       exact ⟨i + 1, by omega, En.sub hE ⟨rfl, rfl, rfl, rfl, rfl, rfl, (by rw [e4]; rfl), (by rw [e5]; rfl), (by rw [e6]; rfl), trivial⟩, by omega, B_g1, K_0⟩
      ·
       rw [hb10] at hE
       refine p_cons (s_still p20_11_2 hE (wn_some g20_11_1 rfl rfl) rfl (st_move rfl) ?_); clear hE a; intro a hE
       refine p_cons (s_still p20_11_3 hE (wn_some g20_11_1 rfl rfl) rfl (st_move rfl) ?_); clear hE a; intro a hE
       refine p_cons (s_still p20_11_4 hE (wn_some g20_11_1 rfl rfl) rfl (st_indexS (i := i) Try.underlying9 rfl rfl (by omega)) ?_); clear hE a; intro a hE
       refine p_cons (s_still p20_11_5 hE (wn_some g20_11_1 rfl rfl) rfl (st_eql (b := (decide ((bt (partsF k) (i : Int)) = 116))) rfl rfl rfl) ?_); clear hE a; intro a hE
       refine q0 p20_11_6 hE (st_pick rfl rfl) ?_; clear hE a; intro a hE
       refine q0 p20_11_7 hE (st_assign rfl) ?_; clear hE a; intro a hE
       refine p_nil (x_normB (x_norm (c_regL R20_7_l ?_)))
       refine q0 p20_7_0 hE (st_move rfl) ?_; clear hE a; intro a hE
       refine q0 p20_7_1 hE (st_add (z := (i : Int) + 1) rfl rfl (wr_i64 _ (by omega) (by omega))) ?_; clear hE a; intro a hE
       refine q0 p20_7_2 hE (st_assign rfl) ?_; clear hE a; intro a hE
       refine p_nil (x_norm ?_)
       have e4 : cntF (partsF k) (i + 1) = cntF (partsF k) i + 1 := cnt_yes (by omega)
       have e5 : hasF (partsF k) 97 (i + 1) = true := by rw [has_succ, hb9]; simp
       have e6 : hasF (partsF k) 116 (i + 1) = (decide ((bt (partsF k) (i : Int)) = 116)) := by rw [has_succ, hb10]; simp
       exact ⟨i + 1, by omega, En.sub hE ⟨rfl, rfl, rfl, rfl, rfl, rfl, (by rw [e4]; rfl), (by rw [e5]; rfl), (by rw [e6]; rfl), trivial⟩, by omega, B_g1, K_0⟩
     ·
      rw [hb9] at hE
      refine p_cons (s_still p20_10_2 hE (wn_some g20_10_1 rfl rfl) rfl (st_move rfl) ?_); clear hE a; intro a hE
      refine p_cons (s_still p20_10_3 hE (wn_some g20_10_1 rfl rfl) rfl (st_move rfl) ?_); clear hE a; intro a hE
      refine p_cons (s_still p20_10_4 hE (wn_some g20_10_1 rfl rfl) rfl (st_indexS (i := i) Try.underlying9 rfl rfl (by omega)) ?_); clear hE a; intro a hE
      refine p_cons (s_still p20_10_5 hE (wn_some g20_10_1 rfl rfl) rfl (st_eql (b := (decide ((bt (partsF k) (i : Int)) = 97))) rfl rfl rfl) ?_); clear hE a; intro a hE
      refine q0 p20_10_6 hE (st_pick rfl rfl) ?_; clear hE a; intro a hE
      refine q0 p20_10_7 hE (st_assign rfl) ?_; clear hE a; intro a hE
      refine p_nil (x_norm (c_regL R20_11_l ?_))
      refine q0 p20_11_0 hE (st_move rfl) ?_; clear hE a; intro a hE
      refine q0 p20_11_1 hE (st_move rfl) ?_; clear hE a; intro a hE
      rcases Bool.eq_false_or_eq_true (hasF (partsF k) 116 i) with hb11 | hb11
      ·
       rw [hb11] at hE
       refine p_cons (s_skip p20_11_2 hE (wn_some g20_11_1 rfl rfl) rfl ?_); clear hE a; intro a hE
       refine p_cons (s_skip p20_11_3 hE (wn_some g20_11_1 rfl rfl) rfl ?_); clear hE a; intro a hE
       refine p_cons (s_skip p20_11_4 hE (wn_some g20_11_1 rfl rfl) rfl ?_); clear hE a; intro a hE
       refine p_cons (s_skip p20_11_5 hE (wn_some g20_11_1 rfl rfl) rfl ?_); clear hE a; intro a hE
       refine q0 p20_11_6 hE (st_pick rfl rfl) ?_; clear hE a; intro a hE
       refine q0 p20_11_7 hE (st_assign rfl) ?_; clear hE a; intro a hE
       refine p_nil (x_normB (x_norm (c_regL R20_7_l ?_)))
       refine q0 p20_7_0 hE (st_move rfl) ?_; clear hE a; intro a hE
       refine q0 p20_7_1 hE (st_add (z := (i : Int) + 1) rfl rfl (wr_i64 _ (by omega) (by omega))) ?_; clear hE a; intro a hE
       refine q0 p20_7_2 hE (st_assign rfl) ?_; clear hE a; intro a hE
       refine p_nil (x_norm ?_)
       have e4 : cntF (partsF k) (i + 1) = cntF (partsF k) i + 1 := cnt_yes (by omega)
       have e5 : hasF (partsF k) 97 (i + 1) = (decide ((bt (partsF k) (i : Int)) = 97)) := by rw [has_succ, hb9]; simp
       have e6 : hasF (partsF k) 116 (i + 1) = true := by rw [has_succ, hb11]; simp
       exact ⟨i + 1, by omega, En.sub hE ⟨rfl, rfl, rfl, rfl, rfl, rfl, (by rw [e4]; rfl), (by rw [e5]; rfl), (by rw [e6]; rfl), trivial⟩, by omega, B_g1, K_0⟩
      ·
       rw [hb11] at hE
       refine p_cons (s_still p20_11_2 hE (wn_some g20_11_1 rfl rfl) rfl (st_move rfl) ?_); clear hE a; intro a hE
       refine p_cons (s_still p20_11_3 hE (wn_some g20_11_1 rfl rfl) rfl (st_move rfl) ?_); clear hE a; intro a hE
       refine p_cons (s_still p20_11_4 hE (wn_some g20_11_1 rfl rfl) rfl (st_indexS (i := i) Try.underlying9 rfl rfl (by omega)) ?_); clear hE a; intro a hE
       refine p_cons (s_still p20_11_5 hE (wn_some g20_11_1 rfl rfl) rfl (st_eql (b := (decide ((bt (partsF k) (i : Int)) = 116))) rfl rfl rfl) ?_); clear hE a; intro a hE
       refine q0 p20_11_6 hE (st_pick rfl rfl) ?_; clear hE a; intro a hE
       refine q0 p20_11_7 hE (st_assign rfl) ?_; clear hE a; intro a hE
       refine p_nil (x_normB (x_norm (c_regL R20_7_l ?_)))
       refine q0 p20_7_0 hE (st_move rfl) ?_; clear hE a; intro a hE
       refine q0 p20_7_1 hE (st_add (z := (i : Int) + 1) rfl rfl (wr_i64 _ (by omega) (by omega))) ?_; clear hE a; intro a hE
       refine q0 p20_7_2 hE (st_assign rfl) ?_; clear hE a; intro a hE
       refine p_nil (x_norm ?_)
       have e4 : cntF (partsF k) (i + 1) = cntF (partsF k) i + 1 := cnt_yes (by omega)
       have e5 : hasF (partsF k) 97 (i + 1) = (decide ((bt (partsF k) (i : Int)) = 97)) := by rw [has_succ, hb9]; simp
       have e6 : hasF (partsF k) 116 (i + 1) = (decide ((bt (partsF k) (i : Int)) = 116)) := by rw [has_succ, hb11]; simp
       exact ⟨i + 1, by omega, En.sub hE ⟨rfl, rfl, rfl, rfl, rfl, rfl, (by rw [e4]; rfl), (by rw [e5]; rfl), (by rw [e6]; rfl), trivial⟩, by omega, B_g1, K_0⟩
    ·
     refine p_cons (s_still (v := Value.bool false) p20_8_4 hE wn_none rfl (st_gtr rfl rfl (decide_eq_false hc8)) ?_); clear hE a; intro a hE
     refine p_nil (x_norm ?_)
     refine c_cond (t := false) hE rfl ?_
     refine wp_skip (x_norm (c_reg R20_10_l ?_))
     refine q0 p20_10_0 hE (st_move rfl) ?_; clear hE a; intro a hE
     refine q0 p20_10_1 hE (st_move rfl) ?_; clear hE a; intro a hE
     rcases Bool.eq_false_or_eq_true (hasF (partsF k) 97 i) with hb12 | hb12
     ·
      rw [hb12] at hE
      refine p_cons (s_skip p20_10_2 hE (wn_some g20_10_1 rfl rfl) rfl ?_); clear hE a; intro a hE
      refine p_cons (s_skip p20_10_3 hE (wn_some g20_10_1 rfl rfl) rfl ?_); clear hE a; intro a hE
      refine p_cons (s_skip p20_10_4 hE (wn_some g20_10_1 rfl rfl) rfl ?_); clear hE a; intro a hE
      refine p_cons (s_skip p20_10_5 hE (wn_some g20_10_1 rfl rfl) rfl ?_); clear hE a; intro a hE
      refine q0 p20_10_6 hE (st_pick rfl rfl) ?_; clear hE a; intro a hE
      refine q0 p20_10_7 hE (st_assign rfl) ?_; clear hE a; intro a hE
      refine p_nil (x_norm (c_regL R20_11_l ?_))
      refine q0 p20_11_0 hE (st_move rfl) ?_; clear hE a; intro a hE
      refine q0 p20_11_1 hE (st_move rfl) ?_; clear hE a; intro a hE
      rcases Bool.eq_false_or_eq_true (hasF (partsF k) 116 i) with hb13 | hb13
      ·
       rw [hb13] at hE
       refine p_cons (s_skip p20_11_2 hE (wn_some g20_11_1 rfl rfl) rfl ?_); clear hE a; intro a hE
       refine p_cons (s_skip p20_11_3 hE (wn_some g20_11_1 rfl rfl) rfl ?_); clear hE a; intro a hE
       refine p_cons (s_skip p20_11_4 hE (wn_some g20_11_1 rfl rfl) rfl ?_); clear hE a; intro a hE
       refine p_cons (s_skip p20_11_5 hE (wn_some g20_11_1 rfl rfl) rfl ?_); clear hE a; intro a hE
       refine q0 p20_11_6 hE (st_pick rfl rfl) ?_; clear hE a; intro a hE
       refine q0 p20_11_7 hE (st_assign rfl) ?_; clear hE a; intro a hE
       refine p_nil (x_normB (x_norm (c_regL R20_7_l ?_)))
       refine q0 p20_7_0 hE (st_move rfl) ?_; clear hE a; intro a hE
       refine q0 p20_7_1 hE (st_add (z := (i : Int) + 1) rfl rfl (wr_i64 _ (by omega) (by omega))) ?_; clear hE a; intro a hE
       refine q0 p20_7_2 hE (st_assign rfl) ?_; clear hE a; intro a hE
       refine p_nil (x_norm ?_)
       have e4 : cntF (partsF k) (i + 1) = cntF (partsF k) i := cnt_not (by omega)
       have e5 : hasF (partsF k) 97 (i + 1) = true := by rw [has_succ, hb12]; simp
       have e6 : hasF (partsF k) 116 (i + 1) = true := by rw [has_succ, hb13]; simp
       exact ⟨i + 1, by omega, En.sub hE ⟨rfl, rfl, rfl, rfl, rfl, rfl, (by rw [e4]; rfl), (by rw [e5]; rfl), (by rw [e6]; rfl), trivial⟩, by omega, B_g1, K_0⟩
      ·
       rw [hb13] at hE
       refine p_cons (s_still p20_11_2 hE (wn_some g20_11_1 rfl rfl) rfl (st_move rfl) ?_); clear hE a; intro a hE
       refine p_cons (s_still p20_11_3 hE (wn_some g20_11_1 rfl rfl) rfl (st_move rfl) ?_); clear hE a; intro a hE
       refine p_cons (s_still p20_11_4 hE (wn_some g20_11_1 rfl rfl) rfl (st_indexS (i := i) Try.underlying9 rfl rfl (by omega)) ?_); clear hE a; intro a hE
       refine p_cons (s_still p20_11_5 hE (wn_some g20_11_1 rfl rfl) rfl (st_eql (b := (decide ((bt (partsF k) (i : Int)) = 116))) rfl rfl rfl) ?_); clear hE a; intro a hE
       refine q0 p20_11_6 hE (st_pick rfl rfl) ?_; clear hE a; intro a hE
       refine q0 p20_11_7 hE (st_assign rfl) ?_; clear hE a; intro a hE
       refine p_nil (x_normB (x_norm (c_regL R20_7_l ?_)))
       refine q0 p20_7_0 hE (st_move rfl) ?_; clear hE a; intro a hE
       refine q0 p20_7_1 hE (st_add (z := (i : Int) + 1) rfl rfl (wr_i64 _ (by omega) (by omega))) ?_; clear hE a; intro a hE
       refine q0 p20_7_2 hE (st_assign rfl) ?_; clear hE a; intro a hE
       refine p_nil (x_norm ?_)
       have e4 : cntF (partsF k) (i + 1) = cntF (partsF k) i := cnt_not (by omega)
       have e5 : hasF (partsF k) 97 (i + 1) = true := by rw [has_succ, hb12]; simp
       have e6 : hasF (partsF k) 116 (i + 1) = (decide ((bt (partsF k) (i : Int)) = 116)) := by rw [has_succ, hb13]; simp
       exact ⟨i + 1, by omega, En.sub hE ⟨rfl, rfl, rfl, rfl, rfl, rfl, (by rw [e4]; rfl), (by rw [e5]; rfl), (by rw [e6]; rfl), trivial⟩, by omega, B_g1, K_0⟩
     ·
      rw [hb12] at hE
      refine p_cons (s_still p20_10_2 hE (wn_some g20_10_1 rfl rfl) rfl (st_move rfl) ?_); clear hE a; intro a hE
      refine p_cons (s_still p20_10_3 hE (wn_some g20_10_1 rfl rfl) rfl (st_move rfl) ?_); clear hE a; intro a hE
      refine p_cons (s_still p20_10_4 hE (wn_some g20_10_1 rfl rfl) rfl (st_indexS (i := i) Try.underlying9 rfl rfl (by omega)) ?_); clear hE a; intro a hE
      refine p_cons (s_still p20_10_5 hE (wn_some g20_10_1 rfl rfl) rfl (st_eql (b := (decide ((bt (partsF k) (i : Int)) = 97))) rfl rfl rfl) ?_); clear hE a; intro a hE
      refine q0 p20_10_6 hE (st_pick rfl rfl) ?_; clear hE a; intro a hE
      refine q0 p20_10_7 hE (st_assign rfl) ?_; clear hE a; intro a hE
      refine p_nil (x_norm (c_regL R20_11_l ?_))
      refine q0 p20_11_0 hE (st_move rfl) ?_; clear hE a; intro a hE
      refine q0 p20_11_1 hE (st_move rfl) ?_; clear hE a; intro a hE
      rcases Bool.eq_false_or_eq_true (hasF (partsF k) 116 i) with hb14 | hb14
      ·
       rw [hb14] at hE
       refine p_cons (s_skip p20_11_2 hE (wn_some g20_11_1 rfl rfl) rfl ?_); clear hE a; intro a hE
       refine p_cons (s_skip p20_11_3 hE (wn_some g20_11_1 rfl rfl) rfl ?_); clear hE a; intro a hE
       refine p_cons (s_skip p20_11_4 hE (wn_some g20_11_1 rfl rfl) rfl ?_); clear hE a; intro a hE
       refine p_cons (s_skip p20_11_5 hE (wn_some g20_11_1 rfl rfl) rfl ?_); clear hE a; intro a hE
       refine q0 p20_11_6 hE (st_pick rfl rfl) ?_; clear hE a; intro a hE
       refine q0 p20_11_7 hE (st_assign rfl) ?_; clear hE a; intro a hE
       refine p_nil (x_normB (x_norm (c_regL R20_7_l ?_)))
       refine q0 p20_7_0 hE (st_move rfl) ?_; clear hE a; intro a hE
       refine q0 p20_7_1 hE (st_add (z := (i : Int) + 1) rfl rfl (wr_i64 _ (by omega) (by omega))) ?_; clear hE a; intro a hE
       refine q0 p20_7_2 hE (st_assign rfl) ?_; clear hE a; intro a hE
       refine p_nil (x_norm ?_)
       have e4 : cntF (partsF k) (i + 1) = cntF (partsF k) i := cnt_not (by omega)
       have e5 : hasF (partsF k) 97 (i + 1) = (decide ((bt (partsF k) (i : Int)) = 97)) := by rw [has_succ, hb12]; simp
       have e6 : hasF (partsF k) 116 (i + 1) = true := by rw [has_succ, hb14]; simp
       exact ⟨i + 1, by omega, En.sub hE ⟨rfl, rfl, rfl, rfl, rfl, rfl, (by rw [e4]; rfl), (by rw [e5]; rfl), (by rw [e6]; rfl), trivial⟩, by omega, B_g1, K_0⟩
      ·
       rw [hb14] at hE
       refine p_cons (s_still p20_11_2 hE (wn_some g20_11_1 rfl rfl) rfl (st_move rfl) ?_); clear hE a; intro a hE
       refine p_cons (s_still p20_11_3 hE (wn_some g20_11_1 rfl rfl) rfl (st_move rfl) ?_); clear hE a; intro a hE
       refine p_cons (s_still p20_11_4 hE (wn_some g20_11_1 rfl rfl) rfl (st_indexS (i := i) Try.underlying9 rfl rfl (by omega)) ?_); clear hE a; intro a hE
       refine p_cons (s_still p20_11_5 hE (wn_some g20_11_1 rfl rfl) rfl (st_eql (b := (decide ((bt (partsF k) (i : Int)) = 116))) rfl rfl rfl) ?_); clear hE a; intro a hE
       refine q0 p20_11_6 hE (st_pick rfl rfl) ?_; clear hE a; intro a hE
       refine q0 p20_11_7 hE (st_assign rfl) ?_; clear hE a; intro a hE
       refine p_nil (x_normB (x_norm (c_regL R20_7_l ?_)))
       refine q0 p20_7_0 hE (st_move rfl) ?_; clear hE a; intro a hE
       refine q0 p20_7_1 hE (st_add (z := (i : Int) + 1) rfl rfl (wr_i64 _ (by omega) (by omega))) ?_; clear hE a; intro a hE
       refine q0 p20_7_2 hE (st_assign rfl) ?_; clear hE a; intro a hE
       refine p_nil (x_norm ?_)
       have e4 : cntF (partsF k) (i + 1) = cntF (partsF k) i := cnt_not (by omega)
       have e5 : hasF (partsF k) 97 (i + 1) = (decide ((bt (partsF k) (i : Int)) = 97)) := by rw [has_succ, hb12]; simp
       have e6 : hasF (partsF k) 116 (i + 1) = (decide ((bt (partsF k) (i : Int)) = 116)) := by rw [has_succ, hb14]; simp
       exact ⟨i + 1, by omega, En.sub hE ⟨rfl, rfl, rfl, rfl, rfl, rfl, (by rw [e4]; rfl), (by rw [e5]; rfl), (by rw [e6]; rfl), trivial⟩, by omega, B_g1, K_0⟩
   ·
    refine p_cons (s_still (v := Value.bool false) p20_6_3 hE wn_none rfl (st_lss rfl rfl (decide_eq_false hc6)) ?_); clear hE a; intro a hE
    refine p_nil (x_norm ?_)
    refine c_cond (t := false) hE rfl ?_
    refine wp_exit (x_exit (x_exit ?_))
    obtain rfl : i = (partsF k).size := by omega
    rw [pf1, pf2, pf3] at hE
    refine x_in (x_norm (c_reg R20_12_l ?_))
    refine p_cons (s_alloc p20_12_0 hE wn_none rfl tZ43 ?_)
    clear hE a; intro g15 w16 z17 B_g15 hk a hE
    replace B_g15 : w16.heap[g15]? = some (.cells (b16 (fun _ => 0)).toArray 43 (0, 0)) := B_g15
    have n_g1_g15 : g1 ≠ g15 := ne_new B_g1 z17
    have z_0_g15 := Nat.le_trans K_0.kept.1 z17
    replace B_g1 := kp_blk B_g1 hk (fun h => h)
    replace K_0 := K_0.then_ hk (fun _ h => h.elim)
    clear hk
    refine p_nil (x_norm (wp_seq (c_reg R20_13_l ?_)))
    refine q0 p20_13_0 hE (st_fieldAddr Try.underlying45 rfl tS42 rfl rfl) ?_; clear hE a; intro a hE
    refine q0 p20_13_1 hE (st_load1 tA42 rfl ((blk_cell B_g1 1).trans rfl)) ?_; clear hE a; intro a hE
    refine q0 p20_13_2 hE (st_len Try.underlying42 rfl) ?_; clear hE a; intro a hE
    refine q0 p20_13_3 hE (st_move rfl) ?_; clear hE a; intro a hE
    rcases Decidable.em ((nb : Int) = ((sizesF k).length : Int)) with hc18 | hc18
    ·
     refine p_cons (s_still (v := Value.bool false) p20_13_4 hE wn_none rfl (st_neq rfl rfl (by rw [decide_eq_true hc18]; rfl)) ?_); clear hE a; intro a hE
     refine q0 p20_13_5 hE (st_move rfl) ?_; clear hE a; intro a hE
     refine p_cons (s_still p20_13_6 hE (wn_some g20_13_5 rfl rfl) rfl (st_fieldAddr Try.underlying45 rfl tS43 rfl rfl) ?_); clear hE a; intro a hE
     refine p_cons (s_still p20_13_7 hE (wn_some g20_13_5 rfl rfl) rfl (st_loadN (off := 2) (k := 16) (vs := b16 f) tA43 tS43 rfl B_g1 rfl rfl) ?_); clear hE a; intro a hE
     refine p_cons (s_still p20_13_8 hE (wn_some g20_13_5 rfl rfl) rfl (st_loadN (off := 0) (k := 16) (vs := b16 (fun _ => 0)) tA43 tS43 rfl B_g15 rfl rfl) ?_); clear hE a; intro a hE
     rcases Decidable.em (eqL (b16 f) (b16 (fun _ => 0)) = true) with hc19 | hc19
     ·
      refine p_cons (s_still (v := Value.bool false) p20_13_9 hE (wn_some g20_13_5 rfl rfl) rfl (st_neqA (b := true) eg43 rfl rfl (eqA_flat eqY_ks (by kernel_rfl) rfl rfl hc19)) ?_); clear hE a; intro a hE
      refine p_cons (s_still p20_13_10 hE (wn_some g20_13_5 rfl rfl) rfl (st_move rfl) ?_); clear hE a; intro a hE
      refine p_cons (s_skip p20_13_11 hE (wn_some g20_13_10 rfl rfl) rfl ?_); clear hE a; intro a hE
      refine p_cons (s_skip p20_13_12 hE (wn_some g20_13_10 rfl rfl) rfl ?_); clear hE a; intro a hE
      refine p_cons (s_still p20_13_13 hE (wn_some g20_13_5 rfl rfl) rfl (st_pick rfl rfl) ?_); clear hE a; intro a hE
      refine q0 p20_13_14 hE (st_pick rfl rfl) ?_; clear hE a; intro a hE
      refine q0 p20_13_15 hE (st_move rfl) ?_; clear hE a; intro a hE
      refine p_cons (s_still p20_13_16 hE (wn_some g20_13_15 rfl rfl) rfl (st_fieldAddr Try.underlying45 rfl tS22 rfl rfl) ?_); clear hE a; intro a hE
      refine p_cons (s_still p20_13_17 hE (wn_some g20_13_15 rfl rfl) rfl (st_load1 tA22 rfl ((blk_cell B_g1 18).trans rfl)) ?_); clear hE a; intro a hE
      refine p_cons (s_still p20_13_18 hE (wn_some g20_13_15 rfl rfl) rfl (st_len Try.underlying22 rfl) ?_); clear hE a; intro a hE
      rcases Decidable.em (0 < (tn : Int)) with hc20 | hc20
      ·
       refine p_cons (s_still (v := Value.bool true) p20_13_19 hE (wn_some g20_13_15 rfl rfl) rfl (st_gtr rfl rfl (decide_eq_true hc20)) ?_); clear hE a; intro a hE
       refine p_cons (s_still p20_13_20 hE (wn_some g20_13_15 rfl rfl) rfl (st_move rfl) ?_); clear hE a; intro a hE
       refine p_cons (s_still p20_13_21 hE (wn_some g20_13_20 rfl rfl) rfl (st_move rfl) ?_); clear hE a; intro a hE
       refine p_cons (s_still p20_13_22 hE (wn_some g20_13_20 rfl rfl) rfl (st_not rfl rfl) ?_); clear hE a; intro a hE
       refine p_cons (s_still p20_13_23 hE (wn_some g20_13_15 rfl rfl) rfl (st_pick rfl rfl) ?_); clear hE a; intro a hE
       refine q0 p20_13_24 hE (st_pick rfl rfl) ?_; clear hE a; intro a hE
       refine p_nil (x_norm ?_)
       rcases Bool.eq_false_or_eq_true (decide (k = 2)) with hb21 | hb21
       ·
        rw [hb21] at hE
        have hb21P := of_decide_eq_true hb21
        refine c_cond (t := false) hE rfl ?_
        refine wp_skip (x_norm ?_)
        have n3 : ¬ (¬ nb = (sizesF k).length ∨ (¬ eqL (b16 f) (b16 (fun _ => 0)) = true ∧ ¬ addrF k = true) ∨ (0 < tn ∧ ¬ k = 2)) := by
         intro h; rcases h with h | h | h
         · omega
         · exact h.1 hc19
         · exact h.2 (of_decide_eq_true hb21)
        exact rtail k hk9 B T nb cb tn ct l hly f w w16 g1 B_g1 z_0_g1 K_0 F_B (by omega) n3 a (En.sub hE ⟨rfl, rfl, trivial⟩)
       ·
        rw [hb21] at hE
        have hb21P := of_decide_eq_false hb21
        refine c_cond (t := true) hE rfl ?_
        refine c_reg R20_14_l ?_
        refine q0 p20_14_0 hE (st_assign rfl) ?_; clear hE a; intro a hE
        refine p_nil (x_norm (wp_ret (x_ret ?_)))
        refine ret_one (v := Value.int .i64 3) rfl hE (.tmp rfl .nil) ?_
        have ec : chkO (k : Int) nb l f tn = chkF k nb l f tn := by unfold chkO; rw [if_pos ⟨by omega, by omega⟩]; rfl
        exact ⟨by rw [ec]; unfold chkF; rw [if_pos (Or.inr (Or.inr ⟨by omega, of_decide_eq_false hb21⟩))], K_0⟩
      ·
       refine p_cons (s_still (v := Value.bool false) p20_13_19 hE (wn_some g20_13_15 rfl rfl) rfl (st_gtr rfl rfl (decide_eq_false hc20)) ?_); clear hE a; intro a hE
       refine p_cons (s_still p20_13_20 hE (wn_some g20_13_15 rfl rfl) rfl (st_move rfl) ?_); clear hE a; intro a hE
       refine p_cons (s_skip p20_13_21 hE (wn_some g20_13_20 rfl rfl) rfl ?_); clear hE a; intro a hE
       refine p_cons (s_skip p20_13_22 hE (wn_some g20_13_20 rfl rfl) rfl ?_); clear hE a; intro a hE
       refine p_cons (s_still p20_13_23 hE (wn_some g20_13_15 rfl rfl) rfl (st_pick rfl rfl) ?_); clear hE a; intro a hE
       refine q0 p20_13_24 hE (st_pick rfl rfl) ?_; clear hE a; intro a hE
       refine p_nil (x_norm ?_)
       refine c_cond (t := false) hE rfl ?_
       refine wp_skip (x_norm ?_)
       have n3 : ¬ (¬ nb = (sizesF k).length ∨ (¬ eqL (b16 f) (b16 (fun _ => 0)) = true ∧ ¬ addrF k = true) ∨ (0 < tn ∧ ¬ k = 2)) := by
        intro h; rcases h with h | h | h
        · omega
        · exact h.1 hc19
        · exact absurd h.1 (by omega)
       exact rtail k hk9 B T nb cb tn ct l hly f w w16 g1 B_g1 z_0_g1 K_0 F_B (by omega) n3 a (En.sub hE ⟨rfl, rfl, trivial⟩)
     ·
      refine p_cons (s_still (v := Value.bool true) p20_13_9 hE (wn_some g20_13_5 rfl rfl) rfl (st_neqA (b := false) eg43 rfl rfl (eqA_flat eqY_ks (by kernel_rfl) rfl rfl (by simpa using hc19))) ?_); clear hE a; intro a hE
      refine p_cons (s_still p20_13_10 hE (wn_some g20_13_5 rfl rfl) rfl (st_move rfl) ?_); clear hE a; intro a hE
      refine p_cons (s_still p20_13_11 hE (wn_some g20_13_10 rfl rfl) rfl (st_move rfl) ?_); clear hE a; intro a hE
      refine p_cons (s_still p20_13_12 hE (wn_some g20_13_10 rfl rfl) rfl (st_not rfl rfl) ?_); clear hE a; intro a hE
      refine p_cons (s_still p20_13_13 hE (wn_some g20_13_5 rfl rfl) rfl (st_pick rfl rfl) ?_); clear hE a; intro a hE
      refine q0 p20_13_14 hE (st_pick rfl rfl) ?_; clear hE a; intro a hE
      refine q0 p20_13_15 hE (st_move rfl) ?_; clear hE a; intro a hE
      rcases Bool.eq_false_or_eq_true (addrF k) with hb22 | hb22
      ·
       rw [hb22] at hE
       refine p_cons (s_still p20_13_16 hE (wn_some g20_13_15 rfl rfl) rfl (st_fieldAddr Try.underlying45 rfl tS22 rfl rfl) ?_); clear hE a; intro a hE
       refine p_cons (s_still p20_13_17 hE (wn_some g20_13_15 rfl rfl) rfl (st_load1 tA22 rfl ((blk_cell B_g1 18).trans rfl)) ?_); clear hE a; intro a hE
       refine p_cons (s_still p20_13_18 hE (wn_some g20_13_15 rfl rfl) rfl (st_len Try.underlying22 rfl) ?_); clear hE a; intro a hE
       rcases Decidable.em (0 < (tn : Int)) with hc23 | hc23
       ·
        refine p_cons (s_still (v := Value.bool true) p20_13_19 hE (wn_some g20_13_15 rfl rfl) rfl (st_gtr rfl rfl (decide_eq_true hc23)) ?_); clear hE a; intro a hE
        refine p_cons (s_still p20_13_20 hE (wn_some g20_13_15 rfl rfl) rfl (st_move rfl) ?_); clear hE a; intro a hE
        refine p_cons (s_still p20_13_21 hE (wn_some g20_13_20 rfl rfl) rfl (st_move rfl) ?_); clear hE a; intro a hE
        refine p_cons (s_still p20_13_22 hE (wn_some g20_13_20 rfl rfl) rfl (st_not rfl rfl) ?_); clear hE a; intro a hE
        refine p_cons (s_still p20_13_23 hE (wn_some g20_13_15 rfl rfl) rfl (st_pick rfl rfl) ?_); clear hE a; intro a hE
        refine q0 p20_13_24 hE (st_pick rfl rfl) ?_; clear hE a; intro a hE
        refine p_nil (x_norm ?_)
        rcases Bool.eq_false_or_eq_true (decide (k = 2)) with hb24 | hb24
        ·
         rw [hb24] at hE
         have hb24P := of_decide_eq_true hb24
         refine c_cond (t := false) hE rfl ?_
         refine wp_skip (x_norm ?_)
         have n3 : ¬ (¬ nb = (sizesF k).length ∨ (¬ eqL (b16 f) (b16 (fun _ => 0)) = true ∧ ¬ addrF k = true) ∨ (0 < tn ∧ ¬ k = 2)) := by
          intro h; rcases h with h | h | h
          · omega
          · exact h.2 hb22
          · exact h.2 (of_decide_eq_true hb24)
         exact rtail k hk9 B T nb cb tn ct l hly f w w16 g1 B_g1 z_0_g1 K_0 F_B (by omega) n3 a (En.sub hE ⟨rfl, rfl, trivial⟩)
        ·
         rw [hb24] at hE
         have hb24P := of_decide_eq_false hb24
         refine c_cond (t := true) hE rfl ?_
         refine c_reg R20_14_l ?_
         refine q0 p20_14_0 hE (st_assign rfl) ?_; clear hE a; intro a hE
         refine p_nil (x_norm (wp_ret (x_ret ?_)))
         refine ret_one (v := Value.int .i64 3) rfl hE (.tmp rfl .nil) ?_
         have ec : chkO (k : Int) nb l f tn = chkF k nb l f tn := by unfold chkO; rw [if_pos ⟨by omega, by omega⟩]; rfl
         exact ⟨by rw [ec]; unfold chkF; rw [if_pos (Or.inr (Or.inr ⟨by omega, of_decide_eq_false hb24⟩))], K_0⟩
       ·
        refine p_cons (s_still (v := Value.bool false) p20_13_19 hE (wn_some g20_13_15 rfl rfl) rfl (st_gtr rfl rfl (decide_eq_false hc23)) ?_); clear hE a; intro a hE
        refine p_cons (s_still p20_13_20 hE (wn_some g20_13_15 rfl rfl) rfl (st_move rfl) ?_); clear hE a; intro a hE
        refine p_cons (s_skip p20_13_21 hE (wn_some g20_13_20 rfl rfl) rfl ?_); clear hE a; intro a hE
        refine p_cons (s_skip p20_13_22 hE (wn_some g20_13_20 rfl rfl) rfl ?_); clear hE a; intro a hE
        refine p_cons (s_still p20_13_23 hE (wn_some g20_13_15 rfl rfl) rfl (st_pick rfl rfl) ?_); clear hE a; intro a hE
        refine q0 p20_13_24 hE (st_pick rfl rfl) ?_; clear hE a; intro a hE
        refine p_nil (x_norm ?_)
        refine c_cond (t := false) hE rfl ?_
        refine wp_skip (x_norm ?_)
        have n3 : ¬ (¬ nb = (sizesF k).length ∨ (¬ eqL (b16 f) (b16 (fun _ => 0)) = true ∧ ¬ addrF k = true) ∨ (0 < tn ∧ ¬ k = 2)) := by
         intro h; rcases h with h | h | h
         · omega
         · exact h.2 hb22
         · exact absurd h.1 (by omega)
        exact rtail k hk9 B T nb cb tn ct l hly f w w16 g1 B_g1 z_0_g1 K_0 F_B (by omega) n3 a (En.sub hE ⟨rfl, rfl, trivial⟩)
      ·
       rw [hb22] at hE
       refine p_cons (s_skip p20_13_16 hE (wn_some g20_13_15 rfl rfl) rfl ?_); clear hE a; intro a hE
       refine p_cons (s_skip p20_13_17 hE (wn_some g20_13_15 rfl rfl) rfl ?_); clear hE a; intro a hE
       refine p_cons (s_skip p20_13_18 hE (wn_some g20_13_15 rfl rfl) rfl ?_); clear hE a; intro a hE
       refine p_cons (s_skip p20_13_19 hE (wn_some g20_13_15 rfl rfl) rfl ?_); clear hE a; intro a hE
       refine p_cons (s_skip p20_13_20 hE (wn_some g20_13_15 rfl rfl) rfl ?_); clear hE a; intro a hE
       refine p_cons (s_skip p20_13_21 hE (wn_undef g20_13_20 rfl) rfl ?_); clear hE a; intro a hE
       refine p_cons (s_skip p20_13_22 hE (wn_undef g20_13_20 rfl) rfl ?_); clear hE a; intro a hE
       refine p_cons (s_skip p20_13_23 hE (wn_some g20_13_15 rfl rfl) rfl ?_); clear hE a; intro a hE
       refine q0 p20_13_24 hE (st_pick rfl rfl) ?_; clear hE a; intro a hE
       refine p_nil (x_norm ?_)
       refine c_cond (t := true) hE rfl ?_
       refine c_reg R20_14_l ?_
       refine q0 p20_14_0 hE (st_assign rfl) ?_; clear hE a; intro a hE
       refine p_nil (x_norm (wp_ret (x_ret ?_)))
       refine ret_one (v := Value.int .i64 3) rfl hE (.tmp rfl .nil) ?_
       have ec : chkO (k : Int) nb l f tn = chkF k nb l f tn := by unfold chkO; rw [if_pos ⟨by omega, by omega⟩]; rfl
       exact ⟨by rw [ec]; unfold chkF; rw [if_pos (Or.inr (Or.inl ⟨hc19, by rw [hb22]; decide⟩))], K_0⟩
    ·
     refine p_cons (s_still (v := Value.bool true) p20_13_4 hE wn_none rfl (st_neq rfl rfl (by rw [decide_eq_false hc18]; rfl)) ?_); clear hE a; intro a hE
     refine q0 p20_13_5 hE (st_move rfl) ?_; clear hE a; intro a hE
     refine p_cons (s_skip p20_13_6 hE (wn_some g20_13_5 rfl rfl) rfl ?_); clear hE a; intro a hE
     refine p_cons (s_skip p20_13_7 hE (wn_some g20_13_5 rfl rfl) rfl ?_); clear hE a; intro a hE
     refine p_cons (s_skip p20_13_8 hE (wn_some g20_13_5 rfl rfl) rfl ?_); clear hE a; intro a hE
     refine p_cons (s_skip p20_13_9 hE (wn_some g20_13_5 rfl rfl) rfl ?_); clear hE a; intro a hE
     refine p_cons (s_skip p20_13_10 hE (wn_some g20_13_5 rfl rfl) rfl ?_); clear hE a; intro a hE
     refine p_cons (s_skip p20_13_11 hE (wn_undef g20_13_10 rfl) rfl ?_); clear hE a; intro a hE
     refine p_cons (s_skip p20_13_12 hE (wn_undef g20_13_10 rfl) rfl ?_); clear hE a; intro a hE
     refine p_cons (s_skip p20_13_13 hE (wn_some g20_13_5 rfl rfl) rfl ?_); clear hE a; intro a hE
     refine q0 p20_13_14 hE (st_pick rfl rfl) ?_; clear hE a; intro a hE
     refine q0 p20_13_15 hE (st_move rfl) ?_; clear hE a; intro a hE
     refine p_cons (s_skip p20_13_16 hE (wn_some g20_13_15 rfl rfl) rfl ?_); clear hE a; intro a hE
     refine p_cons (s_skip p20_13_17 hE (wn_some g20_13_15 rfl rfl) rfl ?_); clear hE a; intro a hE
     refine p_cons (s_skip p20_13_18 hE (wn_some g20_13_15 rfl rfl) rfl ?_); clear hE a; intro a hE
     refine p_cons (s_skip p20_13_19 hE (wn_some g20_13_15 rfl rfl) rfl ?_); clear hE a; intro a hE
     refine p_cons (s_skip p20_13_20 hE (wn_some g20_13_15 rfl rfl) rfl ?_); clear hE a; intro a hE
     refine p_cons (s_skip p20_13_21 hE (wn_undef g20_13_20 rfl) rfl ?_); clear hE a; intro a hE
     refine p_cons (s_skip p20_13_22 hE (wn_undef g20_13_20 rfl) rfl ?_); clear hE a; intro a hE
     refine p_cons (s_skip p20_13_23 hE (wn_some g20_13_15 rfl rfl) rfl ?_); clear hE a; intro a hE
     refine q0 p20_13_24 hE (st_pick rfl rfl) ?_; clear hE a; intro a hE
     refine p_nil (x_norm ?_)
     refine c_cond (t := true) hE rfl ?_
     refine c_reg R20_14_l ?_
     refine q0 p20_14_0 hE (st_assign rfl) ?_; clear hE a; intro a hE
     refine p_nil (x_norm (wp_ret (x_ret ?_)))
     refine ret_one (v := Value.int .i64 3) rfl hE (.tmp rfl .nil) ?_
     have ec : chkO (k : Int) nb l f tn = chkF k nb l f tn := by unfold chkO; rw [if_pos ⟨by omega, by omega⟩]; rfl
     exact ⟨by rw [ec]; unfold chkF; rw [if_pos (Or.inl (by omega))], K_0⟩
 ·
  refine c_reg R20_1_l ?_
  refine q0 p20_1_0 hE (st_fieldAddr Try.underlying45 rfl tS3 rfl rfl) ?_; clear hE a; intro a hE
  refine q0 p20_1_1 hE (st_load1 tA3 rfl ((blk_cell B_g1 0).trans rfl)) ?_; clear hE a; intro a hE
  refine p_cons (s_call (xs := [Operand.tmp 15]) (args := [Value.int .i64 kk]) p20_1_2 hE wn_none rfl rfl Try.func53 cl53 (parts_no kk hKN _) ?_)
  rintro e w25 ⟨rfl, hk⟩
  replace B_g1 := kp_blk B_g1 hk (fun h => h)
  replace K_0 := K_0.then_ hk (fun _ h => h.elim)
  refine ⟨_, rfl, ?_⟩; clear hE a; intro a hE
  refine q0 p20_1_3 hE (st_assign rfl) ?_; clear hE a; intro a hE
  refine p_nil (x_norm (wp_seq (c_reg R20_2_l ?_)))
  refine q0 p20_2_0 hE (st_move rfl) ?_; clear hE a; intro a hE
  refine q0 p20_2_1 hE (st_eqlS (b := true) rfl rfl (by decide +kernel)) ?_; clear hE a; intro a hE
  refine p_nil (x_norm ?_)
  refine c_cond (t := true) hE rfl ?_
  refine c_reg R20_3_l ?_
  refine q0 p20_3_0 hE (st_assign rfl) ?_; clear hE a; intro a hE
  refine p_nil (x_norm (wp_ret (x_ret ?_)))
  refine ret_one (v := Value.int .i64 6) rfl hE (.tmp rfl .nil) ?_
  exact ⟨by unfold chkO; rw [if_neg hKN], K_0⟩
end Go.Proofs.Ytgpclehnomkbmaa.Ork
