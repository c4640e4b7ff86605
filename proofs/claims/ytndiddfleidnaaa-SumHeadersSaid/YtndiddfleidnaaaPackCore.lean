/- Contracts of package pack: the cursor. -/
import Derived.Test.YtndiddfleidnaaaPHeaderBytesx1
import Derived.Test.YtndiddfleidnaaaKp
import Derived.Deep.LoopGhost
import Derived.Deep.QuietTactic
import Derived.Deep.RegionHeld3
import Derived.BigQuiet
import Derived.Lib.Hide
import Derived.Lib.SliceRun
import Derived.DataElems
set_option linter.unusedVariables false
set_option linter.unusedSimpArgs false
namespace Go.Proofs.Ytndiddfleidnaaa.Pk
open Go.RowKit Go.Proofs.YtndiddfleidnaaaW.PrintWords

/-- A cursor in block g: the bytes, how many were read, what was wrong. -/
def Cu (w : World) (g : Nat) (A : Option Addr) (n c : Nat) (at' wr' : Int) : Prop := w.heap[g]? = some (.cells #[.slice A n c, .int .i64 at', .int .i64 wr'] 201 (0, 0))
theorem err_nil (w : World) : Calls Try.prog 75 #[.pointer none] w fun e w' => e = .returned (.int .i64 13) ∧ w' = w := by
  go_enter Try.func75, Try.ntmps75
  go_wp2
  go_ret
  exact ⟨rfl, rfl⟩
theorem err_any (g : Nat) (A : Option Addr) (n c : Nat) (p r : Int) (w : World) (h : Cu w g A n c p r) : Calls Try.prog 75 #[.pointer (some ⟨g, 0, none⟩)] w fun e w' => e = .returned (.int .i64 r) ∧ w' = w := by
  have h2 := (blk_cell h 2).trans (show _ = some (.int .i64 r) from rfl)
  clear h
  go_enter Try.func75, Try.ntmps75
  go_wp2
  go_ret
  exact ⟨rfl, rfl⟩
theorem spoil_nil (e0 : Int) (w : World) : Calls Try.prog 123 #[.pointer none, .int .i64 e0] w fun e w' => e = .returned (.tuple #[]) ∧ w' = w := by
  go_enter Try.func123, Try.ntmps123
  go_wp2
  go_end0
  exact ⟨rfl, rfl⟩
theorem spoil_was (g : Nat) (A : Option Addr) (n c : Nat) (p r e0 : Int) (w : World) (h : Cu w g A n c p r) (hr : r ≠ 0) : Calls Try.prog 123 #[.pointer (some ⟨g, 0, none⟩), .int .i64 e0] w fun e w' => e = .returned (.tuple #[]) ∧ w' = w := by
  have h2 := (blk_cell h 2).trans (show _ = some (.int .i64 r) from rfl)
  have hr' : (r == 0) = false := by simpa using hr
  clear h hr
  go_enter Try.func123, Try.ntmps123
  go_wp2
  go_end0
  exact ⟨rfl, rfl⟩
theorem spoil_ok (g : Nat) (A : Option Addr) (n c : Nat) (p e0 : Int) (w : World) (h : Cu w g A n c p 0) : Calls Try.prog 123 #[.pointer (some ⟨g, 0, none⟩), .int .i64 e0] w fun e w' => e = .returned (.tuple #[]) ∧ Cu w' g A n c p e0 ∧ Kp w w' (fun k => k = g) := by
  have h2 := (blk_cell h 2).trans (show _ = some (.int .i64 0) from rfl)
  have f2 := blk_frozen h 2
  have H := Lib.hid h
  clear h
  go_enter Try.func123, Try.ntmps123
  go_wp2
  go_end0
  exact ⟨rfl, blk_put H.out 2 _ rfl, (Kp.refl w (fun k => k = g)).setCell (p := ⟨g, 2, none⟩) (.inl rfl) _⟩
theorem left_any (g : Nat) (A : Option Addr) (n c : Nat) (p r : Int) (w : World) (h : Cu w g A n c p r) (h0 : 0 ≤ p) (h1 : p ≤ n) (hn : n ≤ 9223372036854775807) : Calls Try.prog 126 #[.pointer (some ⟨g, 0, none⟩)] w fun e w' => e = .returned (.int .i64 (n - p)) ∧ ∃ m, w' = w.drewN m := by
  have q0 := (blk_cell h 0).trans (show _ = some (.slice A n c) from rfl)
  have q1 := (blk_cell h 1).trans (show _ = some (.int .i64 p) from rfl)
  have es : IntKind.i64.wrap ((n : Int) - p) = n - p := by rw [IntKind.wrap_i64]; omega
  clear h
  go_enter Try.func126, Try.ntmps126
  go_wp2_with fail
  go_quiet (fail)
  go_wp2_with fail
  go_ret
  exact ⟨rfl, _, rfl⟩
theorem Left_nil (w : World) : Calls Try.prog 76 #[.pointer none] w fun e w' => e = .returned (.int .i64 0) ∧ w' = w := by
  go_enter Try.func76, Try.ntmps76
  go_wp2
  go_ret
  exact ⟨rfl, rfl⟩
theorem Left_any (g : Nat) (A : Option Addr) (n c : Nat) (p r : Int) (w : World) (h : Cu w g A n c p r) (h0 : 0 ≤ p) (h1 : p ≤ n) (hn : n ≤ 9223372036854775807) : Calls Try.prog 76 #[.pointer (some ⟨g, 0, none⟩)] w fun e w' => e = .returned (.int .i64 (n - p)) ∧ ∃ m, w' = w.drewN m := by
  have H := Lib.hid h
  clear h
  go_enter Try.func76, Try.ntmps76
  go_wp2_with fail
  refine (left_any g A n c p r _ H.out h0 h1 hn).mono ?_
  rintro e w1 ⟨rfl, m, rfl⟩
  go_wp2_with fail
  go_ret
  exact ⟨rfl, _, rfl⟩
def spanF (n : Int) : Int := if n = 1 then 256 else if n = 2 then 65536 else if n = 4 then 4294967296 else 0
theorem span_any (n : Int) (w : World) : Calls Try.prog 121 #[.int .i64 n] w fun e w' => e = .returned (.int .i64 (spanF n)) ∧ w' = w := by
  by_cases h1 : n = 1
  · subst h1
    go_enter Try.func121, Try.ntmps121
    go_wp2
    go_ret
    exact ⟨rfl, rfl⟩
  by_cases h2 : n = 2
  · subst h2
    go_enter Try.func121, Try.ntmps121
    go_wp2
    go_ret
    exact ⟨rfl, rfl⟩
  by_cases h4 : n = 4
  · subst h4
    go_enter Try.func121, Try.ntmps121
    go_wp2
    go_ret
    exact ⟨rfl, rfl⟩
  have hs : spanF n = 0 := by unfold spanF; rw [if_neg h1, if_neg h2, if_neg h4]
  rw [hs]
  have c1 : (n == 1) = false := by simpa using h1
  have c2 : (n == 2) = false := by simpa using h2
  have c4 : (n == 4) = false := by simpa using h4
  clear h1 h2 h4 hs
  go_enter Try.func121, Try.ntmps121
  go_wp2
  go_ret
  exact ⟨rfl, rfl⟩
theorem pass_any (g : Nat) (a : Addr) (n c : Nat) (p k s : Nat) (hs : p + k = s) (r : Int) (w : World) (h : Cu w g (some a) n c p r) (hn : n ≤ c) (hpk : s ≤ n) (hc : c ≤ 9223372036854775807) : Calls Try.prog 151 #[.pointer (some ⟨g, 0, none⟩), .int .i64 k] w fun e w' => (∃ A', e = .returned (.slice (some A') k k) ∧ (k ≠ 0 → A' = a.add p)) ∧ Cu w' g (some a) n c s r ∧ Kp w w' (fun k => k = g) := by
  have q1 := (blk_cell h 1).trans (show _ = some (.int .i64 p) from rfl)
  have f1 := blk_frozen h 1
  have H := Lib.hid h
  clear h
  go_enter Try.func151, Try.ntmps151
  go_wp2_with fail
  have hsi : ((p : Int) + k) = (s : Int) := by omega
  have HX : Hid (Cu (w.setCell ⟨g, 1, none⟩ (.int .i64 ((p : Int) + k))) g (some a) n c s r) := Lib.hid (by rw [hsi]; exact blk_put H.out 1 _ rfl)
  have KX := Lib.hid ((Kp.refl w (fun k => k = g)).setCell (p := ⟨g, 1, none⟩) (.inl rfl) (.int .i64 ((p : Int) + k)))
  generalize w.setCell ⟨g, 1, none⟩ (.int .i64 ((p : Int) + k)) = w1 at HX KX ⊢
  clear q1 f1
  simp only [hsi]
  clear hsi
  have q0 := (blk_cell HX.out 0).trans (show _ = some (.slice (some a) n c) from rfl)
  have q1 := (blk_cell HX.out 1).trans (show _ = some (.int .i64 (s : Int)) from rfl)
  have es : IntKind.i64.wrap ((s : Int) - k) = p := by rw [IntKind.wrap_i64]; omega
  have b1 : p ≤ s := by omega
  have b2 : s ≤ c := by omega
  have b3 : s - p = k := by omega
  have HS := Lib.hid hs
  clear hs
  go_quiet (fail)
  go_wp2_with fail
  · go_ret
    exact ⟨⟨_, rfl, fun h => absurd (by have := HS.out; omega) h⟩, by have h2 := HX.out; rw [h] at h2; exact h2, KX.out.drewN _⟩
  · go_ret
    exact ⟨⟨_, rfl, fun _ => rfl⟩, HX.out, KX.out.drewN _⟩
theorem pass_none (g : Nat) (r : Int) (w : World) (h : Cu w g none 0 0 0 r) : Calls Try.prog 151 #[.pointer (some ⟨g, 0, none⟩), .int .i64 0] w fun e w' => e = .returned (.slice none 0 0) ∧ Cu w' g none 0 0 0 r ∧ Kp w w' (fun k => k = g) := by
  have q1 := (blk_cell h 1).trans (show _ = some (.int .i64 0) from rfl)
  have f1 := blk_frozen h 1
  have H := Lib.hid h
  clear h
  go_enter Try.func151, Try.ntmps151
  go_wp2_with fail
  have HX : Hid (Cu (w.setCell ⟨g, 1, none⟩ (.int .i64 0)) g none 0 0 0 r) := Lib.hid (blk_put H.out 1 _ rfl)
  have KX := Lib.hid ((Kp.refl w (fun k => k = g)).setCell (p := ⟨g, 1, none⟩) (.inl rfl) (.int .i64 0))
  generalize w.setCell ⟨g, 1, none⟩ (.int .i64 0) = w1 at HX KX ⊢
  clear q1 f1
  have q0 := (blk_cell HX.out 0).trans (show _ = some (.slice none 0 0) from rfl)
  have q1 := (blk_cell HX.out 1).trans (show _ = some (.int .i64 0) from rfl)
  go_quiet (fail)
  go_wp2_with fail
  go_ret
  exact ⟨rfl, HX.out, KX.out.drewN _⟩
/-- What need answers: the bytes (at p), or nothing and what is wrong now. -/
theorem need_nil (k : Int) (w : World) : Calls Try.prog 124 #[.pointer none, .int .i64 k] w fun e w' => e = .returned (.tuple #[.slice none 0 0, .bool false]) ∧ w' = w := by
  go_enter Try.func124, Try.ntmps124
  go_wp2_with fail
  refine (err_nil _).mono ?_
  rintro e w1 ⟨rfl, rfl⟩
  go_wp2_with fail
  go_ret2
  exact ⟨rfl, rfl⟩
theorem need_was (g : Nat) (A : Option Addr) (n c : Nat) (p r k : Int) (w : World) (h : Cu w g A n c p r) (hr : r ≠ 0) : Calls Try.prog 124 #[.pointer (some ⟨g, 0, none⟩), .int .i64 k] w fun e w' => e = .returned (.tuple #[.slice none 0 0, .bool false]) ∧ w' = w := by
  have H := Lib.hid h
  have hr' : (r == 0) = false := by simpa using hr
  clear h hr
  go_enter Try.func124, Try.ntmps124
  go_wp2_with fail
  refine (err_any g A n c p r _ H.out).mono ?_
  rintro e w1 ⟨rfl, rfl⟩
  go_wp2_with fail
  go_ret2
  exact ⟨rfl, rfl⟩
theorem need_neg (g : Nat) (A : Option Addr) (n c : Nat) (p k : Int) (w : World) (h : Cu w g A n c p 0) (hk : k < 0) : Calls Try.prog 124 #[.pointer (some ⟨g, 0, none⟩), .int .i64 k] w fun e w' => e = .returned (.tuple #[.slice none 0 0, .bool false]) ∧ Cu w' g A n c p 1 ∧ Kp w w' (fun k => k = g) := by
  have H := Lib.hid h
  clear h
  go_enter Try.func124, Try.ntmps124
  go_wp2_with fail
  refine (err_any g A n c p 0 _ H.out).mono ?_
  rintro e w1 ⟨rfl, rfl⟩
  go_wp2_with fail
  refine (spoil_ok g A n c p 1 _ H.out).mono ?_
  rintro e w1 ⟨rfl, h1, k1⟩
  have H1 := Lib.hid h1
  have K1 := Lib.hid k1
  clear h1 k1
  go_wp2_with fail
  go_ret2
  exact ⟨rfl, H1.out, K1.out⟩
theorem need_end (g : Nat) (A : Option Addr) (n c : Nat) (p k : Int) (w : World) (h : Cu w g A n c p 0) (h0 : 0 ≤ p) (h1 : p ≤ n) (hn : n ≤ 9223372036854775807) (hk : ¬ (k < 0)) (hk2 : n - p < k) : Calls Try.prog 124 #[.pointer (some ⟨g, 0, none⟩), .int .i64 k] w fun e w' => e = .returned (.tuple #[.slice none 0 0, .bool false]) ∧ Cu w' g A n c p 4 ∧ Kp w w' (fun k => k = g) := by
  have H := Lib.hid h
  clear h
  go_enter Try.func124, Try.ntmps124
  go_wp2_with fail
  refine (err_any g A n c p 0 _ H.out).mono ?_
  rintro e w1 ⟨rfl, rfl⟩
  go_wp2_with fail
  refine (left_any g A n c p 0 _ H.out h0 h1 hn).mono ?_
  rintro e w1 ⟨rfl, m, rfl⟩
  go_wp2_with fail
  refine (spoil_ok g A n c p 4 (World.drewN _ m) H.out).mono ?_
  rintro e w1 ⟨rfl, h1, k1⟩
  have H1 := Lib.hid h1
  have K1 := Lib.hid (((Kp.refl _ (fun k => k = g)).drewN m).then_ k1 (fun _ h => .inl h))
  clear h1 k1
  go_wp2_with fail
  go_ret2
  exact ⟨rfl, H1.out, K1.out⟩
theorem need_ok (g : Nat) (a : Addr) (n c p k s : Nat) (hs : p + k = s) (w : World) (h : Cu w g (some a) n c p 0) (hc : n ≤ c) (hc2 : c ≤ 9223372036854775807) (hsn : s ≤ n) : Calls Try.prog 124 #[.pointer (some ⟨g, 0, none⟩), .int .i64 k] w fun e w' => (∃ A', e = .returned (.tuple #[.slice (some A') k k, .bool true]) ∧ (k ≠ 0 → A' = a.add p)) ∧ Cu w' g (some a) n c s 0 ∧ Kp w w' (fun k => k = g) := by
  have H := Lib.hid h
  clear h
  go_enter Try.func124, Try.ntmps124
  go_wp2_with fail
  refine (err_any g (some a) n c p 0 _ H.out).mono ?_
  rintro e w1 ⟨rfl, rfl⟩
  go_wp2_with fail
  refine (left_any g (some a) n c p 0 _ H.out (by omega) (by omega) (by omega)).mono ?_
  rintro e w1 ⟨rfl, m, rfl⟩
  go_wp2_with fail
  refine (pass_any g a n c p k s hs 0 (World.drewN _ m) H.out hc hsn hc2).mono ?_
  rintro e w1 ⟨⟨A', rfl, hA⟩, h1, k1⟩
  have H1 := Lib.hid h1
  have HA := Lib.hid hA
  have K1 := Lib.hid (((Kp.refl _ (fun k => k = g)).drewN m).then_ k1 (fun _ h => .inl h))
  clear h1 k1 hA
  go_wp2_with fail
  go_ret2
  exact ⟨⟨A', rfl, HA.out⟩, H1.out, K1.out⟩
/-- Bytes as a number, the highest first. -/
def joinF (l : List Int) : Int := l.foldl (fun n x => n * 256 + x) 0
theorem join_take (l : List Int) (k : Nat) (h : k < l.length) : joinF (l.take (k + 1)) = joinF (l.take k) * 256 + rd l k := by
  unfold joinF
  rw [List.take_succ_eq_append_getElem h, List.foldl_append]
  simp [rd, h]
theorem join_bd (l : List Int) (hb : ∀ x ∈ l, 0 ≤ x ∧ x ≤ 255) : ∀ k, k ≤ l.length → 0 ≤ joinF (l.take k) ∧ joinF (l.take k) < 256 ^ k := by
  intro k
  induction k with
  | zero => intro _; simp [joinF]
  | succ k ih =>
    intro hk
    obtain ⟨h1, h2⟩ := ih (by omega)
    rw [join_take l k (by omega), Int.pow_succ]
    have hm : rd l k ∈ l := by unfold rd; simp [show k < l.length by omega]
    obtain ⟨h3, h4⟩ := hb _ hm
    generalize (256 : Int) ^ k = q at h2 ⊢
    omega
theorem joined_any (A : Option Addr) (c : Nat) (l : List Int) (r : Int) (hr : joinF l = r) (w : World) (h : Kd.C (Kd.int .u8) w A l.length l) (hc : l.length ≤ c) (hl : l.length ≤ 4) (hb : ∀ x ∈ l, 0 ≤ x ∧ x ≤ 255) :
    Calls Try.prog 125 #[.slice A l.length c] w fun e w' => e = .returned (.int .i64 r) ∧ w' = w := by
  subst hr
  have HR := Lib.hid h
  have HB := Lib.hid hb
  clear h hb
  go_enter Try.func125, Try.ntmps125
  go_wp2_with fail
  go_loopg [8, 3] l.length (fun gk v8 v3 wr => ∃ (k : Nat) (q : Int), v8 = .int .i64 k ∧ v3 = .int .i64 q ∧ k ≤ l.length ∧ (0 ≤ q ∧ q < 4294967296) ∧ Hid (q = joinF (l.take k)) ∧ Hid (gk = l.length - k) ∧ Hid (wr = w))
  case atStart => exact ⟨0, 0, rfl, rfl, by omega, by omega, Lib.hid (by simp [joinF]), Lib.hid (by simp), Lib.hid rfl⟩
  case round =>
    obtain ⟨k, q, rfl, rfl, hk, ⟨hq1, hq2⟩, HQ, HG, HW⟩ := hrel
    obtain rfl := HW.out
    by_cases hlt : k < l.length
    · have hq3 : q < 16777216 := by
        have h1 := (join_bd l HB.out k (by omega)).2
        rw [← HQ.out] at h1
        have h2 : (256 : Int) ^ k ≤ 256 ^ 3 := by
          have h5 : ∀ j : Nat, j < 4 → (256 : Int) ^ j ≤ 256 ^ 3 := by decide
          exact h5 k (by omega)
        have h3 : (256 : Int) ^ 3 = 16777216 := by decide
        omega
      obtain ⟨ad, had, hcell⟩ := Kd.at_int HR.out k (by omega) (by omega)
      simp only [Int.toNat_natCast] at hcell
      cases had
      have hm : rd l k ∈ l := by unfold rd; simp [hlt]
      obtain ⟨hx1, hx2⟩ := HB.out _ hm
      have HJ := Lib.hid (join_take l k hlt)
      generalize rd l k = x at hcell hx1 hx2 HJ
      clear hm
      go_wp2_with fail
      go_roundg (l.length - (k + 1))
      case measure => have := HG.out; omega
      case rel => exact ⟨k + 1, q * 256 + x, by go_num, by go_num, by omega, by omega, Lib.hid (by rw [HJ.out, ← HQ.out]), Lib.hid rfl, Lib.hid rfl⟩
    · have hkl : k = l.length := by omega
      have hq : q = joinF l := by rw [HQ.out, hkl, List.take_length]
      subst hq
      go_wp2_with fail
      go_ret
      exact ⟨rfl, rfl⟩
theorem infoB : (Try.prog.info? 5).map (fun i => (i.zero, i.size, i.bytes)) = some (some (.int .u8 0), 1, 1) := by kernel_rfl
theorem clone_nil (n c : Nat) (w : World) : Calls Try.prog 81 #[.slice none n c] w fun e w' => e = .returned (.slice none 0 0) ∧ w' = w := by
  have q22 : ∀ (w : World) (a : Option Addr) (n c n' c' : Nat), (binOp .eql 36 (.slice a n c) (.slice none n' c')).run Try.prog w = .ok (.bool a.isNone) w := fun w a n c n' c' => Lib.run_eql_slice_nil w _ _ a n c n' c' Try.underlying36
  go_enter Try.func81, Try.ntmps81
  go_wp2
  go_ret
  exact ⟨rfl, rfl⟩
theorem clone_any (a : Addr) (c : Nat) (l : List Int) (w : World) (h : Kd.C (Kd.int .u8) w (some a) l.length l) (hl : l.length ≤ 140737488355328) :
    Calls Try.prog 81 #[.slice (some a) l.length c] w fun e w' => ∃ v, e = .returned v ∧ w'.ownsRow w.heap.size 5 1 v l.length (encs (Value.int .u8) l) ∧ Below w.heap.size w w' := by
  have HR := Lib.hid h
  clear h
  have q22 : ∀ (w : World) (a : Option Addr) (n c n' c' : Nat), (binOp .eql 36 (.slice a n c) (.slice none n' c')).run Try.prog w = .ok (.bool a.isNone) w := fun w a n c n' c' => Lib.run_eql_slice_nil w _ _ a n c n' c' Try.underlying36
  go_enter Try.func81, Try.ntmps81
  go_wp2_with (first | ((with_reducible refine gate_builtin (b := .append) (xs := #[.tmp 5, .tmp 6]) rfl ?_); at_builtin; refine print_append_row_of (w0 := w) (Value.int .u8) (0 : Int) w.heap.size rfl (.tmp 5) (.tmp 6) 36 5 (.int .u8 0) 1 rfl Try.underlying36 infoB rfl (by decide) (fun _ => rfl) (.slice (some ⟨w.heap.size, 0, none⟩) 0 0) [] l (some a) l.length c rfl rfl (World.ownsRow_made w #[] 0 (Nat.le_refl _) (Nat.zero_le _) rfl) ?aR ?aB ?aS ?aL ?_; (case aR => exact Kd.reads_of_C (enc := Value.int .u8) (d := (0 : Int)) (h1 := fun _ => rfl) (Kd.C_alloc HR.out _)); (case aB => exact below_new _ _); (case aS => exact size_new _ _); (case aL => simp; omega); intro v1 w1 ho hb hg hat))
  go_ret
  exact ⟨_, rfl, by simpa using ho, hb⟩
theorem span_lit (n q : Int) (h : spanF n = q) (w : World) : Calls Try.prog 121 #[.int .i64 n] w fun e w' => e = .returned (.int .i64 q) ∧ w' = w := by
  subst h; exact span_any n w
theorem over_any (A : Option Addr) (n c : Nat) (w : World) : Calls Try.prog 72 #[.slice A n c] w fun e w' => e = .returned (.pointer (some ⟨w.heap.size, 0, none⟩)) ∧ Cu w' w.heap.size A n c 0 0 ∧ Below w.heap.size w w' := by
  go_enter Try.func72, Try.ntmps72
  go_wp2
  go_ret
  exact ⟨rfl, blk_new _ _ _, below_new _ _⟩
theorem close_nil (w : World) : Calls Try.prog 136 #[.pointer none] w fun e w' => e = .returned (.int .i64 13) ∧ w' = w := by
  go_enter Try.func136, Try.ntmps136
  go_wp2_with fail
  refine (err_nil _).mono ?_
  rintro e w1 ⟨rfl, rfl⟩
  go_wp2_with fail
  go_ret
  exact ⟨rfl, rfl⟩
theorem close_was (g : Nat) (A : Option Addr) (n c : Nat) (p r : Int) (w : World) (h : Cu w g A n c p r) (hr : r ≠ 0) : Calls Try.prog 136 #[.pointer (some ⟨g, 0, none⟩)] w fun e w' => e = .returned (.int .i64 r) ∧ w' = w := by
  have H := Lib.hid h
  have hr' : (r == 0) = false := by simpa using hr
  clear h hr
  go_enter Try.func136, Try.ntmps136
  go_wp2_with fail
  refine (err_any g A n c p r _ H.out).mono ?_
  rintro e w1 ⟨rfl, rfl⟩
  go_wp2_with fail
  go_ret
  exact ⟨rfl, rfl⟩
theorem close_ok (g : Nat) (A : Option Addr) (n c : Nat) (p q : Int) (w : World) (h : Cu w g A n c p 0) (h0 : 0 ≤ p) (h1 : p ≤ n) (hn : n ≤ 9223372036854775807) (hq : (if 0 < (n : Int) - p then 3 else 0) = q) : Calls Try.prog 136 #[.pointer (some ⟨g, 0, none⟩)] w fun e w' => e = .returned (.int .i64 q) ∧ ∃ m, w' = w.drewN m := by
  have H := Lib.hid h
  clear h
  by_cases hl : 0 < (n : Int) - p
  · rw [if_pos hl] at hq
    subst hq
    go_enter Try.func136, Try.ntmps136
    go_wp2_with fail
    refine (err_any g A n c p 0 _ H.out).mono ?_
    rintro e w1 ⟨rfl, rfl⟩
    go_wp2_with fail
    refine (left_any g A n c p 0 _ H.out h0 h1 hn).mono ?_
    rintro e w1 ⟨rfl, m, rfl⟩
    go_wp2_with fail
    go_ret
    exact ⟨rfl, _, rfl⟩
  · rw [if_neg hl] at hq
    subst hq
    go_enter Try.func136, Try.ntmps136
    go_wp2_with fail
    refine (err_any g A n c p 0 _ H.out).mono ?_
    rintro e w1 ⟨rfl, rfl⟩
    go_wp2_with fail
    refine (left_any g A n c p 0 _ H.out h0 h1 hn).mono ?_
    rintro e w1 ⟨rfl, m, rfl⟩
    go_wp2_with fail
    go_ret
    exact ⟨rfl, _, rfl⟩
theorem joined_none (w : World) : Calls Try.prog 125 #[.slice none 0 0] w fun e w' => e = .returned (.int .i64 0) ∧ w' = w :=
  joined_any none 0 [] 0 rfl w (Kd.C_nil _ _) (Nat.le_refl _) (by simp) (by simp)
theorem take_nil (n : Int) (w : World) : Calls Try.prog 73 #[.pointer none, .int .i64 n] w fun e w' => e = .returned (.int .i64 0) ∧ w' = w := by
  obtain ⟨q, hq⟩ : ∃ q, spanF n = q := ⟨_, rfl⟩
  have HQ := Lib.hid hq
  clear hq
  by_cases h0 : q = 0
  · subst h0
    go_enter Try.func73, Try.ntmps73
    go_wp2_with fail
    refine (span_lit n 0 HQ.out _).mono ?_
    rintro e w1 ⟨rfl, rfl⟩
    go_wp2_with fail
    refine (spoil_nil 1 _).mono ?_
    rintro e w1 ⟨rfl, rfl⟩
    go_wp2_with fail
    refine (need_nil n _).mono ?_
    rintro e w1 ⟨rfl, rfl⟩
    go_wp2_with fail
    refine (joined_none _).mono ?_
    rintro e w1 ⟨rfl, rfl⟩
    go_wp2_with fail
    go_ret
    exact ⟨rfl, rfl⟩
  · have h1 : (q == 0) = false := by simpa using h0
    clear h0
    go_enter Try.func73, Try.ntmps73
    go_wp2_with fail
    refine (span_lit n q HQ.out _).mono ?_
    rintro e w1 ⟨rfl, rfl⟩
    go_wp2_with fail
    refine (need_nil n _).mono ?_
    rintro e w1 ⟨rfl, rfl⟩
    go_wp2_with fail
    refine (joined_none _).mono ?_
    rintro e w1 ⟨rfl, rfl⟩
    go_wp2_with fail
    go_ret
    exact ⟨rfl, rfl⟩
theorem bytes_nil (n : Int) (w : World) : Calls Try.prog 74 #[.pointer none, .int .i64 n] w fun e w' => e = .returned (.slice none 0 0) ∧ w' = w := by
  go_enter Try.func74, Try.ntmps74
  go_wp2_with fail
  refine (need_nil n _).mono ?_
  rintro e w1 ⟨rfl, rfl⟩
  go_wp2_with fail
  refine (clone_nil 0 0 _).mono ?_
  rintro e w1 ⟨rfl, rfl⟩
  go_wp2_with fail
  go_ret
  exact ⟨rfl, rfl⟩
theorem within_nil (n : Int) (w : World) : Calls Try.prog 134 #[.pointer none, .int .i64 n] w fun e w' => e = .returned (.pointer (some ⟨w.heap.size, 0, none⟩)) ∧ Cu w' w.heap.size none 0 0 0 13 ∧ Below w.heap.size w w' := by
  go_enter Try.func134, Try.ntmps134
  go_wp2_with fail
  refine (need_nil n _).mono ?_
  rintro e w1 ⟨rfl, rfl⟩
  go_wp2_with fail
  refine (clone_nil 0 0 _).mono ?_
  rintro e w1 ⟨rfl, rfl⟩
  go_wp2_with fail
  refine (over_any none 0 0 _).mono ?_
  rintro e w2 ⟨rfl, h2, b2⟩
  have H2 := Lib.hid h2
  have B2 := Lib.hid b2
  clear h2 b2
  go_wp2_with fail
  refine (err_nil _).mono ?_
  rintro e w3 ⟨rfl, rfl⟩
  go_wp2_with fail
  refine (spoil_ok _ none 0 0 0 13 _ H2.out).mono ?_
  rintro e w4 ⟨rfl, h4, k4⟩
  have H4 := Lib.hid h4
  have B4 := Lib.hid (B2.out.trans (k4.to B2.out.size (fun k hk => hk ▸ Nat.le_refl _)))
  clear h4 k4
  go_wp2_with fail
  go_ret
  exact ⟨rfl, H4.out, B4.out⟩
theorem many_nil (n k : Int) (w : World) : Calls Try.prog 155 #[.pointer none, .int .i64 n, .int .i64 k] w fun e w' => e = .returned (.slice none 0 0) ∧ w' = w := by
  obtain ⟨q, hq⟩ : ∃ q, spanF n = q := ⟨_, rfl⟩
  have HQ := Lib.hid hq
  clear hq
  by_cases h0 : q = 0
  · subst h0
    go_enter Try.func155, Try.ntmps155
    go_wp2_with fail
    refine (span_lit n 0 HQ.out _).mono ?_
    rintro e w1 ⟨rfl, rfl⟩
    go_wp2_with fail
    refine (spoil_nil 1 _).mono ?_
    rintro e w1 ⟨rfl, rfl⟩
    go_wp2_with fail
    go_ret
    exact ⟨rfl, rfl⟩
  · have h1 : (q == 0) = false := by simpa using h0
    clear h0
    by_cases hk : k < 0
    · have hk' : decide (k < 0) = true := by simpa using hk
      clear hk
      go_enter Try.func155, Try.ntmps155
      go_wp2_with fail
      refine (span_lit n q HQ.out _).mono ?_
      rintro e w1 ⟨rfl, rfl⟩
      go_wp2_with fail
      refine (spoil_nil 1 _).mono ?_
      rintro e w1 ⟨rfl, rfl⟩
      go_wp2_with fail
      go_ret
      exact ⟨rfl, rfl⟩
    · have hk' : decide (k < 0) = false := by simpa using hk
      clear hk
      go_enter Try.func155, Try.ntmps155
      go_wp2_with fail
      refine (span_lit n q HQ.out _).mono ?_
      rintro e w1 ⟨rfl, rfl⟩
      go_wp2_with fail
      refine (err_nil _).mono ?_
      rintro e w1 ⟨rfl, rfl⟩
      go_wp2_with fail
      refine (err_nil _).mono ?_
      rintro e w1 ⟨rfl, rfl⟩
      go_wp2_with fail
      go_ret
      exact ⟨rfl, rfl⟩
theorem sub_row {a A' : Addr} {n p k s : Nat} {l : List Int} {w : World} (hl : l.length = n) (h : Kd.C (Kd.int .u8) w (some a) n l) (hs : p + k = s) (hsn : s ≤ n) (hA : k ≠ 0 → A' = a.add p) : Kd.C (Kd.int .u8) w (some A') k ((l.drop p).take k) := by
  refine ⟨by simp; omega, by have := h.2.1; omega, fun h0 => ⟨A', rfl, fun j x hj => ?_⟩⟩
  obtain ⟨ad, he, hc⟩ := h.2.2 (by omega)
  injection he with he
  subst he
  have hj' : j < k := by
    have := (List.getElem?_eq_some_iff.1 hj).1
    simp at this; omega
  rw [List.getElem?_take_of_lt hj', List.getElem?_drop] at hj
  obtain ⟨c, h1, h2, h3⟩ := hc (p + j) x hj
  refine ⟨c, h1, h2, fun i u hu => ?_⟩
  rw [hA (by omega)]
  have h4 := h3 i u hu
  have h5 : (Kd.int .u8).sz = 1 := rfl
  rw [h5] at h4 ⊢
  rw [Go.Addr.add_add] 
  rw [show p + (j * 1 + i) = (p + j) * 1 + i by omega]
  exact h4
theorem take_was (g : Nat) (A : Option Addr) (n c : Nat) (p r k q : Int) (hq : spanF k = q) (w : World) (h : Cu w g A n c p r) (hr : r ≠ 0) : Calls Try.prog 73 #[.pointer (some ⟨g, 0, none⟩), .int .i64 k] w fun e w' => e = .returned (.int .i64 0) ∧ w' = w := by
  have H := Lib.hid h
  have HQ := Lib.hid hq
  have HR := Lib.hid hr
  clear h hq hr
  by_cases h0 : q = 0
  · subst h0
    go_enter Try.func73, Try.ntmps73
    go_wp2_with fail
    refine (span_lit k 0 HQ.out _).mono ?_
    rintro e w1 ⟨rfl, rfl⟩
    go_wp2_with fail
    refine (spoil_was g A n c p r 1 _ H.out HR.out).mono ?_
    rintro e w1 ⟨rfl, rfl⟩
    go_wp2_with fail
    refine (need_was g A n c p r k _ H.out HR.out).mono ?_
    rintro e w1 ⟨rfl, rfl⟩
    go_wp2_with fail
    refine (joined_none _).mono ?_
    rintro e w1 ⟨rfl, rfl⟩
    go_wp2_with fail
    go_ret
    exact ⟨rfl, rfl⟩
  · have h1 : (q == 0) = false := by simpa using h0
    clear h0
    go_enter Try.func73, Try.ntmps73
    go_wp2_with fail
    refine (span_lit k q HQ.out _).mono ?_
    rintro e w1 ⟨rfl, rfl⟩
    go_wp2_with fail
    refine (need_was g A n c p r k _ H.out HR.out).mono ?_
    rintro e w1 ⟨rfl, rfl⟩
    go_wp2_with fail
    refine (joined_none _).mono ?_
    rintro e w1 ⟨rfl, rfl⟩
    go_wp2_with fail
    go_ret
    exact ⟨rfl, rfl⟩
theorem take_bad (g : Nat) (A : Option Addr) (n c : Nat) (p k : Int) (hq : spanF k = 0) (w : World) (h : Cu w g A n c p 0) : Calls Try.prog 73 #[.pointer (some ⟨g, 0, none⟩), .int .i64 k] w fun e w' => e = .returned (.int .i64 0) ∧ Cu w' g A n c p 1 ∧ Kp w w' (fun k => k = g) := by
  have H := Lib.hid h
  have HQ := Lib.hid hq
  clear h hq
  go_enter Try.func73, Try.ntmps73
  go_wp2_with fail
  refine (span_lit k 0 HQ.out _).mono ?_
  rintro e w1 ⟨rfl, rfl⟩
  go_wp2_with fail
  refine (spoil_ok g A n c p 1 _ H.out).mono ?_
  rintro e w1 ⟨rfl, h1, k1⟩
  have H1 := Lib.hid h1
  have K1 := Lib.hid k1
  clear h1 k1
  go_wp2_with fail
  refine (need_was g A n c p 1 k _ H1.out (by decide)).mono ?_
  rintro e w2 ⟨rfl, rfl⟩
  go_wp2_with fail
  refine (joined_none _).mono ?_
  rintro e w3 ⟨rfl, rfl⟩
  go_wp2_with fail
  go_ret
  exact ⟨rfl, H1.out, K1.out⟩
theorem take_end (g : Nat) (A : Option Addr) (n c : Nat) (p k q : Int) (hq : spanF k = q) (hq0 : q ≠ 0) (w : World) (h : Cu w g A n c p 0) (h0 : 0 ≤ p) (h1 : p ≤ n) (hn : n ≤ 9223372036854775807) (hk : ¬ (k < 0)) (hk2 : n - p < k) : Calls Try.prog 73 #[.pointer (some ⟨g, 0, none⟩), .int .i64 k] w fun e w' => e = .returned (.int .i64 0) ∧ Cu w' g A n c p 4 ∧ Kp w w' (fun k => k = g) := by
  have H := Lib.hid h
  have HQ := Lib.hid hq
  have hq1 : (q == 0) = false := by simpa using hq0
  clear h hq hq0
  go_enter Try.func73, Try.ntmps73
  go_wp2_with fail
  refine (span_lit k q HQ.out _).mono ?_
  rintro e w1 ⟨rfl, rfl⟩
  go_wp2_with fail
  refine (need_end g A n c p k _ H.out h0 h1 hn (by omega) hk2).mono ?_
  rintro e w1 ⟨rfl, h1, k1⟩
  have H1 := Lib.hid h1
  have K1 := Lib.hid k1
  clear h1 k1
  go_wp2_with fail
  refine (joined_none _).mono ?_
  rintro e w3 ⟨rfl, rfl⟩
  go_wp2_with fail
  go_ret
  exact ⟨rfl, H1.out, K1.out⟩
theorem take_ok (g : Nat) (a : Addr) (c : Nat) (l : List Int) (p k s : Nat) (r q : Int) (hr : joinF ((l.drop p).take k) = r) (hs : p + k = s) (hq : spanF k = q) (hq0 : q ≠ 0) (hk4 : k ≤ 4) (w : World) (h : Cu w g (some a) l.length c p 0) (hC : Kd.C (Kd.int .u8) w (some a) l.length l) (hb : ∀ x ∈ l, 0 ≤ x ∧ x ≤ 255) (hg : ∀ w', Kp w w' (fun k => k = g) → Kd.C (Kd.int .u8) w' (some a) l.length l) (hc : l.length ≤ c) (hc2 : c ≤ 9223372036854775807) (hsn : s ≤ l.length) :
    Calls Try.prog 73 #[.pointer (some ⟨g, 0, none⟩), .int .i64 k] w fun e w' => e = .returned (.int .i64 r) ∧ Cu w' g (some a) l.length c s 0 ∧ Kp w w' (fun k => k = g) := by
  have H := Lib.hid h
  have HC := Lib.hid hC
  have HG := Lib.hid hg
  have HQ := Lib.hid hq
  have HR := Lib.hid hr
  have HS := Lib.hid hs
  have HBb := Lib.hid hb
  have hq1 : (q == 0) = false := by simpa using hq0
  clear h hC hg hq hq0 hr hb
  go_enter Try.func73, Try.ntmps73
  go_wp2_with fail
  refine (span_lit k q HQ.out _).mono ?_
  rintro e w1 ⟨rfl, rfl⟩
  go_wp2_with fail
  refine (need_ok g a l.length c p k s HS.out _ H.out hc hc2 hsn).mono ?_
  rintro e w1 ⟨⟨A', rfl, hA⟩, h1, k1⟩
  have hrow := sub_row rfl (HG.out _ k1) HS.out hsn hA
  have hlen : ((l.drop p).take k).length = k := by simp; omega
  have HJ := Lib.hid (joined_any (some A') k ((l.drop p).take k) r HR.out w1 (by rw [hlen]; exact hrow) (by omega) (by omega) (fun x hx => HBb.out x (List.mem_of_mem_drop (List.mem_of_mem_take hx))))
  rw [hlen] at HJ
  have H1 := Lib.hid h1
  have K1 := Lib.hid k1
  clear h1 k1 hrow hlen hA
  go_wp2_with fail
  refine HJ.out.mono ?_
  rintro e w3 ⟨rfl, rfl⟩
  go_wp2_with fail
  go_ret
  exact ⟨rfl, H1.out, K1.out⟩
def fitsF (k : Int) (l : List Int) : Bool := decide (0 < spanF k) && l.all (fun n => decide (0 ≤ n ∧ n < spanF k))
theorem span_bd (k : Int) : 0 ≤ spanF k ∧ spanF k ≤ 4294967296 := by
  unfold spanF
  split
  · omega
  · split
    · omega
    · split <;> omega
theorem fits_any (A : Option Addr) (c : Nat) (k : Int) (l : List Int) (r : Bool) (hr : fitsF k l = r) (w : World) (h : Kd.C (Kd.int .i64) w A l.length l) (hc : l.length ≤ c) :
    Calls Try.prog 69 #[.int .i64 k, .slice A l.length c] w fun e w' => e = .returned (.bool r) ∧ w' = w := by
  have hc2 := h.2.1
  obtain ⟨q, hq⟩ : ∃ q, spanF k = q := ⟨_, rfl⟩
  have hqb := span_bd k
  rw [hq] at hqb
  obtain ⟨hqb1, hqb2⟩ := hqb
  have HQ := Lib.hid hq
  have HR := Lib.hid hr
  have HC := Lib.hid h
  clear hq hr h
  go_enter Try.func69, Try.ntmps69
  go_wp2_with fail
  refine (span_lit k q HQ.out _).mono ?_
  rintro e w1 ⟨rfl, rfl⟩
  go_wp2_with fail
  go_loopg [12] l.length (fun gk v12 wr => ∃ (j : Nat), v12 = .int .i64 j ∧ j ≤ l.length ∧ Hid (gk = l.length - j) ∧ Hid (∀ i, i < j → 0 ≤ rd l i ∧ rd l i < q) ∧ Hid (wr = w1))
  case atStart => exact ⟨0, rfl, by omega, Lib.hid (by simp), Lib.hid (fun i hi => by omega), Lib.hid rfl⟩
  case round =>
    obtain ⟨j, rfl, hj, HG, HF, HW⟩ := hrel
    obtain rfl := HW.out
    by_cases hlt : j < l.length
    · obtain ⟨ad, had, hcell⟩ := Kd.at_int HC.out j (by omega) (by omega)
      simp only [Int.toNat_natCast] at hcell
      cases had
      have hm : rd l j ∈ l := by unfold rd; simp [hlt]
      by_cases hx : 0 ≤ rd l j ∧ rd l j < q
      · have HF2 : Hid (∀ i, i < j + 1 → 0 ≤ rd l i ∧ rd l i < q) := Lib.hid (fun i hi => by
          by_cases he : i = j
          · subst he; exact hx
          · exact HF.out i (by omega))
        generalize rd l j = x at hcell hx
        have c1 : decide (x < 0) = false := by simp only [decide_eq_false_iff_not]; omega
        have c2 : decide (q ≤ x) = false := by simp only [decide_eq_false_iff_not]; omega
        clear hx hm
        go_wp2_with fail
        go_roundg (l.length - (j + 1))
        case measure => have := HG.out; omega
        case rel => exact ⟨j + 1, by go_num, by omega, Lib.hid rfl, HF2, Lib.hid rfl⟩
      · have hf : r = false := by
          rw [← HR.out]
          unfold fitsF
          rw [HQ.out, Bool.and_eq_false_iff]
          right
          rw [List.all_eq_false]
          exact ⟨_, hm, by simpa using hx⟩
        subst hf
        generalize rd l j = x at hcell hx
        clear hm
        by_cases h0 : x < 0
        · have c1 : decide (x < 0) = true := by simpa using h0
          clear hx h0
          go_wp2_with fail
          try rw [Exit.noGoto_ret]
          go_ret
          exact ⟨rfl, rfl⟩
        · have c1 : decide (x < 0) = false := by simpa using h0
          have c2 : decide (q ≤ x) = true := by simp only [decide_eq_true_eq]; omega
          clear hx h0
          go_wp2_with fail
          try rw [Exit.noGoto_ret]
          go_ret
          exact ⟨rfl, rfl⟩
    · have hf : decide (0 < q) = r := by
        rw [← HR.out]
        unfold fitsF
        rw [HQ.out]
        have ha : l.all (fun n => decide (0 ≤ n ∧ n < q)) = true := by
          rw [List.all_eq_true]
          intro x hx
          obtain ⟨i, hi, rfl⟩ := List.getElem_of_mem hx
          have := HF.out i (by omega)
          unfold rd at this
          simp [hi] at this
          simpa using this
        rw [ha]; simp
      go_wp2_with fail
      go_ret
      exact ⟨by simp [hf], rfl⟩
theorem own_slice {w : World} {base e n : Nat} {v : Value} {xs : List Value} (h : w.ownsRow base e 1 v n xs) : ∃ A c, v = .slice A n c ∧ n ≤ c := by
  rcases h.2 with ⟨rfl, hn⟩ | ⟨g, cap, cur, rfl, _, _, hnc, _⟩
  · exact ⟨none, 0, by simp [hn], by omega⟩
  · exact ⟨_, _, rfl, hnc⟩
theorem clone_all (A : Option Addr) (c : Nat) (l : List Int) (w : World) (h : Kd.C (Kd.int .u8) w A l.length l) (hl : l.length ≤ 140737488355328) :
    Calls Try.prog 81 #[.slice A l.length c] w fun e w' => ∃ v, e = .returned v ∧ w'.ownsRow w.heap.size 5 1 v l.length (encs (Value.int .u8) l) ∧ Below w.heap.size w w' := by
  cases A with
  | some a => exact clone_any a c l w h hl
  | none =>
    have h0 : l = [] := by
      cases l with
      | nil => rfl
      | cons x l => obtain ⟨ad, he, _⟩ := h.2.2 (by simp); cases he
    subst h0
    refine (clone_nil 0 c w).mono ?_
    rintro e w' ⟨rfl, rfl⟩
    exact ⟨_, rfl, own_nil _ _ _ _, Below.refl _ _⟩
def digF (k n : Int) : List Int := if k = 4 then [n / 16777216 % 256, n / 65536 % 256, n / 256 % 256, n % 256] else if k = 2 then [n / 256 % 256, n % 256] else [n % 256]
def putF (k : Int) (l : List Int) : List Int := l.flatMap (digF k)
theorem put_take (k : Int) (l : List Int) (j : Nat) (h : j < l.length) : putF k (l.take (j + 1)) = putF k (l.take j) ++ digF k (rd l j) := by
  unfold putF
  rw [List.take_succ_eq_append_getElem h, List.flatMap_append]
  simp [rd, h]
theorem put_len (k : Int) (l : List Int) (j : Nat) : (putF k (l.take j)).length ≤ (putF k l).length := by
  have h : putF k l = putF k (l.take j) ++ putF k (l.drop j) := by
    unfold putF
    rw [← List.flatMap_append, List.take_append_drop]
  rw [h, List.length_append]; omega
theorem fits_rd (k : Int) (l : List Int) (j : Nat) (h : fitsF k l = true) (hj : j < l.length) : 0 ≤ rd l j ∧ rd l j < spanF k := by
  unfold fitsF at h
  rw [Bool.and_eq_true, List.all_eq_true] at h
  have hm : rd l j ∈ l := by unfold rd; simp [hj]
  simpa using h.2 _ hm
theorem put_bad (A B : Option Addr) (n c m cl : Nat) (k : Int) (l : List Int) (hm : m = l.length) (hf : fitsF k l = false) (w : World) (h : Kd.C (Kd.int .i64) w B l.length l) (hc : l.length ≤ cl) :
    Calls Try.prog 77 #[.slice A n c, .int .i64 k, .slice B m cl] w fun e w' => e = .returned (.tuple #[.slice none 0 0, .int .i64 1]) ∧ w' = w := by
  subst hm
  have HF := Lib.hid hf
  have HL := Lib.hid h
  clear hf h
  go_enter Try.func77, Try.ntmps77
  go_wp2_with fail
  refine (fits_any B cl k l false HF.out _ HL.out hc).mono ?_
  rintro e w1 ⟨rfl, rfl⟩
  go_wp2_with fail
  go_ret2
  exact ⟨rfl, rfl⟩
theorem reads_two (w : World) (x y : Int) (T : TypeId) : ReadsOf (Value.int .u8) (0 : Int) (w.alloc (.cells #[.int .u8 x, .int .u8 y] T)) (some ⟨w.heap.size, 0, none⟩) 2 [x, y] := by
  refine ⟨rfl, by omega, fun _ => ⟨_, rfl, fun j hj => ?_⟩⟩
  have := blk_cell (blk_new w #[.int .u8 x, .int .u8 y] T) (0 + j)
  have e : (Addr.add ⟨w.heap.size, 0, none⟩ j) = ⟨w.heap.size, 0 + j, none⟩ := by unfold Addr.add; split <;> simp_all
  rw [e, this]
  match j, hj with
  | 0, _ => rfl
  | 1, _ => rfl
set_option maxHeartbeats 4000000 in
theorem put_1 (A B : Option Addr) (c cl : Nat) (b l : List Int) (hf : fitsF 1 l = true) (w : World) (hb : Kd.C (Kd.int .u8) w A b.length b) (h : Kd.C (Kd.int .i64) w B l.length l) (hc : l.length ≤ cl) (hbl : b.length ≤ 140737488000000) :
    Calls Try.prog 77 #[.slice A b.length c, .int .i64 1, .slice B l.length cl] w fun e w' => ∃ v r, e = .returned (.tuple #[v, .int .i64 r]) ∧ ((r = 0 ∧ (b ++ putF 1 l).length ≤ 1280 ∧ w'.ownsRow w.heap.size 5 1 v (b ++ putF 1 l).length (encs (Value.int .u8) (b ++ putF 1 l))) ∨ (r = 2 ∧ 1280 < (b ++ putF 1 l).length ∧ v = .slice none 0 0)) ∧ Below w.heap.size w w' := by
  have hc2 := h.2.1
  have HF := Lib.hid hf
  have HL := Lib.hid h
  have HBy := Lib.hid hb
  clear hf h hb
  go_enter Try.func77, Try.ntmps77
  go_wp2_with fail
  refine (fits_any B cl 1 l true HF.out _ HL.out hc).mono ?_
  rintro e w1 ⟨rfl, rfl⟩
  go_wp2_with fail
  refine (clone_all A c b _ HBy.out (by omega)).mono ?_
  rintro e w2 ⟨v0, rfl, ho, hbel⟩
  have HO := Lib.hid ho
  have HB := Lib.hid hbel
  clear ho hbel
  go_wp2_with fail
  go_loopg [19, 8] l.length (fun gk v19 v8 wr => ∃ (j : Nat) (L : List Int), v19 = .int .i64 j ∧ j ≤ l.length ∧ Hid (gk = l.length - j) ∧ Hid (L = b ++ putF 1 (l.take j)) ∧ Hid (wr.ownsRow w1.heap.size 5 1 v8 L.length (encs (Value.int .u8) L)) ∧ (0 < j → L.length ≤ 1280) ∧ Hid (L.length ≤ b.length + 1280) ∧ Hid (Below w1.heap.size w1 wr))
  case atStart => exact ⟨0, b, rfl, by omega, Lib.hid (by simp), Lib.hid (by simp [putF]), HO, fun h => by omega, Lib.hid (by omega), HB⟩
  case round =>
    clear HO HB
    obtain ⟨j, L, rfl, hj, HG, HE, HO, hL, HLn, HB⟩ := hrel
    obtain ⟨A8, c8, hv8, hc8⟩ := own_slice HO.out
    subst hv8
    by_cases hlt : j < l.length
    · obtain ⟨ad, had, hcell⟩ := Kd.at_int (Kd.C_below HL.out HB.out) j (by omega) (by omega)
      simp only [Int.toNat_natCast] at hcell
      cases had
      have hx : 0 ≤ rd l j ∧ rd l j < 256 := fits_rd 1 l j HF.out hlt
      have HPT := Lib.hid (put_take 1 l j hlt)
      generalize rd l j = x at hcell hx HPT
      obtain ⟨hx1, hx2⟩ := hx
      have HX9 : Hid (L.length ≤ 140737488300000) := Lib.hid (by have := HLn.out; omega)
      go_wp2_with (first | ((with_reducible refine gate_builtin (b := .append) (xs := #[.tmp 43, .tmp 46]) rfl ?_); at_builtin; refine print_append (w0 := w1) w1.heap.size rfl (.tmp 43) (.tmp 46) 36 5 (.int .u8 0) 1 rfl Try.underlying36 infoB rfl (by decide) (.slice A8 L.length c8) (encs (Value.int .u8) L) (.int .u8 x) rfl rfl rfl ?aO ?aB ?aS ?aL ?_; (case aO => simpa [encs] using HO.out); (case aB => exact HB.out); (case aS => exact HB.out.size); (case aL => have := HX9.out; simp [encs]; omega); intro v1 w5 ho hb5 hg5 hat5; (have ho2 : w5.ownsRow w1.heap.size 5 1 v1 (L ++ [x]).length (encs (Value.int .u8) (L ++ [x])) := by simpa [encs] using ho); obtain ⟨A9, c9, hv9, hc9⟩ := own_slice ho2; subst hv9; have HO2 := Lib.hid ho2; have HB2 := Lib.hid hb5; clear ho ho2 hg5 hat5 hb5; (obtain ⟨L2, hL2⟩ : ∃ L2, L ++ [x] = L2 := ⟨_, rfl⟩); rw [hL2] at HO2 hc9 ⊢; have HL2 := Lib.hid hL2; clear hL2))
      · have HE2 : Hid (L2 = b ++ putF 1 (l.take (j + 1))) := Lib.hid (by rw [← HL2.out, HE.out, HPT.out, List.append_assoc]; congr 2; unfold digF; simp; omega)
        rename_i hlong
        try rw [Exit.noGoto_ret]
        go_ret2
        refine ⟨_, 2, rfl, .inr ⟨rfl, ?_, rfl⟩, HB2.out⟩
        have h1 := put_len 1 l (j + 1)
        have h2 := HE2.out
        subst h2
        simp only [List.length_append] at hlong ⊢
        omega
      · have HE2 : Hid (L2 = b ++ putF 1 (l.take (j + 1))) := Lib.hid (by rw [← HL2.out, HE.out, HPT.out, List.append_assoc]; congr 2; unfold digF; simp; omega)
        rename_i hshort
        go_roundg (l.length - (j + 1))
        case measure => have := HG.out; omega
        case rel => exact ⟨j + 1, L2, by go_num, by omega, Lib.hid rfl, HE2, HO2, fun _ => by omega, Lib.hid (by omega), HB2⟩
    · have hjl : j = l.length := by omega
      have HE3 : Hid (L = b ++ putF 1 l) := Lib.hid (by rw [HE.out, hjl, List.take_length])
      go_wp2_with fail
      · rename_i hlong
        go_ret2
        refine ⟨_, 2, rfl, .inr ⟨rfl, ?_, rfl⟩, HB.out⟩
        rw [← HE3.out]; omega
      · rename_i hshort
        go_ret2
        refine ⟨_, 0, rfl, .inl ⟨rfl, ?_, ?_⟩, HB.out⟩
        · rw [← HE3.out]; omega
        · rw [← HE3.out]; exact HO.out
set_option maxHeartbeats 4000000 in
theorem put_2 (A B : Option Addr) (c cl : Nat) (b l : List Int) (hf : fitsF 2 l = true) (w : World) (hb : Kd.C (Kd.int .u8) w A b.length b) (h : Kd.C (Kd.int .i64) w B l.length l) (hc : l.length ≤ cl) (hbl : b.length ≤ 140737488000000) :
    Calls Try.prog 77 #[.slice A b.length c, .int .i64 2, .slice B l.length cl] w fun e w' => ∃ v r, e = .returned (.tuple #[v, .int .i64 r]) ∧ ((r = 0 ∧ (b ++ putF 2 l).length ≤ 1280 ∧ w'.ownsRow w.heap.size 5 1 v (b ++ putF 2 l).length (encs (Value.int .u8) (b ++ putF 2 l))) ∨ (r = 2 ∧ 1280 < (b ++ putF 2 l).length ∧ v = .slice none 0 0)) ∧ Below w.heap.size w w' := by
  have hc2 := h.2.1
  have HF := Lib.hid hf
  have HL := Lib.hid h
  have HBy := Lib.hid hb
  clear hf h hb
  go_enter Try.func77, Try.ntmps77
  go_wp2_with fail
  refine (fits_any B cl 2 l true HF.out _ HL.out hc).mono ?_
  rintro e w1 ⟨rfl, rfl⟩
  go_wp2_with fail
  refine (clone_all A c b _ HBy.out (by omega)).mono ?_
  rintro e w2 ⟨v0, rfl, ho, hbel⟩
  have HO := Lib.hid ho
  have HB := Lib.hid hbel
  clear ho hbel
  go_wp2_with fail
  go_loopg [19, 8] l.length (fun gk v19 v8 wr => ∃ (j : Nat) (L : List Int), v19 = .int .i64 j ∧ j ≤ l.length ∧ Hid (gk = l.length - j) ∧ Hid (L = b ++ putF 2 (l.take j)) ∧ Hid (wr.ownsRow w1.heap.size 5 1 v8 L.length (encs (Value.int .u8) L)) ∧ (0 < j → L.length ≤ 1280) ∧ Hid (L.length ≤ b.length + 1280) ∧ Hid (Below w1.heap.size w1 wr))
  case atStart => exact ⟨0, b, rfl, by omega, Lib.hid (by simp), Lib.hid (by simp [putF]), HO, fun h => by omega, Lib.hid (by omega), HB⟩
  case round =>
    clear HO HB
    obtain ⟨j, L, rfl, hj, HG, HE, HO, hL, HLn, HB⟩ := hrel
    obtain ⟨A8, c8, hv8, hc8⟩ := own_slice HO.out
    subst hv8
    by_cases hlt : j < l.length
    · obtain ⟨ad, had, hcell⟩ := Kd.at_int (Kd.C_below HL.out HB.out) j (by omega) (by omega)
      simp only [Int.toNat_natCast] at hcell
      cases had
      have hx : 0 ≤ rd l j ∧ rd l j < 65536 := fits_rd 2 l j HF.out hlt
      have HPT := Lib.hid (put_take 2 l j hlt)
      generalize rd l j = x at hcell hx HPT
      obtain ⟨hx1, hx2⟩ := hx
      have HX9 : Hid (L.length ≤ 140737488300000) := Lib.hid (by have := HLn.out; omega)
      go_wp2_with (first | ((with_reducible refine gate_builtin (b := .append) (xs := #[.tmp 37, .tmp 41]) rfl ?_); at_builtin; refine print_append (w0 := w1) w1.heap.size rfl (.tmp 37) (.tmp 41) 36 5 (.int .u8 0) 1 rfl Try.underlying36 infoB rfl (by decide) (.slice A8 L.length c8) (encs (Value.int .u8) L) (.int .u8 (x / 256)) rfl rfl rfl ?aO1 ?aB1 ?aS1 ?aL1 ?_; (case aO1 => simpa [encs] using HO.out); (case aB1 => exact HB.out); (case aS1 => exact HB.out.size); (case aL1 => have := HX9.out; (try have := Hna.out); (try have := Hnb.out); simp [encs]; omega); intro v51 w51 ho hb5 hg5 hat5; (have ho2 : w51.ownsRow w1.heap.size 5 1 v51 (L ++ [(x / 256)]).length (encs (Value.int .u8) (L ++ [(x / 256)])) := by simpa [encs] using ho); obtain ⟨Aa, ca, hv9, hc9La⟩ := own_slice ho2; subst hv9; have HOa := Lib.hid ho2; have HBa := Lib.hid hb5; clear ho ho2 hg5 hat5 hb5; (obtain ⟨La, hL2⟩ : ∃ z, (L ++ [(x / 256)]) = z := ⟨_, rfl⟩); rw [hL2] at HOa hc9La ⊢; have HLa := Lib.hid hL2; have Hna := Lib.hid (show La.length = L.length + 1 by rw [← hL2]; simp); clear hL2) | ((with_reducible refine gate_builtin (b := .append) (xs := #[.tmp 43, .tmp 46]) rfl ?_); at_builtin; refine print_append (w0 := w1) w1.heap.size rfl (.tmp 43) (.tmp 46) 36 5 (.int .u8 0) 1 rfl Try.underlying36 infoB rfl (by decide) (.slice Aa La.length ca) (encs (Value.int .u8) La) (.int .u8 (x % 256)) rfl rfl rfl ?aO2 ?aB2 ?aS2 ?aL2 ?_; (case aO2 => simpa [encs] using HOa.out); (case aB2 => exact HBa.out); (case aS2 => exact HBa.out.size); (case aL2 => have := HX9.out; (try have := Hna.out); (try have := Hnb.out); simp [encs]; omega); intro v52 w52 ho hb5 hg5 hat5; (have ho2 : w52.ownsRow w1.heap.size 5 1 v52 (La ++ [(x % 256)]).length (encs (Value.int .u8) (La ++ [(x % 256)])) := by simpa [encs] using ho); obtain ⟨A9, c9, hv9, hc9L2⟩ := own_slice ho2; subst hv9; have HO2 := Lib.hid ho2; have HB2 := Lib.hid hb5; clear ho ho2 hg5 hat5 hb5; (obtain ⟨L2, hL2⟩ : ∃ z, (La ++ [(x % 256)]) = z := ⟨_, rfl⟩); rw [hL2] at HO2 hc9L2 ⊢; have HL2 := Lib.hid hL2; have Hn2 := Lib.hid (show L2.length = La.length + 1 by rw [← hL2]; simp); clear hL2))
      · have HE2 : Hid (L2 = b ++ putF 2 (l.take (j + 1))) := Lib.hid (by rw [← HL2.out, ← HLa.out, HE.out, HPT.out, show digF 2 x = [x / 256, x % 256] by unfold digF; simp; omega]; simp)
        rename_i hlong
        try rw [Exit.noGoto_ret]
        go_ret2
        refine ⟨_, 2, rfl, .inr ⟨rfl, ?_, rfl⟩, HB2.out⟩
        have h1 := put_len 2 l (j + 1)
        have h2 := HE2.out
        subst h2
        simp only [List.length_append] at hlong ⊢
        omega
      · have HE2 : Hid (L2 = b ++ putF 2 (l.take (j + 1))) := Lib.hid (by rw [← HL2.out, ← HLa.out, HE.out, HPT.out, show digF 2 x = [x / 256, x % 256] by unfold digF; simp; omega]; simp)
        rename_i hshort
        have := HL2.out
        go_roundg (l.length - (j + 1))
        case measure => have := HG.out; omega
        case rel => exact ⟨j + 1, L2, by go_num, by omega, Lib.hid rfl, HE2, HO2, fun _ => by omega, Lib.hid (by omega), HB2⟩
    · have hjl : j = l.length := by omega
      have HE3 : Hid (L = b ++ putF 2 l) := Lib.hid (by rw [HE.out, hjl, List.take_length])
      go_wp2_with fail
      · rename_i hlong
        go_ret2
        refine ⟨_, 2, rfl, .inr ⟨rfl, ?_, rfl⟩, HB.out⟩
        rw [← HE3.out]; omega
      · rename_i hshort
        go_ret2
        refine ⟨_, 0, rfl, .inl ⟨rfl, ?_, ?_⟩, HB.out⟩
        · rw [← HE3.out]; omega
        · rw [← HE3.out]; exact HO.out
set_option maxHeartbeats 4000000 in
theorem put_4 (A B : Option Addr) (c cl : Nat) (b l : List Int) (hf : fitsF 4 l = true) (w : World) (hb : Kd.C (Kd.int .u8) w A b.length b) (h : Kd.C (Kd.int .i64) w B l.length l) (hc : l.length ≤ cl) (hbl : b.length ≤ 140737488000000) :
    Calls Try.prog 77 #[.slice A b.length c, .int .i64 4, .slice B l.length cl] w fun e w' => ∃ v r, e = .returned (.tuple #[v, .int .i64 r]) ∧ ((r = 0 ∧ (b ++ putF 4 l).length ≤ 1280 ∧ w'.ownsRow w.heap.size 5 1 v (b ++ putF 4 l).length (encs (Value.int .u8) (b ++ putF 4 l))) ∨ (r = 2 ∧ 1280 < (b ++ putF 4 l).length ∧ v = .slice none 0 0)) ∧ Below w.heap.size w w' := by
  have hc2 := h.2.1
  have HF := Lib.hid hf
  have HL := Lib.hid h
  have HBy := Lib.hid hb
  clear hf h hb
  go_enter Try.func77, Try.ntmps77
  go_wp2_with fail
  refine (fits_any B cl 4 l true HF.out _ HL.out hc).mono ?_
  rintro e w1 ⟨rfl, rfl⟩
  go_wp2_with fail
  refine (clone_all A c b _ HBy.out (by omega)).mono ?_
  rintro e w2 ⟨v0, rfl, ho, hbel⟩
  have HO := Lib.hid ho
  have HB := Lib.hid hbel
  clear ho hbel
  go_wp2_with fail
  go_loopg [19, 8] l.length (fun gk v19 v8 wr => ∃ (j : Nat) (L : List Int), v19 = .int .i64 j ∧ j ≤ l.length ∧ Hid (gk = l.length - j) ∧ Hid (L = b ++ putF 4 (l.take j)) ∧ Hid (wr.ownsRow w1.heap.size 5 1 v8 L.length (encs (Value.int .u8) L)) ∧ (0 < j → L.length ≤ 1280) ∧ Hid (L.length ≤ b.length + 1280) ∧ Hid (Below w1.heap.size w1 wr))
  case atStart => exact ⟨0, b, rfl, by omega, Lib.hid (by simp), Lib.hid (by simp [putF]), HO, fun h => by omega, Lib.hid (by omega), HB⟩
  case round =>
    clear HO HB
    obtain ⟨j, L, rfl, hj, HG, HE, HO, hL, HLn, HB⟩ := hrel
    obtain ⟨A8, c8, hv8, hc8⟩ := own_slice HO.out
    subst hv8
    by_cases hlt : j < l.length
    · obtain ⟨ad, had, hcell⟩ := Kd.at_int (Kd.C_below HL.out HB.out) j (by omega) (by omega)
      simp only [Int.toNat_natCast] at hcell
      cases had
      have hx : 0 ≤ rd l j ∧ rd l j < 4294967296 := fits_rd 4 l j HF.out hlt
      have HPT := Lib.hid (put_take 4 l j hlt)
      generalize rd l j = x at hcell hx HPT
      obtain ⟨hx1, hx2⟩ := hx
      have HX9 : Hid (L.length ≤ 140737488300000) := Lib.hid (by have := HLn.out; omega)
      go_wp2_with (first | ((with_reducible refine gate_builtin (b := .append) (xs := #[.tmp 28, .tmp 35]) rfl ?_); at_builtin; refine print_append_row_of (w0 := w1) (Value.int .u8) (0 : Int) w1.heap.size rfl (.tmp 28) (.tmp 35) 36 5 (.int .u8 0) 1 rfl Try.underlying36 infoB rfl (by decide) (fun _ => rfl) (.slice A8 L.length c8) L [(x / 16777216), (x / 65536 % 256)] (some ⟨wr.heap.size, 0, none⟩) 2 2 rfl rfl (own_alloc HO.out _) (reads_two _ _ _ _) ?aB1 ?aS1 ?aL1 ?_; (case aB1 => exact (HB.out.alloc HB.out.size _)); (case aS1 => exact Nat.le_trans HB.out.size (size_new _ _)); (case aL1 => have := HX9.out; omega); intro v51 w51 ho hb5 hg5 hat5; (have ho2 : w51.ownsRow w1.heap.size 5 1 v51 (L ++ [(x / 16777216), (x / 65536 % 256)]).length (encs (Value.int .u8) (L ++ [(x / 16777216), (x / 65536 % 256)])) := by simpa [encs] using ho); obtain ⟨Aa, ca, hv9, hc9La⟩ := own_slice ho2; subst hv9; have HOa := Lib.hid ho2; have HBa := Lib.hid hb5; clear ho ho2 hg5 hat5 hb5; (obtain ⟨La, hL2⟩ : ∃ z, (L ++ [(x / 16777216), (x / 65536 % 256)]) = z := ⟨_, rfl⟩); rw [hL2] at HOa hc9La ⊢; have HLa := Lib.hid hL2; have Hna := Lib.hid (show La.length = L.length + 2 by rw [← hL2]; simp); clear hL2) | ((with_reducible refine gate_builtin (b := .append) (xs := #[.tmp 37, .tmp 41]) rfl ?_); at_builtin; refine print_append (w0 := w1) w1.heap.size rfl (.tmp 37) (.tmp 41) 36 5 (.int .u8 0) 1 rfl Try.underlying36 infoB rfl (by decide) (.slice Aa La.length ca) (encs (Value.int .u8) La) (.int .u8 (x / 256 % 256)) rfl rfl rfl ?aO2 ?aB2 ?aS2 ?aL2 ?_; (case aO2 => simpa [encs] using HOa.out); (case aB2 => exact HBa.out); (case aS2 => exact HBa.out.size); (case aL2 => have := HX9.out; (try have := Hna.out); (try have := Hnb.out); simp [encs]; omega); intro v52 w52 ho hb5 hg5 hat5; (have ho2 : w52.ownsRow w1.heap.size 5 1 v52 (La ++ [(x / 256 % 256)]).length (encs (Value.int .u8) (La ++ [(x / 256 % 256)])) := by simpa [encs] using ho); obtain ⟨Ab, cb, hv9, hc9Lb⟩ := own_slice ho2; subst hv9; have HOb := Lib.hid ho2; have HBb := Lib.hid hb5; clear ho ho2 hg5 hat5 hb5; (obtain ⟨Lb, hL2⟩ : ∃ z, (La ++ [(x / 256 % 256)]) = z := ⟨_, rfl⟩); rw [hL2] at HOb hc9Lb ⊢; have HLb := Lib.hid hL2; have Hnb := Lib.hid (show Lb.length = La.length + 1 by rw [← hL2]; simp); clear hL2) | ((with_reducible refine gate_builtin (b := .append) (xs := #[.tmp 43, .tmp 46]) rfl ?_); at_builtin; refine print_append (w0 := w1) w1.heap.size rfl (.tmp 43) (.tmp 46) 36 5 (.int .u8 0) 1 rfl Try.underlying36 infoB rfl (by decide) (.slice Ab Lb.length cb) (encs (Value.int .u8) Lb) (.int .u8 (x % 256)) rfl rfl rfl ?aO3 ?aB3 ?aS3 ?aL3 ?_; (case aO3 => simpa [encs] using HOb.out); (case aB3 => exact HBb.out); (case aS3 => exact HBb.out.size); (case aL3 => have := HX9.out; (try have := Hna.out); (try have := Hnb.out); simp [encs]; omega); intro v53 w53 ho hb5 hg5 hat5; (have ho2 : w53.ownsRow w1.heap.size 5 1 v53 (Lb ++ [(x % 256)]).length (encs (Value.int .u8) (Lb ++ [(x % 256)])) := by simpa [encs] using ho); obtain ⟨A9, c9, hv9, hc9L2⟩ := own_slice ho2; subst hv9; have HO2 := Lib.hid ho2; have HB2 := Lib.hid hb5; clear ho ho2 hg5 hat5 hb5; (obtain ⟨L2, hL2⟩ : ∃ z, (Lb ++ [(x % 256)]) = z := ⟨_, rfl⟩); rw [hL2] at HO2 hc9L2 ⊢; have HL2 := Lib.hid hL2; have Hn2 := Lib.hid (show L2.length = Lb.length + 1 by rw [← hL2]; simp); clear hL2))
      · have HE2 : Hid (L2 = b ++ putF 4 (l.take (j + 1))) := Lib.hid (by rw [← HL2.out, ← HLb.out, ← HLa.out, HE.out, HPT.out, show digF 4 x = [x / 16777216, x / 65536 % 256, x / 256 % 256, x % 256] by unfold digF; simp; omega]; simp)
        rename_i hlong
        try rw [Exit.noGoto_ret]
        go_ret2
        refine ⟨_, 2, rfl, .inr ⟨rfl, ?_, rfl⟩, HB2.out⟩
        have h1 := put_len 4 l (j + 1)
        have h2 := HE2.out
        subst h2
        simp only [List.length_append] at hlong ⊢
        omega
      · have HE2 : Hid (L2 = b ++ putF 4 (l.take (j + 1))) := Lib.hid (by rw [← HL2.out, ← HLb.out, ← HLa.out, HE.out, HPT.out, show digF 4 x = [x / 16777216, x / 65536 % 256, x / 256 % 256, x % 256] by unfold digF; simp; omega]; simp)
        rename_i hshort
        have := HL2.out
        go_roundg (l.length - (j + 1))
        case measure => have := HG.out; omega
        case rel => exact ⟨j + 1, L2, by go_num, by omega, Lib.hid rfl, HE2, HO2, fun _ => by omega, Lib.hid (by omega), HB2⟩
    · have hjl : j = l.length := by omega
      have HE3 : Hid (L = b ++ putF 4 l) := Lib.hid (by rw [HE.out, hjl, List.take_length])
      go_wp2_with fail
      · rename_i hlong
        go_ret2
        refine ⟨_, 2, rfl, .inr ⟨rfl, ?_, rfl⟩, HB.out⟩
        rw [← HE3.out]; omega
      · rename_i hshort
        go_ret2
        refine ⟨_, 0, rfl, .inl ⟨rfl, ?_, ?_⟩, HB.out⟩
        · rw [← HE3.out]; omega
        · rw [← HE3.out]; exact HO.out
end Go.Proofs.Ytndiddfleidnaaa.Pk
