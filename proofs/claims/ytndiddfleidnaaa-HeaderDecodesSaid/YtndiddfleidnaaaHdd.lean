/- HeaderDecodes: the two decoders agree; the law's walk. -/
import Derived.Test.YtndiddfleidnaaaHdec
import Derived.Test.YtndiddfleidnaaaRdec
import Derived.Test.YtndiddfleidnaaaHwith
set_option maxRecDepth 100000
set_option linter.unusedVariables false
set_option linter.unusedSimpArgs false
namespace Go.Proofs.Ytndiddfleidnaaa.Hdd
open Go.RowKit Go.Proofs.YtndiddfleidnaaaW.PrintWords Go.Proofs.Ytndiddfleidnaaa.Ds Go.Proofs.Ytndiddfleidnaaa.Cc Go.Proofs.Ytndiddfleidnaaa.Hd Go.Proofs.Ytndiddfleidnaaa.Hdec Go.Proofs.Ytndiddfleidnaaa.Rdec Go.Proofs.Ytndiddfleidnaaa.Hw
open Go.Proofs.Ytndiddfleidnaaa.Pk (Kp fitsF spanF putF digF joinF join_bd same_any)
section
variable {P : Program} {t e : TypeId} {d n s o : Nat} {k : IntKind} {l ks : List (Option IntKind)}
theorem flat_int (hu : P.underlying t = some (.int k)) : flat P (d + 1) t = some [some k] := by unfold flat; rw [hu]
theorem flat_bool (hu : P.underlying t = some .bool) : flat P (d + 1) t = some [none] := by unfold flat; rw [hu]
theorem flat_arr (hu : P.underlying t = some (.array n e)) (he : flat P d e = some l) (hi : (P.info? e).map (·.size) = some s) (hs : s = l.length) (hA : flat.isAggT P e = true ∨ l.length = 1) : flat P (d + 1) t = some (List.replicate n l).flatten := by
  obtain ⟨i, h9, h8⟩ := Option.map_eq_some_iff.1 hi; subst h8
  unfold flat; rw [hu]; show (match flat P d e, P.info? e with | some l, some i => if i.size = l.length ∧ (flat.isAggT P e = true ∨ l.length = 1) then some (List.replicate n l).flatten else none | _, _ => none) = _; rw [he, h9]; exact if_pos ⟨hs, hA⟩
theorem flat_struct {fs : Array Field} (hu : P.underlying t = some (.struct fs)) (hst : P.stoodInHeld t = false) (hf : flat.flatF P d fs.toList 0 = some ks) : flat P (d + 1) t = some ks := by
  unfold flat; rw [hu]; simp only [hst]; exact hf
theorem flatF_nil : flat.flatF P d [] o = some [] := by unfold flat.flatF; rfl
theorem flatF_cons {f : Field} {fs : List Field} (he : flat P d f.type = some l) (hi : (P.info? f.type).map (·.size) = some s) (hs : s = l.length) (hA : flat.isAggT P f.type = true ∨ l.length = 1) (hn : f.name ≠ "_") (ho : f.offset = o) (hr : flat.flatF P d fs (o + l.length) = some ks) : flat.flatF P d (f :: fs) o = some (l ++ ks) := by
  obtain ⟨i, h9, h8⟩ := Option.map_eq_some_iff.1 hi; subst h8
  unfold flat.flatF; rw [he, h9]; exact (if_pos ⟨hn, ho, hs, hA⟩).trans (by rw [hr]; rfl)
end
theorem eqA24_refl_8_22 : flat Try.prog 8 22 = some ([some .u8, some .u8, some .u8, some .u8, some .u8, some .u8, some .u8, some .u8, some .u8, some .u8, some .u8, some .u8, some .u8, some .u8, some .u8, some .u8]) := Eq.trans (flat_arr Try.underlying22 (flat_int Try.underlying5) (by kernel_rfl) rfl (Or.inr rfl)) rfl
theorem eqA24_refl_ks : flat Try.prog 9 24 = some ([some .i64, some .i64, some .i64, some .i64, some .i64, some .u8, some .u8, some .u8, some .u8, some .u8, some .u8, some .u8, some .u8, some .u8, some .u8, some .u8, some .u8, some .u8, some .u8, some .u8, some .u8, some .u8, some .u8, some .u8, some .u8, some .u8, some .u8, some .u8, some .u8, some .u8, some .u8, some .u8, some .u8, some .u8, some .u8, some .u8, some .u8]) := Eq.trans (flat_struct Try.underlying24 (by kernel_rfl) (flatF_cons (flat_int Try.underlying3) (by kernel_rfl) rfl (Or.inr rfl) (by decide) rfl (flatF_cons (flat_int Try.underlying3) (by kernel_rfl) rfl (Or.inr rfl) (by decide) rfl (flatF_cons (flat_int Try.underlying3) (by kernel_rfl) rfl (Or.inr rfl) (by decide) rfl (flatF_cons (flat_int Try.underlying3) (by kernel_rfl) rfl (Or.inr rfl) (by decide) rfl (flatF_cons (flat_int Try.underlying3) (by kernel_rfl) rfl (Or.inr rfl) (by decide) rfl (flatF_cons eqA24_refl_8_22 (by kernel_rfl) rfl (Or.inl (by kernel_rfl)) (by decide) rfl (flatF_cons eqA24_refl_8_22 (by kernel_rfl) rfl (Or.inl (by kernel_rfl)) (by decide) rfl flatF_nil)))))))) rfl
theorem eqA24_refl (c f l x h : Int) (s d : Nat → Int) : ∀ w, (Op.equalIn 10000 24 (.agg ([Value.int .i64 c, Value.int .i64 f, Value.int .i64 l, Value.int .i64 x, Value.int .i64 h] ++ b16 s ++ b16 d).toArray) (.agg ([Value.int .i64 c, Value.int .i64 f, Value.int .i64 l, Value.int .i64 x, Value.int .i64 h] ++ b16 s ++ b16 d).toArray)).run Try.prog w = .ok true w :=
  eqA_flat eqA24_refl_ks (by kernel_rfl) rfl rfl (eqL_refl _ _ (show fits ([some .i64, some .i64, some .i64, some .i64, some .i64, some .u8, some .u8, some .u8, some .u8, some .u8, some .u8, some .u8, some .u8, some .u8, some .u8, some .u8, some .u8, some .u8, some .u8, some .u8, some .u8, some .u8, some .u8, some .u8, some .u8, some .u8, some .u8, some .u8, some .u8, some .u8, some .u8, some .u8, some .u8, some .u8, some .u8, some .u8, some .u8]) _ = true from rfl))
theorem split8 {l : List Int} (h : 8 ≤ l.length) : ∃ b0 b1 b2 b3 b4 b5 b6 b7 t, l = b0 :: b1 :: b2 :: b3 :: b4 :: b5 :: b6 :: b7 :: t := by
  match l, h with
  | b0 :: b1 :: b2 :: b3 :: b4 :: b5 :: b6 :: b7 :: t, _ => exact ⟨b0, b1, b2, b3, b4, b5, b6, b7, t, rfl⟩
theorem heads {l : List Int} (h : 8 ≤ l.length) : joinF ((l.drop 0).take 4) = ((rd l 0 * 256 + rd l 1) * 256 + rd l 2) * 256 + rd l 3 ∧ joinF ((l.drop 4).take 2) = rd l 4 * 256 + rd l 5 ∧ joinF ((l.drop 6).take 1) = rd l 6 ∧ joinF ((l.drop 7).take 1) = rd l 7 ∧ l = [rd l 0, rd l 1, rd l 2, rd l 3, rd l 4, rd l 5, rd l 6, rd l 7] ++ l.drop 8 := by
  obtain ⟨b0, b1, b2, b3, b4, b5, b6, b7, t, rfl⟩ := split8 h
  simp [joinF, rd]
theorem j4 {l : List Int} (hby : ∀ x ∈ l, 0 ≤ x ∧ x ≤ 255) : 0 ≤ joinF ((l.drop 0).take 4) ∧ joinF ((l.drop 0).take 4) < 4294967296 := by
  match l, hby with
  | [], _ => simp [joinF]
  | [a], h => have := h a (by simp); simp [joinF]; omega
  | [a, b], h => have := h a (by simp); have := h b (by simp); simp [joinF]; omega
  | [a, b, c], h => have := h a (by simp); have := h b (by simp); have := h c (by simp); simp [joinF]; omega
  | a :: b :: c :: d :: t, h => have := h a (by simp); have := h b (by simp); have := h c (by simp); have := h d (by simp); simp [joinF]; omega
theorem some_of {l : List Int} {A : Option Addr} {w : World} (h : Kd.C (Kd.int .u8) w A l.length l) (hl : 0 < l.length) : ∃ ad, A = some ad := ⟨_, (C_at h hl).1⟩
theorem with_one (c f n x h : Int) (s d : Nat → Int) (A : Option Addr) (cap : Nat) (rest l : List Int) (hok : okF c f 0 x h = true) (hl : rest.length ≤ 1240) (hback : encF c f (rest.length : Int) x h s d ++ rest = l) (w : World) (hC : Kd.C (Kd.slice 5 (Kd.int .u8)) w A 1 [rest]) (hlc : 1 ≤ cap) :
    Calls Try.prog 24 #[Value.agg (([Value.int .i64 c, Value.int .i64 f, Value.int .i64 n, Value.int .i64 x, Value.int .i64 h] ++ b16 s ++ b16 d)).toArray, .slice A 1 cap] w fun e w' => ∃ A' c', e = .returned (.tuple #[.slice A' l.length c', .int .i64 0]) ∧ w'.ownsRow w.heap.size 5 1 (.slice A' l.length c') l.length (encs (Value.int .u8) l) ∧ Kp w w' (fun _ => False) := by
  have e : [rest].flatten = rest := by simp
  have := with_ok c f n x h s d A cap [rest] hok (by rw [e]; omega) w hC hlc (by rw [e]; omega) (Nat.le_of_ble_eq_true rfl)
  rw [e, hback] at this
  exact this
/-- Both decoders give the same. -/
theorem dagree (l : List Int) (hl : l.length ≤ 1400) (hby : ∀ x ∈ l, 0 ≤ x ∧ x ≤ 255) : ∃ (c f n x h : Int) (s d : Nat → Int) (rest : List Int) (er : Int), (er = 0 → okF c f 0 x h = true ∧ rest.length ≤ 1240 ∧ encF c f (rest.length : Int) x h s d ++ rest = l) ∧ rest.length ≤ 1400 ∧
    (∀ (A : Option Addr) (cap : Nat) (w : World), Kd.C (Kd.int .u8) w A l.length l → l.length ≤ cap → cap ≤ 9223372036854775807 → Calls Try.prog 25 #[.slice A l.length cap] w fun e w' => ∃ A' c', e = .returned (.tuple #[Value.agg (([Value.int .i64 c, Value.int .i64 f, Value.int .i64 n, Value.int .i64 x, Value.int .i64 h] ++ b16 s ++ b16 d)).toArray, .slice A' rest.length c', .int .i64 er]) ∧ rest.length ≤ c' ∧ c' ≤ 9223372036854775807 ∧ Kd.C (Kd.int .u8) w' A' rest.length rest ∧ Kp w w' (fun _ => False)) ∧ (∀ (A : Option Addr) (cap : Nat) (w : World), Kd.C (Kd.int .u8) w A l.length l → l.length ≤ cap → cap ≤ 9223372036854775807 → Calls Try.prog 26 #[.slice A l.length cap] w fun e w' => ∃ A' c', e = .returned (.tuple #[Value.agg (([Value.int .i64 c, Value.int .i64 f, Value.int .i64 n, Value.int .i64 x, Value.int .i64 h] ++ b16 s ++ b16 d)).toArray, .slice A' rest.length c', .int .i64 er]) ∧ rest.length ≤ c' ∧ c' ≤ 9223372036854775807 ∧ Kd.C (Kd.int .u8) w' A' rest.length rest ∧ Kp w w' (fun _ => False)) := by
  have b4 := j4 hby
  by_cases h40 : l.length < 40
  · refine ⟨0, 0, 0, 0, 0, fun _ => 0, fun _ => 0, [], 4, (fun h => absurd h (by decide)), Nat.zero_le _, ?_, ?_⟩
    · intro A cap w hC hlc hcm
      by_cases h4 : l.length < 4
      · exact (dec_short0 A cap l _ _ _ _ rfl b4 rfl rfl rfl hby hlc hcm (by omega) (Nat.zero_le _) h4 w).mono (by rintro e w' ⟨rfl, hk⟩; exact ⟨none, 0, rfl, Nat.le_refl _, by omega, Kd.C_nil _ _, hk⟩)
      · obtain ⟨ad, rfl⟩ := some_of hC (by omega)
        by_cases h6 : l.length < 6
        · exact (dec_short1 ad cap l _ _ _ _ rfl b4 rfl rfl rfl hby hlc hcm (by omega) (by omega) h6 w hC).mono (by rintro e w' ⟨rfl, hk⟩; exact ⟨none, 0, rfl, Nat.le_refl _, by omega, Kd.C_nil _ _, hk⟩)
        · by_cases h7 : l.length < 7
          · exact (dec_short2 ad cap l _ _ _ _ rfl b4 rfl rfl rfl hby hlc hcm (by omega) (by omega) h7 w hC).mono (by rintro e w' ⟨rfl, hk⟩; exact ⟨none, 0, rfl, Nat.le_refl _, by omega, Kd.C_nil _ _, hk⟩)
          · by_cases h8 : l.length < 8
            · exact (dec_short3 ad cap l _ _ _ _ rfl b4 rfl rfl rfl hby hlc hcm (by omega) (by omega) h8 w hC).mono (by rintro e w' ⟨rfl, hk⟩; exact ⟨none, 0, rfl, Nat.le_refl _, by omega, Kd.C_nil _ _, hk⟩)
            · by_cases h24 : l.length < 24
              · exact (dec_short4 ad cap l _ _ _ _ rfl b4 rfl rfl rfl hby hlc hcm (by omega) (by omega) h24 w hC).mono (by rintro e w' ⟨rfl, hk⟩; exact ⟨none, 0, rfl, Nat.le_refl _, by omega, Kd.C_nil _ _, hk⟩)
              · exact (dec_short5 ad cap l _ _ _ _ _ rfl b4 rfl rfl rfl (sf_list l 8 (by omega)) hby hlc hcm (by omega) (by omega) h40 w hC).mono (by rintro e w' ⟨rfl, hk⟩; exact ⟨none, 0, rfl, Nat.le_refl _, by omega, Kd.C_nil _ _, hk⟩)
    · intro A cap w hC hlc hcm
      exact (rdec_short A cap l hby hlc hcm (by omega) h40 w).mono (by rintro e w' ⟨rfl, hk⟩; exact ⟨none, 0, rfl, Nat.le_refl _, by omega, Kd.C_nil _ _, hk⟩)
  obtain ⟨e4, e2, ea, eb, el⟩ := heads (l := l) (by omega)
  have hs := sf_list l 8 (by omega)
  have hd := sf_list l 24 (by omega)
  have r0 := rd_bd hby 0
  have r1 := rd_bd hby 1
  have r2 := rd_bd hby 2
  have r3 := rd_bd hby 3
  have r4 := rd_bd hby 4
  have r5 := rd_bd hby 5
  have r6 := rd_bd hby 6
  have r7 := rd_bd hby 7
  rw [e4] at b4
  by_cases hv : rd l 0 / 16 = 6
  rotate_left
  · refine ⟨0, 0, 0, 0, 0, fun _ => 0, fun _ => 0, [], 3, (fun h => absurd h (by decide)), Nat.zero_le _, ?_, ?_⟩
    · intro A cap w hC hlc hcm
      obtain ⟨ad, rfl⟩ := some_of hC (by omega)
      exact (dec_ver ad cap l _ _ _ _ _ _ e4 b4 e2 ea eb hs hd hby hlc hcm (by omega) (by omega) w hC (by omega)).mono (by rintro e w' ⟨rfl, hk⟩; exact ⟨none, 0, rfl, Nat.le_refl _, by omega, Kd.C_nil _ _, hk⟩)
    · intro A cap w hC hlc hcm
      obtain ⟨ad, rfl⟩ := some_of hC (by omega)
      exact (rdec_ver ad cap l hby hlc hcm (by omega) (by omega) hv w hC).mono (by rintro e w' ⟨rfl, hk⟩; exact ⟨none, 0, rfl, Nat.le_refl _, by omega, Kd.C_nil _ _, hk⟩)
  have hv2 : (((rd l 0 * 256 + rd l 1) * 256 + rd l 2) * 256 + rd l 3) / 1048576 / 256 = 6 := by omega
  by_cases hg : 1280 < l.length
  · refine ⟨0, 0, 0, 0, 0, fun _ => 0, fun _ => 0, [], 2, (fun h => absurd h (by decide)), Nat.zero_le _, ?_, ?_⟩
    · intro A cap w hC hlc hcm
      obtain ⟨ad, rfl⟩ := some_of hC (by omega)
      exact (dec_long ad cap l _ _ _ _ _ _ e4 b4 e2 ea eb hs hd hby hlc hcm (by omega) (by omega) w hC hv2 hg).mono (by rintro e w' ⟨rfl, hk⟩; exact ⟨none, 0, rfl, Nat.le_refl _, by omega, Kd.C_nil _ _, hk⟩)
    · intro A cap w hC hlc hcm
      obtain ⟨ad, rfl⟩ := some_of hC (by omega)
      exact (rdec_long ad cap l hby hlc hcm (by omega) (by omega) hv hg w hC).mono (by rintro e w' ⟨rfl, hk⟩; exact ⟨none, 0, rfl, Nat.le_refl _, by omega, Kd.C_nil _ _, hk⟩)
  by_cases hf : (l.length : Int) - 40 < rd l 4 * 256 + rd l 5
  · refine ⟨0, 0, 0, 0, 0, fun _ => 0, fun _ => 0, [], 4, (fun h => absurd h (by decide)), Nat.zero_le _, ?_, ?_⟩
    · intro A cap w hC hlc hcm
      obtain ⟨ad, rfl⟩ := some_of hC (by omega)
      exact (dec_few ad cap l _ _ _ _ _ _ e4 b4 e2 ea eb hs hd hby hlc hcm (by omega) (by omega) w hC hv2 hg hf).mono (by rintro e w' ⟨rfl, hk⟩; exact ⟨none, 0, rfl, Nat.le_refl _, by omega, Kd.C_nil _ _, hk⟩)
    · intro A cap w hC hlc hcm
      obtain ⟨ad, rfl⟩ := some_of hC (by omega)
      exact (rdec_few ad cap l hby hlc hcm (by omega) (by omega) hv hg hf w hC).mono (by rintro e w' ⟨rfl, hk⟩; exact ⟨none, 0, rfl, Nat.le_refl _, by omega, Kd.C_nil _ _, hk⟩)
  by_cases hf2 : rd l 4 * 256 + rd l 5 < (l.length : Int) - 40
  · refine ⟨0, 0, 0, 0, 0, fun _ => 0, fun _ => 0, [], 3, (fun h => absurd h (by decide)), Nat.zero_le _, ?_, ?_⟩
    · intro A cap w hC hlc hcm
      obtain ⟨ad, rfl⟩ := some_of hC (by omega)
      exact (dec_many ad cap l _ _ _ _ _ _ e4 b4 e2 ea eb hs hd hby hlc hcm (by omega) (by omega) w hC hv2 hg hf2).mono (by rintro e w' ⟨rfl, hk⟩; exact ⟨none, 0, rfl, Nat.le_refl _, by omega, Kd.C_nil _ _, hk⟩)
    · intro A cap w hC hlc hcm
      obtain ⟨ad, rfl⟩ := some_of hC (by omega)
      exact (rdec_many ad cap l hby hlc hcm (by omega) (by omega) hv hg (by omega) w hC).mono (by rintro e w' ⟨rfl, hk⟩; exact ⟨none, 0, rfl, Nat.le_refl _, by omega, Kd.C_nil _ _, hk⟩)
  have hm : rd l 4 * 256 + rd l 5 = (((l.drop 40).length : Nat) : Int) := by simp; omega
  have hlen : l.length = 40 + (l.drop 40).length := by simp; omega
  have hlen' : l.length - 40 = (l.drop 40).length := by simp
  have hC1 : (((rd l 0 * 256 + rd l 1) * 256 + rd l 2) * 256 + rd l 3) / 1048576 % 256 = rd l 0 % 16 * 16 + rd l 1 / 16 := by omega
  have hF1 : (((rd l 0 * 256 + rd l 1) * 256 + rd l 2) * 256 + rd l 3) % 1048576 = rd l 1 % 16 * 65536 + rd l 2 * 256 + rd l 3 := by omega
  refine ⟨rd l 0 % 16 * 16 + rd l 1 / 16, rd l 1 % 16 * 65536 + rd l 2 * 256 + rd l 3, (((l.drop 40).length : Nat) : Int), rd l 6, rd l 7, Sf 8 l 16, Sf 24 l 16, l.drop 40, 0, ?_, by simp; omega, ?_, ?_⟩
  · intro _
    refine ⟨okF_mk (by omega) (by omega) (by omega) (by omega) (by omega), by omega, ?_⟩
    have p4 : putF 4 [(1536 + (rd l 0 % 16 * 16 + rd l 1 / 16)) * 1048576 + (rd l 1 % 16 * 65536 + rd l 2 * 256 + rd l 3)] = [rd l 0, rd l 1, rd l 2, rd l 3] := by
      rw [put4]
      have h1 : ((1536 + (rd l 0 % 16 * 16 + rd l 1 / 16)) * 1048576 + (rd l 1 % 16 * 65536 + rd l 2 * 256 + rd l 3)) = ((rd l 0 * 256 + rd l 1) * 256 + rd l 2) * 256 + rd l 3 := by omega
      rw [h1]
      congr 1
      · omega
      congr 1
      · omega
      congr 1
      · omega
      congr 1
      omega
    have p2 : putF 2 [(((l.drop 40).length : Nat) : Int)] = [rd l 4, rd l 5] := by
      rw [← hm, put2]
      congr 1
      · omega
      congr 1
      omega
    have p1 : putF 1 [rd l 6, rd l 7] = [rd l 6, rd l 7] := by
      rw [put1]
      congr 1
      · omega
      congr 1
      omega
    unfold encF
    rw [p4, p2, p1, ← hs, ← hd]
    have t1 : (l.drop 8).take 16 ++ l.drop 24 = l.drop 8 := by
      have := List.take_append_drop 16 (l.drop 8)
      rwa [List.drop_drop] at this
    have t2 : (l.drop 24).take 16 ++ l.drop 40 = l.drop 24 := by
      have := List.take_append_drop 16 (l.drop 24)
      rwa [List.drop_drop] at this
    calc _ = [rd l 0, rd l 1, rd l 2, rd l 3, rd l 4, rd l 5, rd l 6, rd l 7] ++ ((l.drop 8).take 16 ++ ((l.drop 24).take 16 ++ l.drop 40)) := by simp
      _ = l := by rw [t2, t1]; exact el.symm
  · intro A cap w hC hlc hcm
    obtain ⟨ad, rfl⟩ := some_of hC (by omega)
    have := dec_ok ad cap l (((rd l 0 * 256 + rd l 1) * 256 + rd l 2) * 256 + rd l 3) (rd l 6) (rd l 7) (rd l 4 * 256 + rd l 5) (Sf 8 l 16) (Sf 24 l 16) e4 b4 e2 ea eb hs hd hby hlc hcm (by omega) (by omega) w hC hv2 hg (by omega)
    rw [hm, hlen'] at this
    rw [hC1, hF1] at this
    refine this.mono ?_
    rintro e w' ⟨A', c', rfl, ho, hk⟩
    exact ⟨A', c', rfl, (own_caps ho).1, (own_caps ho).2, own_told ho, hk⟩
  · intro A cap w hC hlc hcm
    obtain ⟨ad, rfl⟩ := some_of hC (by omega)
    have := rdec_ok ad cap l hby hlc hcm (by omega) (by omega) hv hg (by omega) w hC
    rw [hm, hlen'] at this
    refine this.mono ?_
    rintro e w' ⟨A', c', rfl, h1, h2, h3, hk⟩
    exact ⟨A', c', rfl, h1, by omega, h3, hk⟩
theorem R5_0_l : List.range (regOf Try.f5 0).size = [0] := by kernel_rfl
theorem R5_1_l : List.range (regOf Try.f5 1).size = [0, 1, 2, 3, 4, 5] := by kernel_rfl
theorem R5_2_l : List.range (regOf Try.f5 2).size = [0, 1, 2, 3, 4, 5, 6, 7, 8, 9] := by kernel_rfl
theorem R5_3_l : List.range (regOf Try.f5 3).size = [0, 1, 2, 3, 4, 5, 6, 7, 8, 9] := by kernel_rfl
theorem R5_4_l : List.range (regOf Try.f5 4).size = [0, 1, 2, 3, 4, 5, 6, 7, 8, 9, 10, 11, 12, 13, 14, 15, 16, 17, 18] := by kernel_rfl
theorem R5_5_l : List.range (regOf Try.f5 5).size = [0] := by kernel_rfl
theorem R5_6_l : List.range (regOf Try.f5 6).size = [0, 1] := by kernel_rfl
theorem R5_7_l : List.range (regOf Try.f5 7).size = [0] := by kernel_rfl
theorem R5_8_l : List.range (regOf Try.f5 8).size = [0, 1, 2, 3, 4, 5, 6, 7, 8] := by kernel_rfl
theorem R5_9_l : List.range (regOf Try.f5 9).size = [0, 1, 2, 3, 4, 5, 6, 7] := by kernel_rfl
theorem body5 : Try.f5.body = some (.seq (.region 0 (regOf Try.f5 0) false) (.seq (.region 1 (regOf Try.f5 1) false) (.seq (.region 2 (regOf Try.f5 2) false) (.seq (.region 3 (regOf Try.f5 3) false) (.seq (.seq (.region 4 (regOf Try.f5 4) true) (.cond (Operand.tmp 46) (.seq (.region 5 (regOf Try.f5 5) false) (.ret)) (.skip))) (.seq (.seq (.region 6 (regOf Try.f5 6) false) (.cond (Operand.tmp 48) (.seq (.region 7 (regOf Try.f5 7) false) (.ret)) (.skip))) (.seq (.region 8 (regOf Try.f5 8) false) (.seq (.region 9 (regOf Try.f5 9) false) (.ret))))))))) := by kernel_rfl
theorem p5_0_0 : pj (regOf Try.f5 0) 0 = some (some 2, Op.assign (Operand.const (Value.bool false)), 4, none) := by kernel_rfl
theorem p5_1_0 : pj (regOf Try.f5 1) 0 = some (some 11, Op.move (Operand.tmp 0), 36, none) := by kernel_rfl
theorem p5_1_1 : pj (regOf Try.f5 1) 1 = some (some 12, Op.move (Operand.tmp 0), 36, none) := by kernel_rfl
theorem p5_1_2 : pj (regOf Try.f5 1) 2 = some (some 13, Op.call { callee := Callee.builtin Builtin.len, args := #[Operand.tmp 12], argTypes := #[36] }, 3, none) := by kernel_rfl
theorem p5_1_3 : pj (regOf Try.f5 1) 3 = some (some 14, Op.call { callee := Callee.builtin Builtin.min, args := #[Operand.tmp 13, Operand.const (Value.int IntKind.i64 1400)], argTypes := #[3, 3] }, 3, none) := by kernel_rfl
theorem p5_1_4 : pj (regOf Try.f5 1) 4 = some (some 15, Op.slice 36 (Operand.tmp 11) none (some (Operand.tmp 14)) none, 36, none) := by kernel_rfl
theorem tS5 : (Try.prog.info? 5).map (·.size) = some 1 := by kernel_rfl
theorem p5_1_5 : pj (regOf Try.f5 1) 5 = some (some 0, Op.assign (Operand.tmp 15), 36, none) := by kernel_rfl
theorem p5_2_0 : pj (regOf Try.f5 2) 0 = some (some 17, Op.move (Operand.tmp 0), 36, none) := by kernel_rfl
theorem p5_2_1 : pj (regOf Try.f5 2) 1 = some (some 18, Op.call { callee := Callee.value (Operand.func 25), args := #[Operand.tmp 17], argTypes := #[36] }, 44, none) := by kernel_rfl
theorem cl25 : callable Try.f25 = true := by kernel_rfl
theorem p5_2_2 : pj (regOf Try.f5 2) 2 = some (some 16, Op.move (Operand.tmp 18), 44, none) := by kernel_rfl
theorem p5_2_3 : pj (regOf Try.f5 2) 3 = some (some 19, Op.extract (Operand.tmp 16) 0, 27, none) := by kernel_rfl
theorem p5_2_4 : pj (regOf Try.f5 2) 4 = some (some 20, Op.extract (Operand.tmp 16) 1, 36, none) := by kernel_rfl
theorem p5_2_5 : pj (regOf Try.f5 2) 5 = some (some 21, Op.extract (Operand.tmp 16) 2, 29, none) := by kernel_rfl
theorem p5_2_6 : pj (regOf Try.f5 2) 6 = some (some 3, Op.alloc 27, 0, none) := by kernel_rfl
theorem tZ27 : (Try.prog.info? 27).bind (·.zero) = some (Value.agg #[Value.int .i64 0, Value.int .i64 0, Value.int .i64 0, Value.int .i64 0, Value.int .i64 0, Value.int .u8 0, Value.int .u8 0, Value.int .u8 0, Value.int .u8 0, Value.int .u8 0, Value.int .u8 0, Value.int .u8 0, Value.int .u8 0, Value.int .u8 0, Value.int .u8 0, Value.int .u8 0, Value.int .u8 0, Value.int .u8 0, Value.int .u8 0, Value.int .u8 0, Value.int .u8 0, Value.int .u8 0, Value.int .u8 0, Value.int .u8 0, Value.int .u8 0, Value.int .u8 0, Value.int .u8 0, Value.int .u8 0, Value.int .u8 0, Value.int .u8 0, Value.int .u8 0, Value.int .u8 0, Value.int .u8 0, Value.int .u8 0, Value.int .u8 0, Value.int .u8 0, Value.int .u8 0]) := by kernel_rfl
theorem p5_2_7 : pj (regOf Try.f5 2) 7 = some (none, Op.store 27 (Operand.tmp 3) (Operand.tmp 19), 0, none) := by kernel_rfl
theorem tS27 : (Try.prog.info? 27).map (·.size) = some 37 := by kernel_rfl
theorem p5_2_8 : pj (regOf Try.f5 2) 8 = some (some 4, Op.assign (Operand.tmp 20), 36, none) := by kernel_rfl
theorem p5_2_9 : pj (regOf Try.f5 2) 9 = some (some 5, Op.assign (Operand.tmp 21), 29, none) := by kernel_rfl
theorem p5_3_0 : pj (regOf Try.f5 3) 0 = some (some 23, Op.move (Operand.tmp 0), 36, none) := by kernel_rfl
theorem p5_3_1 : pj (regOf Try.f5 3) 1 = some (some 24, Op.call { callee := Callee.value (Operand.func 26), args := #[Operand.tmp 23], argTypes := #[36] }, 47, none) := by kernel_rfl
theorem cl26 : callable Try.f26 = true := by kernel_rfl
theorem p5_3_2 : pj (regOf Try.f5 3) 2 = some (some 22, Op.move (Operand.tmp 24), 47, none) := by kernel_rfl
theorem p5_3_3 : pj (regOf Try.f5 3) 3 = some (some 25, Op.extract (Operand.tmp 22) 0, 24, none) := by kernel_rfl
theorem p5_3_4 : pj (regOf Try.f5 3) 4 = some (some 26, Op.extract (Operand.tmp 22) 1, 36, none) := by kernel_rfl
theorem p5_3_5 : pj (regOf Try.f5 3) 5 = some (some 27, Op.extract (Operand.tmp 22) 2, 3, none) := by kernel_rfl
theorem p5_3_6 : pj (regOf Try.f5 3) 6 = some (some 6, Op.alloc 24, 0, none) := by kernel_rfl
theorem tZ24 : (Try.prog.info? 24).bind (·.zero) = some (Value.agg #[Value.int .i64 0, Value.int .i64 0, Value.int .i64 0, Value.int .i64 0, Value.int .i64 0, Value.int .u8 0, Value.int .u8 0, Value.int .u8 0, Value.int .u8 0, Value.int .u8 0, Value.int .u8 0, Value.int .u8 0, Value.int .u8 0, Value.int .u8 0, Value.int .u8 0, Value.int .u8 0, Value.int .u8 0, Value.int .u8 0, Value.int .u8 0, Value.int .u8 0, Value.int .u8 0, Value.int .u8 0, Value.int .u8 0, Value.int .u8 0, Value.int .u8 0, Value.int .u8 0, Value.int .u8 0, Value.int .u8 0, Value.int .u8 0, Value.int .u8 0, Value.int .u8 0, Value.int .u8 0, Value.int .u8 0, Value.int .u8 0, Value.int .u8 0, Value.int .u8 0, Value.int .u8 0]) := by kernel_rfl
theorem p5_3_7 : pj (regOf Try.f5 3) 7 = some (none, Op.store 24 (Operand.tmp 6) (Operand.tmp 25), 0, none) := by kernel_rfl
theorem tS24 : (Try.prog.info? 24).map (·.size) = some 37 := by kernel_rfl
theorem p5_3_8 : pj (regOf Try.f5 3) 8 = some (some 7, Op.assign (Operand.tmp 26), 36, none) := by kernel_rfl
theorem p5_3_9 : pj (regOf Try.f5 3) 9 = some (some 8, Op.assign (Operand.tmp 27), 3, none) := by kernel_rfl
theorem ns5_4 : Region.noSelect (regOf Try.f5 4) = true := by kernel_rfl
theorem p5_4_0 : pj (regOf Try.f5 4) 0 = some (some 28, Op.call { callee := Callee.value (Operand.func 17), args := #[], argTypes := #[] }, 4, none) := by kernel_rfl
theorem cl17 : callable Try.f17 = true := by kernel_rfl
theorem p5_4_1 : pj (regOf Try.f5 4) 1 = some (some 29, Op.unOp UnOp.not 4 (Operand.tmp 28), 4, none) := by kernel_rfl
theorem p5_4_2 : pj (regOf Try.f5 4) 2 = some (some 30, Op.move (Operand.tmp 29), 4, none) := by kernel_rfl
theorem g5_4_2 : dstOf (regOf Try.f5 4) 2 = some 30 := by kernel_rfl
theorem p5_4_3 : pj (regOf Try.f5 4) 3 = some (some 31, Op.move (Operand.tmp 5), 29, some (2, false)) := by kernel_rfl
theorem p5_4_4 : pj (regOf Try.f5 4) 4 = some (some 32, Op.move (Operand.tmp 8), 3, some (2, false)) := by kernel_rfl
theorem p5_4_5 : pj (regOf Try.f5 4) 5 = some (some 33, Op.binOp BinOp.neq 3 (Operand.tmp 31) (Operand.tmp 32) 3, 4, some (2, false)) := by kernel_rfl
theorem p5_4_6 : pj (regOf Try.f5 4) 6 = some (some 34, Op.pick (Operand.tmp 30) (Operand.const (Value.bool true)) (Operand.tmp 33), 4, none) := by kernel_rfl
theorem p5_4_7 : pj (regOf Try.f5 4) 7 = some (some 35, Op.move (Operand.tmp 34), 4, none) := by kernel_rfl
theorem g5_4_7 : dstOf (regOf Try.f5 4) 7 = some 35 := by kernel_rfl
theorem p5_4_8 : pj (regOf Try.f5 4) 8 = some (some 36, Op.load 27 (Operand.tmp 3), 27, some (7, false)) := by kernel_rfl
theorem tA27 : (Try.prog.underlying 27).map aggD = some true := by kernel_rfl
theorem p5_4_10 : pj (regOf Try.f5 4) 10 = some (some 38, Op.load 24 (Operand.tmp 6), 24, some (7, false)) := by kernel_rfl
theorem tA24 : (Try.prog.underlying 24).map aggD = some true := by kernel_rfl
theorem p5_4_9 : pj (regOf Try.f5 4) 9 = some (some 37, Op.call { callee := Callee.value (Operand.func 23), args := #[Operand.tmp 36], argTypes := #[27] }, 24, some (7, false)) := by kernel_rfl
theorem cl23 : callable Try.f23 = true := by kernel_rfl
theorem p5_4_11 : pj (regOf Try.f5 4) 11 = some (some 39, Op.binOp BinOp.neq 24 (Operand.tmp 37) (Operand.tmp 38) 24, 4, some (7, false)) := by kernel_rfl
theorem eg24 : Try.prog.eqGuardType Try.prog.depth 24 = false := by kernel_rfl
theorem p5_4_12 : pj (regOf Try.f5 4) 12 = some (some 40, Op.pick (Operand.tmp 35) (Operand.const (Value.bool true)) (Operand.tmp 39), 4, none) := by kernel_rfl
theorem p5_4_13 : pj (regOf Try.f5 4) 13 = some (some 41, Op.move (Operand.tmp 40), 4, none) := by kernel_rfl
theorem g5_4_13 : dstOf (regOf Try.f5 4) 13 = some 41 := by kernel_rfl
theorem p5_4_14 : pj (regOf Try.f5 4) 14 = some (some 42, Op.move (Operand.tmp 4), 36, some (13, false)) := by kernel_rfl
theorem p5_4_15 : pj (regOf Try.f5 4) 15 = some (some 43, Op.move (Operand.tmp 7), 36, some (13, false)) := by kernel_rfl
theorem p5_4_16 : pj (regOf Try.f5 4) 16 = some (some 44, Op.call { callee := Callee.value (Operand.func 21), args := #[Operand.tmp 42, Operand.tmp 43], argTypes := #[36, 36] }, 4, some (13, false)) := by kernel_rfl
theorem cl21 : callable Try.f21 = true := by kernel_rfl
theorem p5_4_17 : pj (regOf Try.f5 4) 17 = some (some 45, Op.unOp UnOp.not 4 (Operand.tmp 44), 4, some (13, false)) := by kernel_rfl
theorem p5_4_18 : pj (regOf Try.f5 4) 18 = some (some 46, Op.pick (Operand.tmp 41) (Operand.const (Value.bool true)) (Operand.tmp 45), 4, none) := by kernel_rfl
theorem p5_6_0 : pj (regOf Try.f5 6) 0 = some (some 47, Op.move (Operand.tmp 8), 3, none) := by kernel_rfl
theorem p5_6_1 : pj (regOf Try.f5 6) 1 = some (some 48, Op.binOp BinOp.neq 3 (Operand.tmp 47) (Operand.const (Value.int IntKind.i64 0)) 3, 4, none) := by kernel_rfl
theorem p5_7_0 : pj (regOf Try.f5 7) 0 = some (some 2, Op.assign (Operand.const (Value.bool true)), 4, none) := by kernel_rfl
set_option maxHeartbeats 4000000 in
theorem law_err (A : Option Addr) (z l : List Int) (cap : Nat) (hx : (if (1400 : Int) < (z.length : Int) then (1400 : Int) else (z.length : Int)) = (l.length : Int)) (w : World) (hl : Kd.C (Kd.int .u8) w A l.length l) (hlz : l.length ≤ z.length) (hlc0 : z.length ≤ cap) (hcm : cap ≤ 9223372036854775807) (c f n x h : Int) (s d : Nat → Int) (rest : List Int) (er : Int) (her : ¬ er = 0) (hok : er = 0 → okF c f 0 x h = true ∧ rest.length ≤ 1240 ∧ encF c f (rest.length : Int) x h s d ++ rest = l) (hrl : rest.length ≤ 1400) (hag1 : ∀ (A : Option Addr) (cap : Nat) (w : World), Kd.C (Kd.int .u8) w A l.length l → l.length ≤ cap → cap ≤ 9223372036854775807 → Calls Try.prog 25 #[.slice A l.length cap] w fun e w' => ∃ A' c', e = .returned (.tuple #[Value.agg (([Value.int .i64 c, Value.int .i64 f, Value.int .i64 n, Value.int .i64 x, Value.int .i64 h] ++ b16 s ++ b16 d)).toArray, .slice A' rest.length c', .int .i64 er]) ∧ rest.length ≤ c' ∧ c' ≤ 9223372036854775807 ∧ Kd.C (Kd.int .u8) w' A' rest.length rest ∧ Kp w w' (fun _ => False)) (hag2 : ∀ (A : Option Addr) (cap : Nat) (w : World), Kd.C (Kd.int .u8) w A l.length l → l.length ≤ cap → cap ≤ 9223372036854775807 → Calls Try.prog 26 #[.slice A l.length cap] w fun e w' => ∃ A' c', e = .returned (.tuple #[Value.agg (([Value.int .i64 c, Value.int .i64 f, Value.int .i64 n, Value.int .i64 x, Value.int .i64 h] ++ b16 s ++ b16 d)).toArray, .slice A' rest.length c', .int .i64 er]) ∧ rest.length ≤ c' ∧ c' ≤ 9223372036854775807 ∧ Kd.C (Kd.int .u8) w' A' rest.length rest ∧ Kp w w' (fun _ => False)) : Calls Try.prog 5 #[.slice A z.length cap] w fun e w' => e = .returned (.bool true) ∧ Kp w w' (fun _ => False) := by
  have K_0 := Kp.refl w (fun _ => False)
  have hl14 : l.length ≤ 1400 := by split at hx <;> omega
  have hlc : l.length ≤ cap := by omega
  have F_b : ∀ W', Kp w W' (fun _ => False) → Kd.C (Kd.int .u8) W' A l.length l := fun W' h => Kd.C_below hl (h.to (Nat.le_refl _) (fun _ h => h.elim))
  refine enter (args := [Value.slice A z.length cap]) (n := 63) Try.func5 body5 rfl rfl rfl ?_
  intro a hE
  refine c_reg R5_0_l ?_
  refine p_cons (s_still p5_0_0 hE wn_none rfl (st_assign rfl) ?_)
  clear hE a; intro a hE
  refine p_nil ?_
  refine x_norm ?_
  refine c_reg R5_1_l ?_
  refine p_cons (s_still p5_1_0 hE wn_none rfl (st_move rfl) ?_)
  clear hE a; intro a hE
  refine p_cons (s_still p5_1_1 hE wn_none rfl (st_move rfl) ?_)
  clear hE a; intro a hE
  refine p_cons (s_still p5_1_2 hE wn_none rfl (st_len Try.underlying36 rfl) ?_)
  clear hE a; intro a hE
  refine p_cons (s_still p5_1_3 hE wn_none rfl (st_min (z := (l.length : Int)) rfl rfl hx) ?_)
  clear hE a; intro a hE
  refine p_cons (s_still p5_1_4 hE wn_none rfl (st_sliceH (h := l.length) Try.underlying36 tS5 rfl rfl (by omega)) ?_)
  clear hE a; intro a hE
  refine p_cons (s_still p5_1_5 hE wn_none rfl (st_assign rfl) ?_)
  clear hE a; intro a hE
  refine p_nil ?_
  refine x_norm ?_
  refine c_reg R5_2_l ?_
  refine p_cons (s_still p5_2_0 hE wn_none rfl (st_move rfl) ?_)
  clear hE a; intro a hE
  refine p_cons (s_call (xs := [Operand.tmp 17]) (args := [Value.slice A l.length cap]) p5_2_1 hE wn_none rfl rfl Try.func25 cl25 (hag1 A cap _ (F_b _ K_0) hlc hcm) ?_)
  rintro e w1 ⟨A1, c1, rfl, hc1, hm1, hC1, hk⟩
  replace K_0 := K_0.then_ hk (fun _ h => h.elim)
  have K_s2 := Kp.refl w1 (fun _ => False)
  have F_r1 : ∀ W', Kp w1 W' (fun _ => False) → Kd.C (Kd.int .u8) W' A1 rest.length rest := fun W' h => Kd.C_below hC1 (h.to (Nat.le_refl _) (fun _ h => h.elim))
  refine ⟨_, rfl, ?_⟩
  clear hE a; intro a hE
  refine p_cons (s_still p5_2_2 hE wn_none rfl (st_move rfl) ?_)
  clear hE a; intro a hE
  refine p_cons (s_still p5_2_3 hE wn_none rfl (st_extract rfl rfl) ?_)
  clear hE a; intro a hE
  refine p_cons (s_still p5_2_4 hE wn_none rfl (st_extract rfl rfl) ?_)
  clear hE a; intro a hE
  refine p_cons (s_still p5_2_5 hE wn_none rfl (st_extract rfl rfl) ?_)
  clear hE a; intro a hE
  refine p_cons (s_alloc p5_2_6 hE wn_none rfl tZ27 ?_)
  clear hE a; intro g3 w4 z5 B_g3 hk a hE
  replace B_g3 : w4.heap[g3]? = some (.cells #[Value.int .i64 0, Value.int .i64 0, Value.int .i64 0, Value.int .i64 0, Value.int .i64 0, Value.int .u8 0, Value.int .u8 0, Value.int .u8 0, Value.int .u8 0, Value.int .u8 0, Value.int .u8 0, Value.int .u8 0, Value.int .u8 0, Value.int .u8 0, Value.int .u8 0, Value.int .u8 0, Value.int .u8 0, Value.int .u8 0, Value.int .u8 0, Value.int .u8 0, Value.int .u8 0, Value.int .u8 0, Value.int .u8 0, Value.int .u8 0, Value.int .u8 0, Value.int .u8 0, Value.int .u8 0, Value.int .u8 0, Value.int .u8 0, Value.int .u8 0, Value.int .u8 0, Value.int .u8 0, Value.int .u8 0, Value.int .u8 0, Value.int .u8 0, Value.int .u8 0, Value.int .u8 0] 27 (0, 0)) := B_g3
  have z_0_g3 := Nat.le_trans K_0.kept.1 z5
  have z_s2_g3 := Nat.le_trans K_s2.kept.1 z5
  replace K_0 := K_0.then_ hk (fun _ h => h.elim)
  replace K_s2 := K_s2.then_ hk (fun _ h => h.elim)
  clear hk
  refine p_cons (s_store (off := 0) (k := 37) (cs' := (([Value.int .i64 c, Value.int .i64 f, Value.int .i64 n, Value.int .i64 x, Value.int .i64 h] ++ b16 s ++ b16 d)).toArray) p5_2_7 hE wn_none tS27 rfl rfl rfl rfl B_g3 (Nat.le_of_ble_eq_true rfl) rfl ?_)
  intro w6 B_g3' hk
  replace K_0 := K_0.then_ hk (fun k h => by rw [show k = g3 from h]; exact Or.inr z_0_g3)
  replace K_s2 := K_s2.then_ hk (fun k h => by rw [show k = g3 from h]; exact Or.inr z_s2_g3)
  replace B_g3 := B_g3'
  clear hk
  refine p_cons (s_still p5_2_8 hE wn_none rfl (st_assign rfl) ?_)
  clear hE a; intro a hE
  refine p_cons (s_still p5_2_9 hE wn_none rfl (st_assign rfl) ?_)
  clear hE a; intro a hE
  refine p_nil ?_
  refine x_norm ?_
  refine c_reg R5_3_l ?_
  refine p_cons (s_still p5_3_0 hE wn_none rfl (st_move rfl) ?_)
  clear hE a; intro a hE
  refine p_cons (s_call (xs := [Operand.tmp 23]) (args := [Value.slice A l.length cap]) p5_3_1 hE wn_none rfl rfl Try.func26 cl26 (hag2 A cap _ (F_b _ K_0) hlc hcm) ?_)
  rintro e w7 ⟨A2, c2, rfl, hc2, hm2, hC2, hk⟩
  replace B_g3 := kp_blk B_g3 hk (fun h => h)
  replace K_0 := K_0.then_ hk (fun _ h => h.elim)
  replace K_s2 := K_s2.then_ hk (fun _ h => h.elim)
  have K_s8 := Kp.refl w7 (fun _ => False)
  have F_r2 : ∀ W', Kp w7 W' (fun _ => False) → Kd.C (Kd.int .u8) W' A2 rest.length rest := fun W' h => Kd.C_below hC2 (h.to (Nat.le_refl _) (fun _ h => h.elim))
  refine ⟨_, rfl, ?_⟩
  clear hE a; intro a hE
  refine p_cons (s_still p5_3_2 hE wn_none rfl (st_move rfl) ?_)
  clear hE a; intro a hE
  refine p_cons (s_still p5_3_3 hE wn_none rfl (st_extract rfl rfl) ?_)
  clear hE a; intro a hE
  refine p_cons (s_still p5_3_4 hE wn_none rfl (st_extract rfl rfl) ?_)
  clear hE a; intro a hE
  refine p_cons (s_still p5_3_5 hE wn_none rfl (st_extract rfl rfl) ?_)
  clear hE a; intro a hE
  refine p_cons (s_alloc p5_3_6 hE wn_none rfl tZ24 ?_)
  clear hE a; intro g9 w10 z11 B_g9 hk a hE
  replace B_g9 : w10.heap[g9]? = some (.cells #[Value.int .i64 0, Value.int .i64 0, Value.int .i64 0, Value.int .i64 0, Value.int .i64 0, Value.int .u8 0, Value.int .u8 0, Value.int .u8 0, Value.int .u8 0, Value.int .u8 0, Value.int .u8 0, Value.int .u8 0, Value.int .u8 0, Value.int .u8 0, Value.int .u8 0, Value.int .u8 0, Value.int .u8 0, Value.int .u8 0, Value.int .u8 0, Value.int .u8 0, Value.int .u8 0, Value.int .u8 0, Value.int .u8 0, Value.int .u8 0, Value.int .u8 0, Value.int .u8 0, Value.int .u8 0, Value.int .u8 0, Value.int .u8 0, Value.int .u8 0, Value.int .u8 0, Value.int .u8 0, Value.int .u8 0, Value.int .u8 0, Value.int .u8 0, Value.int .u8 0, Value.int .u8 0] 24 (0, 0)) := B_g9
  have n_g3_g9 : g3 ≠ g9 := ne_new B_g3 z11
  have z_0_g9 := Nat.le_trans K_0.kept.1 z11
  have z_s2_g9 := Nat.le_trans K_s2.kept.1 z11
  have z_s8_g9 := Nat.le_trans K_s8.kept.1 z11
  replace B_g3 := kp_blk B_g3 hk (fun h => h)
  replace K_0 := K_0.then_ hk (fun _ h => h.elim)
  replace K_s2 := K_s2.then_ hk (fun _ h => h.elim)
  replace K_s8 := K_s8.then_ hk (fun _ h => h.elim)
  clear hk
  refine p_cons (s_store (off := 0) (k := 37) (cs' := (([Value.int .i64 c, Value.int .i64 f, Value.int .i64 n, Value.int .i64 x, Value.int .i64 h] ++ b16 s ++ b16 d)).toArray) p5_3_7 hE wn_none tS24 rfl rfl rfl rfl B_g9 (Nat.le_of_ble_eq_true rfl) rfl ?_)
  intro w12 B_g9' hk
  replace B_g3 := kp_blk B_g3 hk n_g3_g9
  replace K_0 := K_0.then_ hk (fun k h => by rw [show k = g9 from h]; exact Or.inr z_0_g9)
  replace K_s2 := K_s2.then_ hk (fun k h => by rw [show k = g9 from h]; exact Or.inr z_s2_g9)
  replace K_s8 := K_s8.then_ hk (fun k h => by rw [show k = g9 from h]; exact Or.inr z_s8_g9)
  replace B_g9 := B_g9'
  clear hk
  refine p_cons (s_still p5_3_8 hE wn_none rfl (st_assign rfl) ?_)
  clear hE a; intro a hE
  refine p_cons (s_still p5_3_9 hE wn_none rfl (st_assign rfl) ?_)
  clear hE a; intro a hE
  refine p_nil ?_
  refine x_norm ?_
  refine wp_seq ?_
  refine c_drawS (S := fun W => W.heap[g3]? = some (.cells (([Value.int .i64 c, Value.int .i64 f, Value.int .i64 n, Value.int .i64 x, Value.int .i64 h] ++ b16 s ++ b16 d)).toArray 27 (0, 0)) ∧ W.heap[g9]? = some (.cells (([Value.int .i64 c, Value.int .i64 f, Value.int .i64 n, Value.int .i64 x, Value.int .i64 h] ++ b16 s ++ b16 d)).toArray 24 (0, 0)) ∧ True) rfl rfl (listed := #[false, false, false, false, false, false, false, false, false, false, false, false, false, false, false, false, false, false, false]) rfl ?_
  intro w13 hh hk
  replace B_g3 := kp_blk B_g3 hk (fun h => h)
  replace B_g9 := kp_blk B_g9 hk (fun h => h)
  replace K_0 := K_0.then_ hk (fun _ h => h.elim)
  replace K_s2 := K_s2.then_ hk (fun _ h => h.elim)
  replace K_s8 := K_s8.then_ hk (fun _ h => h.elim)
  clear hh hk
  refine d_one (by kernel_rfl) rfl (s_call (xs := []) (args := []) p5_4_0 hE wn_none rfl rfl Try.func17 cl17 (known_any _) ?_)
  rintro e w14 ⟨rfl, hk⟩
  replace B_g3 := kp_blk B_g3 hk (fun h => h)
  replace B_g9 := kp_blk B_g9 hk (fun h => h)
  replace K_0 := K_0.then_ hk (fun _ h => h.elim)
  replace K_s2 := K_s2.then_ hk (fun _ h => h.elim)
  replace K_s8 := K_s8.then_ hk (fun _ h => h.elim)
  refine ⟨_, rfl, ?_⟩
  clear hE a; intro a hE
  refine ⟨⟨B_g3, B_g9, trivial⟩, ?_⟩
  refine d_take (v := Value.bool false) p5_4_1 ns5_4 (by kernel_rfl) (by kernel_rfl) (fun _ _ _ h => h) hE wn_none rfl ⟨B_g3, B_g9, trivial⟩ (fun W hS => (st_not rfl rfl)) rfl ?_
  clear hE a; intro a hE
  refine d_take (v := Value.bool false) p5_4_2 ns5_4 (by kernel_rfl) (by kernel_rfl) (fun _ _ _ h => h) hE wn_none rfl ⟨B_g3, B_g9, trivial⟩ (fun W hS => (st_move rfl)) rfl ?_
  clear hE a; intro a hE
  refine d_take (v := Value.int .i64 er) p5_4_3 ns5_4 (by kernel_rfl) (by kernel_rfl) (fun _ _ _ h => h) hE (wn_some g5_4_2 rfl rfl) rfl ⟨B_g3, B_g9, trivial⟩ (fun W hS => (st_move rfl)) rfl ?_
  clear hE a; intro a hE
  refine d_take (v := Value.int .i64 er) p5_4_4 ns5_4 (by kernel_rfl) (by kernel_rfl) (fun _ _ _ h => h) hE (wn_some g5_4_2 rfl rfl) rfl ⟨B_g3, B_g9, trivial⟩ (fun W hS => (st_move rfl)) rfl ?_
  clear hE a; intro a hE
  refine d_take (v := Value.bool false) p5_4_5 ns5_4 (by kernel_rfl) (by kernel_rfl) (fun _ _ _ h => h) hE (wn_some g5_4_2 rfl rfl) rfl ⟨B_g3, B_g9, trivial⟩ (fun W hS => (st_neq (b := false) rfl rfl (by simp))) rfl ?_
  clear hE a; intro a hE
  refine d_take (v := Value.bool false) p5_4_6 ns5_4 (by kernel_rfl) (by kernel_rfl) (fun _ _ _ h => h) hE wn_none rfl ⟨B_g3, B_g9, trivial⟩ (fun W hS => (st_pick rfl rfl)) rfl ?_
  clear hE a; intro a hE
  refine d_take (v := Value.bool false) p5_4_7 ns5_4 (by kernel_rfl) (by kernel_rfl) (fun _ _ _ h => h) hE wn_none rfl ⟨B_g3, B_g9, trivial⟩ (fun W hS => (st_move rfl)) rfl ?_
  clear hE a; intro a hE
  refine d_take (v := Value.agg (([Value.int .i64 c, Value.int .i64 f, Value.int .i64 n, Value.int .i64 x, Value.int .i64 h] ++ b16 s ++ b16 d)).toArray) p5_4_8 ns5_4 (by kernel_rfl) (by kernel_rfl) (fun _ _ _ h => h) hE (wn_some g5_4_7 rfl rfl) rfl ⟨B_g3, B_g9, trivial⟩ (fun W hS => (st_loadN (off := 0) (k := 37) (vs := ([Value.int .i64 c, Value.int .i64 f, Value.int .i64 n, Value.int .i64 x, Value.int .i64 h] ++ b16 s ++ b16 d)) tA27 tS27 rfl hS.1 rfl rfl)) rfl ?_
  clear hE a; intro a hE
  refine d_take (v := Value.agg (([Value.int .i64 c, Value.int .i64 f, Value.int .i64 n, Value.int .i64 x, Value.int .i64 h] ++ b16 s ++ b16 d)).toArray) p5_4_10 ns5_4 (by kernel_rfl) (by kernel_rfl) (fun _ _ _ h => h) hE (wn_some g5_4_7 rfl rfl) rfl ⟨B_g3, B_g9, trivial⟩ (fun W hS => (st_loadN (off := 0) (k := 37) (vs := ([Value.int .i64 c, Value.int .i64 f, Value.int .i64 n, Value.int .i64 x, Value.int .i64 h] ++ b16 s ++ b16 d)) tA24 tS24 rfl hS.2.1 rfl rfl)) rfl ?_
  clear hE a; intro a hE
  refine d_one (by kernel_rfl) rfl (s_call (xs := [Operand.tmp 36]) (args := [Value.agg (([Value.int .i64 c, Value.int .i64 f, Value.int .i64 n, Value.int .i64 x, Value.int .i64 h] ++ b16 s ++ b16 d)).toArray]) p5_4_9 hE (wn_some g5_4_7 rfl rfl) rfl rfl Try.func23 cl23 (of_any c f n x h s d _) ?_)
  rintro e w15 ⟨rfl, hk⟩
  replace B_g3 := kp_blk B_g3 hk (fun h => h)
  replace B_g9 := kp_blk B_g9 hk (fun h => h)
  replace K_0 := K_0.then_ hk (fun _ h => h.elim)
  replace K_s2 := K_s2.then_ hk (fun _ h => h.elim)
  replace K_s8 := K_s8.then_ hk (fun _ h => h.elim)
  refine ⟨_, rfl, ?_⟩
  clear hE a; intro a hE
  refine ⟨⟨B_g3, B_g9, trivial⟩, ?_⟩
  refine d_take (v := Value.bool false) p5_4_11 ns5_4 (by kernel_rfl) (by kernel_rfl) (fun _ _ _ h => h) hE (wn_some g5_4_7 rfl rfl) rfl ⟨B_g3, B_g9, trivial⟩ (fun W hS => (st_neqA (b := true) eg24 rfl rfl (eqA24_refl _ _ _ _ _ _ _))) rfl ?_
  clear hE a; intro a hE
  refine d_take (v := Value.bool false) p5_4_12 ns5_4 (by kernel_rfl) (by kernel_rfl) (fun _ _ _ h => h) hE wn_none rfl ⟨B_g3, B_g9, trivial⟩ (fun W hS => (st_pick rfl rfl)) rfl ?_
  clear hE a; intro a hE
  refine d_take (v := Value.bool false) p5_4_13 ns5_4 (by kernel_rfl) (by kernel_rfl) (fun _ _ _ h => h) hE wn_none rfl ⟨B_g3, B_g9, trivial⟩ (fun W hS => (st_move rfl)) rfl ?_
  clear hE a; intro a hE
  refine d_take (v := Value.slice A1 rest.length c1) p5_4_14 ns5_4 (by kernel_rfl) (by kernel_rfl) (fun _ _ _ h => h) hE (wn_some g5_4_13 rfl rfl) rfl ⟨B_g3, B_g9, trivial⟩ (fun W hS => (st_move rfl)) rfl ?_
  clear hE a; intro a hE
  refine d_take (v := Value.slice A2 rest.length c2) p5_4_15 ns5_4 (by kernel_rfl) (by kernel_rfl) (fun _ _ _ h => h) hE (wn_some g5_4_13 rfl rfl) rfl ⟨B_g3, B_g9, trivial⟩ (fun W hS => (st_move rfl)) rfl ?_
  clear hE a; intro a hE
  refine d_one (by kernel_rfl) rfl (s_call (xs := [Operand.tmp 42, Operand.tmp 43]) (args := [Value.slice A1 rest.length c1, Value.slice A2 rest.length c2]) p5_4_16 hE (wn_some g5_4_13 rfl rfl) rfl rfl Try.func21 cl21 (same_any A1 A2 c1 c2 rest rest true (by simp) _ (F_r1 _ K_s2) hc1 (F_r2 _ K_s8) hc2 (by omega)) ?_)
  rintro e w16 ⟨rfl, hn⟩
  have hk := kp_n hn (fun _ => False)
  replace B_g3 := kp_blk B_g3 hk (fun h => h)
  replace B_g9 := kp_blk B_g9 hk (fun h => h)
  replace K_0 := K_0.then_ hk (fun _ h => h.elim)
  replace K_s2 := K_s2.then_ hk (fun _ h => h.elim)
  replace K_s8 := K_s8.then_ hk (fun _ h => h.elim)
  refine ⟨_, rfl, ?_⟩
  clear hE a; intro a hE
  refine ⟨⟨B_g3, B_g9, trivial⟩, ?_⟩
  refine d_take (v := Value.bool false) p5_4_17 ns5_4 (by kernel_rfl) (by kernel_rfl) (fun _ _ _ h => h) hE (wn_some g5_4_13 rfl rfl) rfl ⟨B_g3, B_g9, trivial⟩ (fun W hS => (st_not rfl rfl)) rfl ?_
  clear hE a; intro a hE
  refine d_take (v := Value.bool false) p5_4_18 ns5_4 (by kernel_rfl) (by kernel_rfl) (fun _ _ _ h => h) hE wn_none rfl ⟨B_g3, B_g9, trivial⟩ (fun W hS => (st_pick rfl rfl)) rfl ?_
  clear hE a; intro a hE
  refine d_end (by kernel_rfl) ?_
  refine x_norm ?_
  refine c_cond (t := false) hE rfl ?_
  refine wp_skip ?_
  refine x_norm ?_
  refine wp_seq ?_
  refine c_reg R5_6_l ?_
  refine p_cons (s_still p5_6_0 hE wn_none rfl (st_move rfl) ?_)
  clear hE a; intro a hE
  refine p_cons (s_still p5_6_1 hE wn_none rfl (st_neq (b := true) rfl rfl (by simp [her])) ?_)
  clear hE a; intro a hE
  refine p_nil ?_
  refine x_norm ?_
  refine c_cond (t := true) hE rfl ?_
  refine c_reg R5_7_l ?_
  refine p_cons (s_still p5_7_0 hE wn_none rfl (st_assign rfl) ?_)
  clear hE a; intro a hE
  refine p_nil ?_
  refine x_norm ?_
  refine wp_ret ?_
  refine x_ret ?_
  refine ret_one (v := Value.bool true) rfl hE (.tmp rfl .nil) ?_
  exact ⟨rfl, K_0⟩
theorem p5_8_0 : pj (regOf Try.f5 8) 0 = some (some 50, Op.load 27 (Operand.tmp 3), 27, none) := by kernel_rfl
theorem p5_8_1 : pj (regOf Try.f5 8) 1 = some (some 51, Op.move (Operand.tmp 4), 36, none) := by kernel_rfl
theorem p5_8_2 : pj (regOf Try.f5 8) 2 = some (some 52, Op.buildSlice 35 1 #[(0, Operand.tmp 51)], 35, none) := by kernel_rfl
theorem p5_8_3 : pj (regOf Try.f5 8) 3 = some (some 53, Op.call { callee := Callee.value (Operand.func 24), args := #[Operand.tmp 50, Operand.tmp 52], argTypes := #[27, 35] }, 37, none) := by kernel_rfl
theorem cl24 : callable Try.f24 = true := by kernel_rfl
theorem p5_8_4 : pj (regOf Try.f5 8) 4 = some (some 49, Op.move (Operand.tmp 53), 37, none) := by kernel_rfl
theorem p5_8_5 : pj (regOf Try.f5 8) 5 = some (some 54, Op.extract (Operand.tmp 49) 0, 36, none) := by kernel_rfl
theorem p5_8_6 : pj (regOf Try.f5 8) 6 = some (some 55, Op.extract (Operand.tmp 49) 1, 29, none) := by kernel_rfl
theorem p5_8_7 : pj (regOf Try.f5 8) 7 = some (some 9, Op.assign (Operand.tmp 54), 36, none) := by kernel_rfl
theorem p5_8_8 : pj (regOf Try.f5 8) 8 = some (some 10, Op.assign (Operand.tmp 55), 29, none) := by kernel_rfl
theorem p5_9_0 : pj (regOf Try.f5 9) 0 = some (some 56, Op.move (Operand.tmp 10), 29, none) := by kernel_rfl
theorem p5_9_1 : pj (regOf Try.f5 9) 1 = some (some 57, Op.binOp BinOp.eql 29 (Operand.tmp 56) (Operand.const (Value.int IntKind.i64 0)) 29, 4, none) := by kernel_rfl
theorem p5_9_2 : pj (regOf Try.f5 9) 2 = some (some 58, Op.move (Operand.tmp 57), 4, none) := by kernel_rfl
theorem p5_9_3 : pj (regOf Try.f5 9) 3 = some (some 59, Op.move (Operand.tmp 9), 36, some (2, true)) := by kernel_rfl
theorem g5_9_2 : dstOf (regOf Try.f5 9) 2 = some 58 := by kernel_rfl
theorem p5_9_4 : pj (regOf Try.f5 9) 4 = some (some 60, Op.move (Operand.tmp 0), 36, some (2, true)) := by kernel_rfl
theorem p5_9_5 : pj (regOf Try.f5 9) 5 = some (some 61, Op.call { callee := Callee.value (Operand.func 21), args := #[Operand.tmp 59, Operand.tmp 60], argTypes := #[36, 36] }, 4, some (2, true)) := by kernel_rfl
theorem p5_9_6 : pj (regOf Try.f5 9) 6 = some (some 62, Op.pick (Operand.tmp 58) (Operand.tmp 61) (Operand.const (Value.bool false)), 4, none) := by kernel_rfl
theorem p5_9_7 : pj (regOf Try.f5 9) 7 = some (some 2, Op.assign (Operand.tmp 62), 4, none) := by kernel_rfl
set_option maxHeartbeats 4000000 in
theorem law_ok (A : Option Addr) (z l : List Int) (cap : Nat) (hx : (if (1400 : Int) < (z.length : Int) then (1400 : Int) else (z.length : Int)) = (l.length : Int)) (w : World) (hl : Kd.C (Kd.int .u8) w A l.length l) (hlz : l.length ≤ z.length) (hlc0 : z.length ≤ cap) (hcm : cap ≤ 9223372036854775807) (c f n x h : Int) (s d : Nat → Int) (rest : List Int) (er : Int) (her : er = 0) (hok : er = 0 → okF c f 0 x h = true ∧ rest.length ≤ 1240 ∧ encF c f (rest.length : Int) x h s d ++ rest = l) (hrl : rest.length ≤ 1400) (hag1 : ∀ (A : Option Addr) (cap : Nat) (w : World), Kd.C (Kd.int .u8) w A l.length l → l.length ≤ cap → cap ≤ 9223372036854775807 → Calls Try.prog 25 #[.slice A l.length cap] w fun e w' => ∃ A' c', e = .returned (.tuple #[Value.agg (([Value.int .i64 c, Value.int .i64 f, Value.int .i64 n, Value.int .i64 x, Value.int .i64 h] ++ b16 s ++ b16 d)).toArray, .slice A' rest.length c', .int .i64 er]) ∧ rest.length ≤ c' ∧ c' ≤ 9223372036854775807 ∧ Kd.C (Kd.int .u8) w' A' rest.length rest ∧ Kp w w' (fun _ => False)) (hag2 : ∀ (A : Option Addr) (cap : Nat) (w : World), Kd.C (Kd.int .u8) w A l.length l → l.length ≤ cap → cap ≤ 9223372036854775807 → Calls Try.prog 26 #[.slice A l.length cap] w fun e w' => ∃ A' c', e = .returned (.tuple #[Value.agg (([Value.int .i64 c, Value.int .i64 f, Value.int .i64 n, Value.int .i64 x, Value.int .i64 h] ++ b16 s ++ b16 d)).toArray, .slice A' rest.length c', .int .i64 er]) ∧ rest.length ≤ c' ∧ c' ≤ 9223372036854775807 ∧ Kd.C (Kd.int .u8) w' A' rest.length rest ∧ Kp w w' (fun _ => False)) : Calls Try.prog 5 #[.slice A z.length cap] w fun e w' => e = .returned (.bool true) ∧ Kp w w' (fun _ => False) := by
  have K_0 := Kp.refl w (fun _ => False)
  have hl14 : l.length ≤ 1400 := by split at hx <;> omega
  have hlc : l.length ≤ cap := by omega
  have F_b : ∀ W', Kp w W' (fun _ => False) → Kd.C (Kd.int .u8) W' A l.length l := fun W' h => Kd.C_below hl (h.to (Nat.le_refl _) (fun _ h => h.elim))
  obtain ⟨hok1, hok2, hok3⟩ := hok her
  refine enter (args := [Value.slice A z.length cap]) (n := 63) Try.func5 body5 rfl rfl rfl ?_
  intro a hE
  refine c_reg R5_0_l ?_
  refine p_cons (s_still p5_0_0 hE wn_none rfl (st_assign rfl) ?_)
  clear hE a; intro a hE
  refine p_nil ?_
  refine x_norm ?_
  refine c_reg R5_1_l ?_
  refine p_cons (s_still p5_1_0 hE wn_none rfl (st_move rfl) ?_)
  clear hE a; intro a hE
  refine p_cons (s_still p5_1_1 hE wn_none rfl (st_move rfl) ?_)
  clear hE a; intro a hE
  refine p_cons (s_still p5_1_2 hE wn_none rfl (st_len Try.underlying36 rfl) ?_)
  clear hE a; intro a hE
  refine p_cons (s_still p5_1_3 hE wn_none rfl (st_min (z := (l.length : Int)) rfl rfl hx) ?_)
  clear hE a; intro a hE
  refine p_cons (s_still p5_1_4 hE wn_none rfl (st_sliceH (h := l.length) Try.underlying36 tS5 rfl rfl (by omega)) ?_)
  clear hE a; intro a hE
  refine p_cons (s_still p5_1_5 hE wn_none rfl (st_assign rfl) ?_)
  clear hE a; intro a hE
  refine p_nil ?_
  refine x_norm ?_
  refine c_reg R5_2_l ?_
  refine p_cons (s_still p5_2_0 hE wn_none rfl (st_move rfl) ?_)
  clear hE a; intro a hE
  refine p_cons (s_call (xs := [Operand.tmp 17]) (args := [Value.slice A l.length cap]) p5_2_1 hE wn_none rfl rfl Try.func25 cl25 (hag1 A cap _ (F_b _ K_0) hlc hcm) ?_)
  rintro e w1 ⟨A1, c1, rfl, hc1, hm1, hC1, hk⟩
  replace K_0 := K_0.then_ hk (fun _ h => h.elim)
  have K_s2 := Kp.refl w1 (fun _ => False)
  have F_r1 : ∀ W', Kp w1 W' (fun _ => False) → Kd.C (Kd.int .u8) W' A1 rest.length rest := fun W' h => Kd.C_below hC1 (h.to (Nat.le_refl _) (fun _ h => h.elim))
  refine ⟨_, rfl, ?_⟩
  clear hE a; intro a hE
  refine p_cons (s_still p5_2_2 hE wn_none rfl (st_move rfl) ?_)
  clear hE a; intro a hE
  refine p_cons (s_still p5_2_3 hE wn_none rfl (st_extract rfl rfl) ?_)
  clear hE a; intro a hE
  refine p_cons (s_still p5_2_4 hE wn_none rfl (st_extract rfl rfl) ?_)
  clear hE a; intro a hE
  refine p_cons (s_still p5_2_5 hE wn_none rfl (st_extract rfl rfl) ?_)
  clear hE a; intro a hE
  refine p_cons (s_alloc p5_2_6 hE wn_none rfl tZ27 ?_)
  clear hE a; intro g3 w4 z5 B_g3 hk a hE
  replace B_g3 : w4.heap[g3]? = some (.cells #[Value.int .i64 0, Value.int .i64 0, Value.int .i64 0, Value.int .i64 0, Value.int .i64 0, Value.int .u8 0, Value.int .u8 0, Value.int .u8 0, Value.int .u8 0, Value.int .u8 0, Value.int .u8 0, Value.int .u8 0, Value.int .u8 0, Value.int .u8 0, Value.int .u8 0, Value.int .u8 0, Value.int .u8 0, Value.int .u8 0, Value.int .u8 0, Value.int .u8 0, Value.int .u8 0, Value.int .u8 0, Value.int .u8 0, Value.int .u8 0, Value.int .u8 0, Value.int .u8 0, Value.int .u8 0, Value.int .u8 0, Value.int .u8 0, Value.int .u8 0, Value.int .u8 0, Value.int .u8 0, Value.int .u8 0, Value.int .u8 0, Value.int .u8 0, Value.int .u8 0, Value.int .u8 0] 27 (0, 0)) := B_g3
  have z_0_g3 := Nat.le_trans K_0.kept.1 z5
  have z_s2_g3 := Nat.le_trans K_s2.kept.1 z5
  replace K_0 := K_0.then_ hk (fun _ h => h.elim)
  replace K_s2 := K_s2.then_ hk (fun _ h => h.elim)
  clear hk
  refine p_cons (s_store (off := 0) (k := 37) (cs' := (([Value.int .i64 c, Value.int .i64 f, Value.int .i64 n, Value.int .i64 x, Value.int .i64 h] ++ b16 s ++ b16 d)).toArray) p5_2_7 hE wn_none tS27 rfl rfl rfl rfl B_g3 (Nat.le_of_ble_eq_true rfl) rfl ?_)
  intro w6 B_g3' hk
  replace K_0 := K_0.then_ hk (fun k h => by rw [show k = g3 from h]; exact Or.inr z_0_g3)
  replace K_s2 := K_s2.then_ hk (fun k h => by rw [show k = g3 from h]; exact Or.inr z_s2_g3)
  replace B_g3 := B_g3'
  clear hk
  refine p_cons (s_still p5_2_8 hE wn_none rfl (st_assign rfl) ?_)
  clear hE a; intro a hE
  refine p_cons (s_still p5_2_9 hE wn_none rfl (st_assign rfl) ?_)
  clear hE a; intro a hE
  refine p_nil ?_
  refine x_norm ?_
  refine c_reg R5_3_l ?_
  refine p_cons (s_still p5_3_0 hE wn_none rfl (st_move rfl) ?_)
  clear hE a; intro a hE
  refine p_cons (s_call (xs := [Operand.tmp 23]) (args := [Value.slice A l.length cap]) p5_3_1 hE wn_none rfl rfl Try.func26 cl26 (hag2 A cap _ (F_b _ K_0) hlc hcm) ?_)
  rintro e w7 ⟨A2, c2, rfl, hc2, hm2, hC2, hk⟩
  replace B_g3 := kp_blk B_g3 hk (fun h => h)
  replace K_0 := K_0.then_ hk (fun _ h => h.elim)
  replace K_s2 := K_s2.then_ hk (fun _ h => h.elim)
  have K_s8 := Kp.refl w7 (fun _ => False)
  have F_r2 : ∀ W', Kp w7 W' (fun _ => False) → Kd.C (Kd.int .u8) W' A2 rest.length rest := fun W' h => Kd.C_below hC2 (h.to (Nat.le_refl _) (fun _ h => h.elim))
  refine ⟨_, rfl, ?_⟩
  clear hE a; intro a hE
  refine p_cons (s_still p5_3_2 hE wn_none rfl (st_move rfl) ?_)
  clear hE a; intro a hE
  refine p_cons (s_still p5_3_3 hE wn_none rfl (st_extract rfl rfl) ?_)
  clear hE a; intro a hE
  refine p_cons (s_still p5_3_4 hE wn_none rfl (st_extract rfl rfl) ?_)
  clear hE a; intro a hE
  refine p_cons (s_still p5_3_5 hE wn_none rfl (st_extract rfl rfl) ?_)
  clear hE a; intro a hE
  refine p_cons (s_alloc p5_3_6 hE wn_none rfl tZ24 ?_)
  clear hE a; intro g9 w10 z11 B_g9 hk a hE
  replace B_g9 : w10.heap[g9]? = some (.cells #[Value.int .i64 0, Value.int .i64 0, Value.int .i64 0, Value.int .i64 0, Value.int .i64 0, Value.int .u8 0, Value.int .u8 0, Value.int .u8 0, Value.int .u8 0, Value.int .u8 0, Value.int .u8 0, Value.int .u8 0, Value.int .u8 0, Value.int .u8 0, Value.int .u8 0, Value.int .u8 0, Value.int .u8 0, Value.int .u8 0, Value.int .u8 0, Value.int .u8 0, Value.int .u8 0, Value.int .u8 0, Value.int .u8 0, Value.int .u8 0, Value.int .u8 0, Value.int .u8 0, Value.int .u8 0, Value.int .u8 0, Value.int .u8 0, Value.int .u8 0, Value.int .u8 0, Value.int .u8 0, Value.int .u8 0, Value.int .u8 0, Value.int .u8 0, Value.int .u8 0, Value.int .u8 0] 24 (0, 0)) := B_g9
  have n_g3_g9 : g3 ≠ g9 := ne_new B_g3 z11
  have z_0_g9 := Nat.le_trans K_0.kept.1 z11
  have z_s2_g9 := Nat.le_trans K_s2.kept.1 z11
  have z_s8_g9 := Nat.le_trans K_s8.kept.1 z11
  replace B_g3 := kp_blk B_g3 hk (fun h => h)
  replace K_0 := K_0.then_ hk (fun _ h => h.elim)
  replace K_s2 := K_s2.then_ hk (fun _ h => h.elim)
  replace K_s8 := K_s8.then_ hk (fun _ h => h.elim)
  clear hk
  refine p_cons (s_store (off := 0) (k := 37) (cs' := (([Value.int .i64 c, Value.int .i64 f, Value.int .i64 n, Value.int .i64 x, Value.int .i64 h] ++ b16 s ++ b16 d)).toArray) p5_3_7 hE wn_none tS24 rfl rfl rfl rfl B_g9 (Nat.le_of_ble_eq_true rfl) rfl ?_)
  intro w12 B_g9' hk
  replace B_g3 := kp_blk B_g3 hk n_g3_g9
  replace K_0 := K_0.then_ hk (fun k h => by rw [show k = g9 from h]; exact Or.inr z_0_g9)
  replace K_s2 := K_s2.then_ hk (fun k h => by rw [show k = g9 from h]; exact Or.inr z_s2_g9)
  replace K_s8 := K_s8.then_ hk (fun k h => by rw [show k = g9 from h]; exact Or.inr z_s8_g9)
  replace B_g9 := B_g9'
  clear hk
  refine p_cons (s_still p5_3_8 hE wn_none rfl (st_assign rfl) ?_)
  clear hE a; intro a hE
  refine p_cons (s_still p5_3_9 hE wn_none rfl (st_assign rfl) ?_)
  clear hE a; intro a hE
  refine p_nil ?_
  refine x_norm ?_
  refine wp_seq ?_
  refine c_drawS (S := fun W => W.heap[g3]? = some (.cells (([Value.int .i64 c, Value.int .i64 f, Value.int .i64 n, Value.int .i64 x, Value.int .i64 h] ++ b16 s ++ b16 d)).toArray 27 (0, 0)) ∧ W.heap[g9]? = some (.cells (([Value.int .i64 c, Value.int .i64 f, Value.int .i64 n, Value.int .i64 x, Value.int .i64 h] ++ b16 s ++ b16 d)).toArray 24 (0, 0)) ∧ True) rfl rfl (listed := #[false, false, false, false, false, false, false, false, false, false, false, false, false, false, false, false, false, false, false]) rfl ?_
  intro w13 hh hk
  replace B_g3 := kp_blk B_g3 hk (fun h => h)
  replace B_g9 := kp_blk B_g9 hk (fun h => h)
  replace K_0 := K_0.then_ hk (fun _ h => h.elim)
  replace K_s2 := K_s2.then_ hk (fun _ h => h.elim)
  replace K_s8 := K_s8.then_ hk (fun _ h => h.elim)
  clear hh hk
  refine d_one (by kernel_rfl) rfl (s_call (xs := []) (args := []) p5_4_0 hE wn_none rfl rfl Try.func17 cl17 (known_any _) ?_)
  rintro e w14 ⟨rfl, hk⟩
  replace B_g3 := kp_blk B_g3 hk (fun h => h)
  replace B_g9 := kp_blk B_g9 hk (fun h => h)
  replace K_0 := K_0.then_ hk (fun _ h => h.elim)
  replace K_s2 := K_s2.then_ hk (fun _ h => h.elim)
  replace K_s8 := K_s8.then_ hk (fun _ h => h.elim)
  refine ⟨_, rfl, ?_⟩
  clear hE a; intro a hE
  refine ⟨⟨B_g3, B_g9, trivial⟩, ?_⟩
  refine d_take (v := Value.bool false) p5_4_1 ns5_4 (by kernel_rfl) (by kernel_rfl) (fun _ _ _ h => h) hE wn_none rfl ⟨B_g3, B_g9, trivial⟩ (fun W hS => (st_not rfl rfl)) rfl ?_
  clear hE a; intro a hE
  refine d_take (v := Value.bool false) p5_4_2 ns5_4 (by kernel_rfl) (by kernel_rfl) (fun _ _ _ h => h) hE wn_none rfl ⟨B_g3, B_g9, trivial⟩ (fun W hS => (st_move rfl)) rfl ?_
  clear hE a; intro a hE
  refine d_take (v := Value.int .i64 er) p5_4_3 ns5_4 (by kernel_rfl) (by kernel_rfl) (fun _ _ _ h => h) hE (wn_some g5_4_2 rfl rfl) rfl ⟨B_g3, B_g9, trivial⟩ (fun W hS => (st_move rfl)) rfl ?_
  clear hE a; intro a hE
  refine d_take (v := Value.int .i64 er) p5_4_4 ns5_4 (by kernel_rfl) (by kernel_rfl) (fun _ _ _ h => h) hE (wn_some g5_4_2 rfl rfl) rfl ⟨B_g3, B_g9, trivial⟩ (fun W hS => (st_move rfl)) rfl ?_
  clear hE a; intro a hE
  refine d_take (v := Value.bool false) p5_4_5 ns5_4 (by kernel_rfl) (by kernel_rfl) (fun _ _ _ h => h) hE (wn_some g5_4_2 rfl rfl) rfl ⟨B_g3, B_g9, trivial⟩ (fun W hS => (st_neq (b := false) rfl rfl (by simp))) rfl ?_
  clear hE a; intro a hE
  refine d_take (v := Value.bool false) p5_4_6 ns5_4 (by kernel_rfl) (by kernel_rfl) (fun _ _ _ h => h) hE wn_none rfl ⟨B_g3, B_g9, trivial⟩ (fun W hS => (st_pick rfl rfl)) rfl ?_
  clear hE a; intro a hE
  refine d_take (v := Value.bool false) p5_4_7 ns5_4 (by kernel_rfl) (by kernel_rfl) (fun _ _ _ h => h) hE wn_none rfl ⟨B_g3, B_g9, trivial⟩ (fun W hS => (st_move rfl)) rfl ?_
  clear hE a; intro a hE
  refine d_take (v := Value.agg (([Value.int .i64 c, Value.int .i64 f, Value.int .i64 n, Value.int .i64 x, Value.int .i64 h] ++ b16 s ++ b16 d)).toArray) p5_4_8 ns5_4 (by kernel_rfl) (by kernel_rfl) (fun _ _ _ h => h) hE (wn_some g5_4_7 rfl rfl) rfl ⟨B_g3, B_g9, trivial⟩ (fun W hS => (st_loadN (off := 0) (k := 37) (vs := ([Value.int .i64 c, Value.int .i64 f, Value.int .i64 n, Value.int .i64 x, Value.int .i64 h] ++ b16 s ++ b16 d)) tA27 tS27 rfl hS.1 rfl rfl)) rfl ?_
  clear hE a; intro a hE
  refine d_take (v := Value.agg (([Value.int .i64 c, Value.int .i64 f, Value.int .i64 n, Value.int .i64 x, Value.int .i64 h] ++ b16 s ++ b16 d)).toArray) p5_4_10 ns5_4 (by kernel_rfl) (by kernel_rfl) (fun _ _ _ h => h) hE (wn_some g5_4_7 rfl rfl) rfl ⟨B_g3, B_g9, trivial⟩ (fun W hS => (st_loadN (off := 0) (k := 37) (vs := ([Value.int .i64 c, Value.int .i64 f, Value.int .i64 n, Value.int .i64 x, Value.int .i64 h] ++ b16 s ++ b16 d)) tA24 tS24 rfl hS.2.1 rfl rfl)) rfl ?_
  clear hE a; intro a hE
  refine d_one (by kernel_rfl) rfl (s_call (xs := [Operand.tmp 36]) (args := [Value.agg (([Value.int .i64 c, Value.int .i64 f, Value.int .i64 n, Value.int .i64 x, Value.int .i64 h] ++ b16 s ++ b16 d)).toArray]) p5_4_9 hE (wn_some g5_4_7 rfl rfl) rfl rfl Try.func23 cl23 (of_any c f n x h s d _) ?_)
  rintro e w15 ⟨rfl, hk⟩
  replace B_g3 := kp_blk B_g3 hk (fun h => h)
  replace B_g9 := kp_blk B_g9 hk (fun h => h)
  replace K_0 := K_0.then_ hk (fun _ h => h.elim)
  replace K_s2 := K_s2.then_ hk (fun _ h => h.elim)
  replace K_s8 := K_s8.then_ hk (fun _ h => h.elim)
  refine ⟨_, rfl, ?_⟩
  clear hE a; intro a hE
  refine ⟨⟨B_g3, B_g9, trivial⟩, ?_⟩
  refine d_take (v := Value.bool false) p5_4_11 ns5_4 (by kernel_rfl) (by kernel_rfl) (fun _ _ _ h => h) hE (wn_some g5_4_7 rfl rfl) rfl ⟨B_g3, B_g9, trivial⟩ (fun W hS => (st_neqA (b := true) eg24 rfl rfl (eqA24_refl _ _ _ _ _ _ _))) rfl ?_
  clear hE a; intro a hE
  refine d_take (v := Value.bool false) p5_4_12 ns5_4 (by kernel_rfl) (by kernel_rfl) (fun _ _ _ h => h) hE wn_none rfl ⟨B_g3, B_g9, trivial⟩ (fun W hS => (st_pick rfl rfl)) rfl ?_
  clear hE a; intro a hE
  refine d_take (v := Value.bool false) p5_4_13 ns5_4 (by kernel_rfl) (by kernel_rfl) (fun _ _ _ h => h) hE wn_none rfl ⟨B_g3, B_g9, trivial⟩ (fun W hS => (st_move rfl)) rfl ?_
  clear hE a; intro a hE
  refine d_take (v := Value.slice A1 rest.length c1) p5_4_14 ns5_4 (by kernel_rfl) (by kernel_rfl) (fun _ _ _ h => h) hE (wn_some g5_4_13 rfl rfl) rfl ⟨B_g3, B_g9, trivial⟩ (fun W hS => (st_move rfl)) rfl ?_
  clear hE a; intro a hE
  refine d_take (v := Value.slice A2 rest.length c2) p5_4_15 ns5_4 (by kernel_rfl) (by kernel_rfl) (fun _ _ _ h => h) hE (wn_some g5_4_13 rfl rfl) rfl ⟨B_g3, B_g9, trivial⟩ (fun W hS => (st_move rfl)) rfl ?_
  clear hE a; intro a hE
  refine d_one (by kernel_rfl) rfl (s_call (xs := [Operand.tmp 42, Operand.tmp 43]) (args := [Value.slice A1 rest.length c1, Value.slice A2 rest.length c2]) p5_4_16 hE (wn_some g5_4_13 rfl rfl) rfl rfl Try.func21 cl21 (same_any A1 A2 c1 c2 rest rest true (by simp) _ (F_r1 _ K_s2) hc1 (F_r2 _ K_s8) hc2 (by omega)) ?_)
  rintro e w16 ⟨rfl, hn⟩
  have hk := kp_n hn (fun _ => False)
  replace B_g3 := kp_blk B_g3 hk (fun h => h)
  replace B_g9 := kp_blk B_g9 hk (fun h => h)
  replace K_0 := K_0.then_ hk (fun _ h => h.elim)
  replace K_s2 := K_s2.then_ hk (fun _ h => h.elim)
  replace K_s8 := K_s8.then_ hk (fun _ h => h.elim)
  refine ⟨_, rfl, ?_⟩
  clear hE a; intro a hE
  refine ⟨⟨B_g3, B_g9, trivial⟩, ?_⟩
  refine d_take (v := Value.bool false) p5_4_17 ns5_4 (by kernel_rfl) (by kernel_rfl) (fun _ _ _ h => h) hE (wn_some g5_4_13 rfl rfl) rfl ⟨B_g3, B_g9, trivial⟩ (fun W hS => (st_not rfl rfl)) rfl ?_
  clear hE a; intro a hE
  refine d_take (v := Value.bool false) p5_4_18 ns5_4 (by kernel_rfl) (by kernel_rfl) (fun _ _ _ h => h) hE wn_none rfl ⟨B_g3, B_g9, trivial⟩ (fun W hS => (st_pick rfl rfl)) rfl ?_
  clear hE a; intro a hE
  refine d_end (by kernel_rfl) ?_
  refine x_norm ?_
  refine c_cond (t := false) hE rfl ?_
  refine wp_skip ?_
  refine x_norm ?_
  refine wp_seq ?_
  refine c_reg R5_6_l ?_
  refine p_cons (s_still p5_6_0 hE wn_none rfl (st_move rfl) ?_)
  clear hE a; intro a hE
  refine p_cons (s_still p5_6_1 hE wn_none rfl (st_neq (b := false) rfl rfl (by simp [her])) ?_)
  clear hE a; intro a hE
  refine p_nil ?_
  refine x_norm ?_
  refine c_cond (t := false) hE rfl ?_
  refine wp_skip ?_
  refine x_norm ?_
  refine c_reg R5_8_l ?_
  refine p_cons (s_still p5_8_0 hE wn_none rfl (st_loadN (off := 0) (k := 37) (vs := ([Value.int .i64 c, Value.int .i64 f, Value.int .i64 n, Value.int .i64 x, Value.int .i64 h] ++ b16 s ++ b16 d)) tA27 tS27 rfl B_g3 rfl rfl) ?_)
  clear hE a; intro a hE
  refine p_cons (s_still p5_8_1 hE wn_none rfl (st_move rfl) ?_)
  clear hE a; intro a hE
  refine p_cons (s_row (xs := [(0, Operand.tmp 51)]) (vs := [(0, Value.slice A1 rest.length c1)]) (cs := #[Value.slice A1 rest.length c1]) p5_8_2 hE wn_none rfl Try.underlying35 rfl (by kernel_rfl) ?_)
  clear hE a; intro g17 w18 z19 B_g17 hk a hE
  have n_g3_g17 : g3 ≠ g17 := ne_new B_g3 z19
  have n_g9_g17 : g9 ≠ g17 := ne_new B_g9 z19
  have z_0_g17 := Nat.le_trans K_0.kept.1 z19
  have z_s2_g17 := Nat.le_trans K_s2.kept.1 z19
  have z_s8_g17 := Nat.le_trans K_s8.kept.1 z19
  replace B_g3 := kp_blk B_g3 hk (fun h => h)
  replace B_g9 := kp_blk B_g9 hk (fun h => h)
  replace K_0 := K_0.then_ hk (fun _ h => h.elim)
  replace K_s2 := K_s2.then_ hk (fun _ h => h.elim)
  replace K_s8 := K_s8.then_ hk (fun _ h => h.elim)
  clear hk
  have hnb_g3 := blk_lt B_g3
  have hnb_g9 := blk_lt B_g9
  have hnb_g17 := blk_lt B_g17
  have hnz_0 := K_0.kept.1
  have hnz_s2 := K_s2.kept.1
  have hnz_s8 := K_s8.kept.1
  have hrows := C_rows (e := 5) [(A1, c1, rest)] B_g17 rfl (Nat.le_of_ble_eq_true rfl) (by intro r hr; simp only [List.mem_cons, List.not_mem_nil, or_false] at hr; rcases hr with rfl; exact ⟨hc1, (F_r1 _ K_s2)⟩)
  refine p_cons (s_call (xs := [Operand.tmp 50, Operand.tmp 52]) (args := [Value.agg (([Value.int .i64 c, Value.int .i64 f, Value.int .i64 n, Value.int .i64 x, Value.int .i64 h] ++ b16 s ++ b16 d)).toArray, Value.slice (some ⟨g17, 0, none⟩) 1 1]) p5_8_3 hE wn_none rfl rfl Try.func24 cl24 (with_one c f n x h s d (some ⟨g17, 0, none⟩) 1 rest l hok1 hok2 hok3 _ hrows (Nat.le_refl _)) ?_)
  rintro e w21 ⟨A3, c3, rfl, O_q20, hk⟩
  replace B_g3 := kp_blk B_g3 hk (fun h => h)
  replace B_g9 := kp_blk B_g9 hk (fun h => h)
  replace B_g17 := kp_blk B_g17 hk (fun h => h)
  replace K_0 := K_0.then_ hk (fun _ h => h.elim)
  replace K_s2 := K_s2.then_ hk (fun _ h => h.elim)
  replace K_s8 := K_s8.then_ hk (fun _ h => h.elim)
  have Nb_q20_g3 : ¬ OB A3 g3 := fun h => by have := (own_ob O_q20 h).1; have := hnb_g3; omega
  have Nb_q20_g9 : ¬ OB A3 g9 := fun h => by have := (own_ob O_q20 h).1; have := hnb_g9; omega
  have Nb_q20_g17 : ¬ OB A3 g17 := fun h => by have := (own_ob O_q20 h).1; have := hnb_g17; omega
  have Z_0_q20 : ∀ k, OB A3 k → (fun _ => False) k ∨ w.heap.size ≤ k := fun k h => .inr (by have := (own_ob O_q20 h).1; have := hnz_0; omega)
  have Z_s2_q20 : ∀ k, OB A3 k → (fun _ => False) k ∨ w1.heap.size ≤ k := fun k h => .inr (by have := (own_ob O_q20 h).1; have := hnz_s2; omega)
  have Z_s8_q20 : ∀ k, OB A3 k → (fun _ => False) k ∨ w7.heap.size ≤ k := fun k h => .inr (by have := (own_ob O_q20 h).1; have := hnz_s8; omega)
  replace O_q20 := own_lower O_q20 hnz_0
  refine ⟨_, rfl, ?_⟩
  clear hE a; intro a hE
  refine p_cons (s_still p5_8_4 hE wn_none rfl (st_move rfl) ?_)
  clear hE a; intro a hE
  refine p_cons (s_still p5_8_5 hE wn_none rfl (st_extract rfl rfl) ?_)
  clear hE a; intro a hE
  refine p_cons (s_still p5_8_6 hE wn_none rfl (st_extract rfl rfl) ?_)
  clear hE a; intro a hE
  refine p_cons (s_still p5_8_7 hE wn_none rfl (st_assign rfl) ?_)
  clear hE a; intro a hE
  refine p_cons (s_still p5_8_8 hE wn_none rfl (st_assign rfl) ?_)
  clear hE a; intro a hE
  refine p_nil ?_
  refine x_norm ?_
  refine c_reg R5_9_l ?_
  refine p_cons (s_still p5_9_0 hE wn_none rfl (st_move rfl) ?_)
  clear hE a; intro a hE
  refine p_cons (s_still p5_9_1 hE wn_none rfl (st_eql (b := true) rfl rfl (by decide)) ?_)
  clear hE a; intro a hE
  refine p_cons (s_still p5_9_2 hE wn_none rfl (st_move rfl) ?_)
  clear hE a; intro a hE
  refine p_cons (s_still p5_9_3 hE (wn_some g5_9_2 rfl rfl) rfl (st_move rfl) ?_)
  clear hE a; intro a hE
  refine p_cons (s_still p5_9_4 hE (wn_some g5_9_2 rfl rfl) rfl (st_move rfl) ?_)
  clear hE a; intro a hE
  refine p_cons (s_call (xs := [Operand.tmp 59, Operand.tmp 60]) (args := [Value.slice A3 l.length c3, Value.slice A l.length cap]) p5_9_5 hE (wn_some g5_9_2 rfl rfl) rfl rfl Try.func21 cl21 (same_any A3 A c3 cap l l true (by simp) _ (own_told O_q20) (own_caps O_q20).1 (F_b _ K_0) hlc (by omega)) ?_)
  rintro e w22 ⟨rfl, hn⟩
  have hk := kp_n hn (fun _ => False)
  replace B_g3 := kp_blk B_g3 hk (fun h => h)
  replace B_g9 := kp_blk B_g9 hk (fun h => h)
  replace B_g17 := kp_blk B_g17 hk (fun h => h)
  replace O_q20 := own_keep O_q20 hk (fun _ _ h => h)
  replace K_0 := K_0.then_ hk (fun _ h => h.elim)
  replace K_s2 := K_s2.then_ hk (fun _ h => h.elim)
  replace K_s8 := K_s8.then_ hk (fun _ h => h.elim)
  refine ⟨_, rfl, ?_⟩
  clear hE a; intro a hE
  refine p_cons (s_still p5_9_6 hE wn_none rfl (st_pick rfl rfl) ?_)
  clear hE a; intro a hE
  refine p_cons (s_still p5_9_7 hE wn_none rfl (st_assign rfl) ?_)
  clear hE a; intro a hE
  refine p_nil ?_
  refine x_norm ?_
  refine wp_ret ?_
  refine ret_one (v := Value.bool true) rfl hE (.tmp rfl .nil) ?_
  exact ⟨rfl, K_0⟩
theorem walk (a0 : Option Addr) (cap0 : Nat) (z0 : List (Int)) (w : World) (w0 : Kd.C (Kd.int .u8) w a0 z0.length z0) (m0 : z0.length ≤ cap0) (o0 : (z0.length ≤ maxLen ∧ ∀ x0 ∈ z0, (Lit.int .u8 x0).wf = true)) (y0 : z0.length * Try.prog.bytesOf 5 ≤ 140737488351232) (c0 : cap0 ≤ maxLen ∧ (a0 = none → cap0 = 0)) :
    Calls Try.prog 5 #[.slice a0 z0.length cap0] w fun e w' => e = .returned (.bool true) ∧ Below w.heap.size w w' := by
  have hby : ∀ x ∈ z0, 0 ≤ x ∧ x ≤ 255 := fun x hx => by have := o0.2 x hx; simp [Lit.wf, IntKind.min, IntKind.max, IntKind.signed, IntKind.bits] at this; omega
  have hcm : cap0 ≤ 9223372036854775807 := by have := c0.1; unfold maxLen at this; omega
  obtain ⟨x, hx⟩ : ∃ x : Nat, (if (1400 : Int) < (z0.length : Int) then (1400 : Int) else (z0.length : Int)) = (x : Int) := by split; exact ⟨1400, rfl⟩; exact ⟨_, rfl⟩
  have hxl : x ≤ z0.length := by split at hx <;> omega
  have hx14 : x ≤ 1400 := by split at hx <;> omega
  have hlen : (z0.take x).length = x := by simp; omega
  have hx' : (if (1400 : Int) < (z0.length : Int) then (1400 : Int) else (z0.length : Int)) = ((z0.take x).length : Int) := by rw [hx, hlen]
  have hl : Kd.C (Kd.int .u8) w a0 (z0.take x).length (z0.take x) := by rw [hlen]; exact Go.Proofs.Ytndiddfleidnaaa.Pk.C_take w0 hxl
  have hb2 : ∀ y ∈ z0.take x, 0 ≤ y ∧ y ≤ 255 := fun y hy => hby y (List.mem_of_mem_take hy)
  have hle : (z0.take x).length ≤ z0.length := by omega
  obtain ⟨c, f, n, x', h, s, d, rest, er, hok, hrl, ha1, ha2⟩ := dagree (z0.take x) (by omega) hb2
  by_cases her : er = 0
  · exact (law_ok a0 z0 (z0.take x) cap0 hx' w hl hle m0 hcm c f n x' h s d rest er her hok hrl ha1 ha2).mono fun e w' hh => ⟨hh.1, hh.2.to (Nat.le_refl _) (fun _ h => h.elim)⟩
  · exact (law_err a0 z0 (z0.take x) cap0 hx' w hl hle m0 hcm c f n x' h s d rest er her hok hrl ha1 ha2).mono fun e w' hh => ⟨hh.1, hh.2.to (Nat.le_refl _) (fun _ h => h.elim)⟩
end Go.Proofs.Ytndiddfleidnaaa.Hdd
