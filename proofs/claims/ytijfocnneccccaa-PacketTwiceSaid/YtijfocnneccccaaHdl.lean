/- packet.Handle. -/
import Derived.Test.YtijfocnneccccaaHne
set_option maxRecDepth 100000
set_option linter.unusedVariables false
set_option linter.unusedSimpArgs false
namespace Go.Proofs.Ytijfocnneccccaa.Hl
open Go.RowKit Go.Proofs.YtijfocnneccccaaW.PrintWords Go.Proofs.Ytijfocnneccccaa.Ds Go.Proofs.Ytijfocnneccccaa.Ad Go.Proofs.Ytijfocnneccccaa.Hd Go.Proofs.Ytijfocnneccccaa.Hw Go.Proofs.Ytijfocnneccccaa.Hp Go.Proofs.Ytijfocnneccccaa.Dg Go.Proofs.Ytijfocnneccccaa.Rx Go.Proofs.Ytijfocnneccccaa.Hk Go.Proofs.Ytijfocnneccccaa.Hk2
open Go.Proofs.Ytijfocnneccccaa.Pk (Kp fitsF spanF putF digF fits_any put_ok)
open Go.Proofs.Ytijfocnneccccaa.Mi (st_eqlP MapI)
theorem check_bad (cl fw ln nx hp : Int) (sa da : Nat → Int) (mv : Nat → Value) (dn wr fa : Bool) (ins rk num : Int) (T : Option Addr) (cT : Nat) (l : List Int) (nd pf : Int) (rt : Bool) (RV : Value) (tg came own least : Int) (wg : Bool) (gh : Nat) (hmv : ∀ j, (mv j).oneCell' = true) (hda : ∀ j, 0 ≤ da j ∧ da j ≤ 255) (hAO : argB cl fw hp ins rk num l.length nd pf came own least = false) (w : World) (hB : w.heap[gh]? = some (.cells (HA cl fw ln nx hp sa da true mv dn wr fa ins rk num T l.length cT nd pf rt RV tg came own least wg).toArray 96 (0, 0))) (F_T : ∀ W', Kp w W' (fun k => k = gh) → Kd.C (Kd.int .u8) W' T l.length l) (hml : l.length ≤ 900000) : Calls Try.prog 71 #[Value.pointer (some ⟨gh, 0, none⟩)] w fun e w' => e = .returned (.int .i64 1) ∧ w'.heap[gh]? = some (.cells (HA cl fw ln nx hp sa da true mv dn wr fa ins rk num T l.length cT nd pf rt RV tg came own least wg).toArray 96 (0, 0)) ∧ Kp w w' (fun k => k = gh) := check_k cl fw ln nx hp sa da mv dn wr fa ins rk num T cT l nd pf rt RV tg came own least wg gh hmv hda w hB F_T hml (fun _ w' hB hk => ⟨rfl, hB, hk⟩) (fun h => by rw [hAO] at h; cases h) (fun h => by rw [hAO] at h; cases h)
theorem check_no (cl fw ln nx hp : Int) (sa da : Nat → Int) (mv : Nat → Value) (dn wr fa : Bool) (ins rk num : Int) (T : Option Addr) (cT : Nat) (l : List Int) (nd pf : Int) (rt : Bool) (RV : Value) (tg came own least : Int) (wg : Bool) (gh : Nat) (hmv : ∀ j, (mv j).oneCell' = true) (hda : ∀ j, 0 ≤ da j ∧ da j ≤ 255) (hAO : argB cl fw hp ins rk num l.length nd pf came own least = true) (hTG : ¬ 0 ≤ nodeF da) (w : World) (hB : w.heap[gh]? = some (.cells (HA cl fw ln nx hp sa da true mv dn wr fa ins rk num T l.length cT nd pf rt RV tg came own least wg).toArray 96 (0, 0))) (F_T : ∀ W', Kp w W' (fun k => k = gh) → Kd.C (Kd.int .u8) W' T l.length l) (hml : l.length ≤ 900000) : Calls Try.prog 71 #[Value.pointer (some ⟨gh, 0, none⟩)] w fun e w' => e = .returned (.int .i64 8) ∧ w'.heap[gh]? = some (.cells (HA cl fw ln nx hp sa da true mv dn wr fa ins rk num T l.length cT nd pf rt RV 0 came own least wg).toArray 96 (0, 0)) ∧ Kp w w' (fun k => k = gh) := check_k cl fw ln nx hp sa da mv dn wr fa ins rk num T cT l nd pf rt RV tg came own least wg gh hmv hda w hB F_T hml (fun h => by rw [hAO] at h; cases h) (fun _ _ w' hB hk => ⟨rfl, hB, hk⟩) (fun _ h => absurd h hTG)
theorem check_ok (cl fw ln nx hp : Int) (sa da : Nat → Int) (mv : Nat → Value) (dn wr fa : Bool) (ins rk num : Int) (T : Option Addr) (cT : Nat) (l : List Int) (nd pf : Int) (rt : Bool) (RV : Value) (tg came own least : Int) (wg : Bool) (gh : Nat) (hmv : ∀ j, (mv j).oneCell' = true) (hda : ∀ j, 0 ≤ da j ∧ da j ≤ 255) (hAO : argB cl fw hp ins rk num l.length nd pf came own least = true) (hTG : 0 ≤ nodeF da) (w : World) (hB : w.heap[gh]? = some (.cells (HA cl fw ln nx hp sa da true mv dn wr fa ins rk num T l.length cT nd pf rt RV tg came own least wg).toArray 96 (0, 0))) (F_T : ∀ W', Kp w W' (fun k => k = gh) → Kd.C (Kd.int .u8) W' T l.length l) (hml : l.length ≤ 900000) : Calls Try.prog 71 #[Value.pointer (some ⟨gh, 0, none⟩)] w fun e w' => e = .returned (.int .i64 0) ∧ w'.heap[gh]? = some (.cells (HA cl fw ln nx hp sa da true mv dn wr fa ins rk num T l.length cT nd pf rt RV (nodeF da) came own least wg).toArray 96 (0, 0)) ∧ Kp w w' (fun k => k = gh) := check_k cl fw ln nx hp sa da mv dn wr fa ins rk num T cT l nd pf rt RV tg came own least wg gh hmv hda w hB F_T hml (fun h => by rw [hAO] at h; cases h) (fun _ h => absurd hTG h) (fun _ _ w' hB hk => ⟨rfl, hB, hk⟩)
theorem pass_low (cl fw ln nx hp : Int) (sa da : Nat → Int) (mv : Nat → Value) (dn wr fa : Bool) (ins rk num : Int) (T : Option Addr) (cT : Nat) (l : List Int) (nd pf : Int) (rt : Bool) (RV : Value) (tg came own least : Int) (wg : Bool) (gh : Nat) (hmv : ∀ j, (mv j).oneCell' = true) (h0 : ¬ came = -1) (hok : okF cl fw 0 0 hp = true) (hLO : hp < 2) (w : World) (hB : w.heap[gh]? = some (.cells (HA cl fw ln nx hp sa da true mv dn wr fa ins rk num T l.length cT nd pf rt RV tg came own least wg).toArray 96 (0, 0))) (F_T : ∀ W', Kp w W' (fun k => k = gh) → Kd.C (Kd.int .u8) W' T l.length l) (hml : l.length ≤ 900000) : Calls Try.prog 73 #[Value.pointer (some ⟨gh, 0, none⟩)] w fun e w' => e = .returned (.int .i64 12) ∧ w'.heap[gh]? = some (.cells (HA cl fw ln nx 0 sa da true mv dn wr fa ins rk num T l.length cT nd pf rt RV tg came own least wg).toArray 96 (0, 0)) ∧ Kp w w' (fun k => k = gh) := (pass_y cl fw ln nx hp sa da mv dn wr fa ins rk num T cT l nd pf rt RV tg came own least wg gh hmv h0 hok w hB F_T hml).mono (fun e w' h => h.elim (fun h => h.2) (fun h => absurd hLO h.1))
theorem pass_ok (cl fw ln nx hp : Int) (sa da : Nat → Int) (mv : Nat → Value) (dn wr fa : Bool) (ins rk num : Int) (T : Option Addr) (cT : Nat) (l : List Int) (nd pf : Int) (rt : Bool) (RV : Value) (tg came own least : Int) (wg : Bool) (gh : Nat) (hmv : ∀ j, (mv j).oneCell' = true) (h0 : ¬ came = -1) (hok : okF cl fw 0 0 hp = true) (hLO : ¬ hp < 2) (w : World) (hB : w.heap[gh]? = some (.cells (HA cl fw ln nx hp sa da true mv dn wr fa ins rk num T l.length cT nd pf rt RV tg came own least wg).toArray 96 (0, 0))) (F_T : ∀ W', Kp w W' (fun k => k = gh) → Kd.C (Kd.int .u8) W' T l.length l) (hml : l.length ≤ 900000) : Calls Try.prog 73 #[Value.pointer (some ⟨gh, 0, none⟩)] w fun e w' => e = .returned (.int .i64 0) ∧ w'.heap[gh]? = some (.cells (HA cl fw ln nx (hp - 1) sa da true mv dn wr fa ins rk num T l.length cT nd pf rt RV tg came own least wg).toArray 96 (0, 0)) ∧ Kp w w' (fun k => k = gh) := (pass_y cl fw ln nx hp sa da mv dn wr fa ins rk num T cT l nd pf rt RV tg came own least wg gh hmv h0 hok w hB F_T hml).mono (fun e w' h => h.elim (fun h => absurd h.1 hLO) (fun h => h.2))
theorem lost_n (cl fw ln nx hp : Int) (sa da : Nat → Int) (mv : Nat → Value) (dn wr fa : Bool) (ins rk num : Int) (T : Option Addr) (cT : Nat) (l : List Int) (nd pf : Int) (rt : Bool) (RV : Value) (tg came own least : Int) (wg : Bool) (gh : Nat) (hmv : ∀ j, (mv j).oneCell' = true) (w : World) (v : Int → Int) (g : Int → Int × Int × Int) (er : Int) (hT : Tb RV v g er w (fun k => k = gh)) (h0 : ¬ came = -1) (hc0 : 0 ≤ came) (hLS : (fa && decide (v tg = came)) = false) (hB : w.heap[gh]? = some (.cells (HA cl fw ln nx hp sa da true mv dn wr fa ins rk num T l.length cT nd pf rt RV tg came own least wg).toArray 96 (0, 0))) (F_T : ∀ W', Kp w W' (fun k => k = gh) → Kd.C (Kd.int .u8) W' T l.length l) (hml : l.length ≤ 900000) : Calls Try.prog 74 #[Value.pointer (some ⟨gh, 0, none⟩)] w fun e w' => e = .returned (.int .i64 0) ∧ w'.heap[gh]? = some (.cells (HA cl fw ln nx hp sa da true mv dn wr fa ins rk num T l.length cT nd pf rt RV tg came own least wg).toArray 96 (0, 0)) ∧ Kp w w' (fun k => k = gh) := (lost_y cl fw ln nx hp sa da mv dn wr fa ins rk num T cT l nd pf rt RV tg came own least wg gh hmv w v g er hT (.inr hc0) h0 hB F_T hml).mono (fun e w' h => h.elim (fun h => h.2) (fun h => by rw [hLS] at h; cases h.1))
theorem lost_l (cl fw ln nx hp : Int) (sa da : Nat → Int) (mv : Nat → Value) (dn wr fa : Bool) (ins rk num : Int) (T : Option Addr) (cT : Nat) (l : List Int) (nd pf : Int) (rt : Bool) (RV : Value) (tg came own least : Int) (wg : Bool) (gh : Nat) (hmv : ∀ j, (mv j).oneCell' = true) (w : World) (v : Int → Int) (g : Int → Int × Int × Int) (er : Int) (hT : Tb RV v g er w (fun k => k = gh)) (h0 : ¬ came = -1) (hc0 : 0 ≤ came) (hLS : (fa && decide (v tg = came)) = true) (hB : w.heap[gh]? = some (.cells (HA cl fw ln nx hp sa da true mv dn wr fa ins rk num T l.length cT nd pf rt RV tg came own least wg).toArray 96 (0, 0))) (F_T : ∀ W', Kp w W' (fun k => k = gh) → Kd.C (Kd.int .u8) W' T l.length l) (hml : l.length ≤ 900000) : Calls Try.prog 74 #[Value.pointer (some ⟨gh, 0, none⟩)] w fun e w' => e = .returned (.int .i64 0) ∧ w'.heap[gh]? = some (.cells (HB cl fw ln nx hp sa da true mv false wr false ins rk num T l.length cT nd pf rt RV tg came own least 4 (-1) wg).toArray 96 (0, 0)) ∧ Kp w w' (fun k => k = gh) := (lost_y cl fw ln nx hp sa da mv dn wr fa ins rk num T cT l nd pf rt RV tg came own least wg gh hmv w v g er hT (.inr hc0) h0 hB F_T hml).mono (fun e w' h => h.elim (fun h => by rw [hLS] at h; cases h.1) (fun h => h.2))
theorem hold_bad (cl fw ln nx hp : Int) (sa da : Nat → Int) (mv : Nat → Value) (dn wr fa : Bool) (ins rk num : Int) (T : Option Addr) (cT : Nat) (l : List Int) (nd pf : Int) (rt : Bool) (RV : Value) (tg came own least : Int) (wg : Bool) (gh : Nat) (hmv : ∀ j, (mv j).oneCell' = true) (h0 : ¬ came = -1) (hok : okO ins rk = true) (ho : 0 ≤ own ∧ own < 65536) (hl : 1 ≤ least ∧ least < 65536) (hBD : (!consB dn rk own least && wr) = true) (w : World) (hB : w.heap[gh]? = some (.cells (HA cl fw ln nx hp sa da true mv dn wr fa ins rk num T l.length cT nd pf rt RV tg came own least wg).toArray 96 (0, 0))) (F_T : ∀ W', Kp w W' (fun k => k = gh) → Kd.C (Kd.int .u8) W' T l.length l) (hml : l.length ≤ 900000) : Calls Try.prog 75 #[Value.pointer (some ⟨gh, 0, none⟩)] w fun e w' => e = .returned (.int .i64 11) ∧ w'.heap[gh]? = some (.cells (HA cl fw ln nx hp sa da true mv dn wr fa ins rk num T l.length cT nd pf rt RV tg came own least wg).toArray 96 (0, 0)) ∧ Kp w w' (fun k => k = gh) := (hold_y cl fw ln nx hp sa da mv dn wr fa ins rk num T cT l nd pf rt RV tg came own least wg gh hmv h0 hok ho hl w hB F_T hml).mono (fun e w' h => h.elim (fun h => h.2) (fun h => by rw [hBD] at h; cases h.1))
theorem hold_ok (cl fw ln nx hp : Int) (sa da : Nat → Int) (mv : Nat → Value) (dn wr fa : Bool) (ins rk num : Int) (T : Option Addr) (cT : Nat) (l : List Int) (nd pf : Int) (rt : Bool) (RV : Value) (tg came own least : Int) (wg : Bool) (gh : Nat) (hmv : ∀ j, (mv j).oneCell' = true) (h0 : ¬ came = -1) (hok : okO ins rk = true) (ho : 0 ≤ own ∧ own < 65536) (hl : 1 ≤ least ∧ least < 65536) (hBD : (!consB dn rk own least && wr) = false) (w : World) (hB : w.heap[gh]? = some (.cells (HA cl fw ln nx hp sa da true mv dn wr fa ins rk num T l.length cT nd pf rt RV tg came own least wg).toArray 96 (0, 0))) (F_T : ∀ W', Kp w W' (fun k => k = gh) → Kd.C (Kd.int .u8) W' T l.length l) (hml : l.length ≤ 900000) : Calls Try.prog 75 #[Value.pointer (some ⟨gh, 0, none⟩)] w fun e w' => e = .returned (.int .i64 0) ∧ w'.heap[gh]? = some (.cells (HA cl fw ln nx hp sa da true mv dn (wr || !consB dn rk own least) fa ins own num T l.length cT nd pf rt RV tg came own least (!consB dn rk own least)).toArray 96 (0, 0)) ∧ Kp w w' (fun k => k = gh) := (hold_y cl fw ln nx hp sa da mv dn wr fa ins rk num T cT l nd pf rt RV tg came own least wg gh hmv h0 hok ho hl w hB F_T hml).mono (fun e w' h => h.elim (fun h => by rw [hBD] at h; cases h.1) (fun h => h.2))
theorem on_e (cl fw ln nx hp : Int) (sa da : Nat → Int) (mv : Nat → Value) (dn wr fa : Bool) (ins rk num : Int) (T : Option Addr) (cT : Nat) (l : List Int) (nd pf : Int) (rt : Bool) (RV : Value) (tg came own least : Int) (wg : Bool) (gh : Nat) (hmv : ∀ j, (mv j).oneCell' = true) (w : World) (v : Int → Int) (g : Int → Int × Int × Int) (er : Int) (hT : Tb RV v g er w (fun k => k = gh)) (hok : okO ins rk = true) (ho : 0 ≤ own ∧ own < 65536) (hE0 : ¬ (nextF nd pf rt (v tg) tg came dn).2.2.2 = 0) (hB : w.heap[gh]? = some (.cells (HA cl fw ln nx hp sa da true mv dn wr fa ins rk num T l.length cT nd pf rt RV tg came own least wg).toArray 96 (0, 0))) (F_T : ∀ W', Kp w W' (fun k => k = gh) → Kd.C (Kd.int .u8) W' T l.length l) (hml : l.length ≤ 900000) : Calls Try.prog 76 #[Value.pointer (some ⟨gh, 0, none⟩)] w fun e w' => e = .returned (.int .i64 (nextF nd pf rt (v tg) tg came dn).2.2.2) ∧ Kp w w' (fun k => k = gh) :=
 on_k cl fw ln nx hp sa da mv dn wr fa ins rk num T cT l nd pf rt RV tg came own least wg gh hmv w v g er hT hok ho hB F_T hml (fun _ w' hk => ⟨rfl, hk⟩) (fun h => absurd h hE0) (fun h => absurd h hE0) (fun h => absurd h hE0)
theorem on_4 (cl fw ln nx hp : Int) (sa da : Nat → Int) (mv : Nat → Value) (dn wr fa : Bool) (ins rk num : Int) (T : Option Addr) (cT : Nat) (l : List Int) (nd pf : Int) (rt : Bool) (RV : Value) (tg came own least : Int) (wg : Bool) (gh : Nat) (hmv : ∀ j, (mv j).oneCell' = true) (w : World) (v : Int → Int) (g : Int → Int × Int × Int) (er : Int) (hT : Tb RV v g er w (fun k => k = gh)) (hok : okO ins rk = true) (ho : 0 ≤ own ∧ own < 65536) (hE0 : (nextF nd pf rt (v tg) tg came dn).2.2.2 = 0) (hK4 : (nextF nd pf rt (v tg) tg came dn).1 = 4) (hB : w.heap[gh]? = some (.cells (HA cl fw ln nx hp sa da true mv dn wr fa ins rk num T l.length cT nd pf rt RV tg came own least wg).toArray 96 (0, 0))) (F_T : ∀ W', Kp w W' (fun k => k = gh) → Kd.C (Kd.int .u8) W' T l.length l) (hml : l.length ≤ 900000) : Calls Try.prog 76 #[Value.pointer (some ⟨gh, 0, none⟩)] w fun e w' => e = .returned (.int .i64 8) ∧ Kp w w' (fun k => k = gh) :=
 on_k cl fw ln nx hp sa da mv dn wr fa ins rk num T cT l nd pf rt RV tg came own least wg gh hmv w v g er hT hok ho hB F_T hml (fun h => absurd hE0 h) (fun _ _ w' hk => ⟨rfl, hk⟩) (fun _ h => by rw [hK4] at h; cases h) (fun _ h => absurd hK4 h)
theorem on_3 (cl fw ln nx hp : Int) (sa da : Nat → Int) (mv : Nat → Value) (dn wr fa : Bool) (ins rk num : Int) (T : Option Addr) (cT : Nat) (l : List Int) (nd pf : Int) (rt : Bool) (RV : Value) (tg came own least : Int) (wg : Bool) (gh : Nat) (hmv : ∀ j, (mv j).oneCell' = true) (w : World) (v : Int → Int) (g : Int → Int × Int × Int) (er : Int) (hT : Tb RV v g er w (fun k => k = gh)) (hok : okO ins rk = true) (ho : 0 ≤ own ∧ own < 65536) (hE0 : (nextF nd pf rt (v tg) tg came dn).2.2.2 = 0) (hK3 : (nextF nd pf rt (v tg) tg came dn).1 = 3) (hB : w.heap[gh]? = some (.cells (HA cl fw ln nx hp sa da true mv dn wr fa ins rk num T l.length cT nd pf rt RV tg came own least wg).toArray 96 (0, 0))) (F_T : ∀ W', Kp w W' (fun k => k = gh) → Kd.C (Kd.int .u8) W' T l.length l) (hml : l.length ≤ 900000) : Calls Try.prog 76 #[Value.pointer (some ⟨gh, 0, none⟩)] w fun e w' => e = .returned (.int .i64 0) ∧ w'.heap[gh]? = some (.cells (HB cl fw ln nx hp sa da true mv dn wr true ins own num T l.length cT nd pf rt RV tg came own least 3 ((nextF nd pf rt (v tg) tg came dn).2.1) wg).toArray 96 (0, 0)) ∧ Kp w w' (fun k => k = gh) := on_k cl fw ln nx hp sa da mv dn wr fa ins rk num T cT l nd pf rt RV tg came own least wg gh hmv w v g er hT hok ho hB F_T hml (fun h => absurd hE0 h) (fun _ h => by rw [hK3] at h; cases h) (fun _ _ w' hB hk => ⟨rfl, hB, hk⟩) (fun _ _ h => absurd hK3 h)
theorem on_o (cl fw ln nx hp : Int) (sa da : Nat → Int) (mv : Nat → Value) (dn wr fa : Bool) (ins rk num : Int) (T : Option Addr) (cT : Nat) (l : List Int) (nd pf : Int) (rt : Bool) (RV : Value) (tg came own least : Int) (wg : Bool) (gh : Nat) (hmv : ∀ j, (mv j).oneCell' = true) (w : World) (v : Int → Int) (g : Int → Int × Int × Int) (er : Int) (hT : Tb RV v g er w (fun k => k = gh)) (hok : okO ins rk = true) (ho : 0 ≤ own ∧ own < 65536) (hE0 : (nextF nd pf rt (v tg) tg came dn).2.2.2 = 0) (hK4 : ¬ (nextF nd pf rt (v tg) tg came dn).1 = 4) (hK3 : ¬ (nextF nd pf rt (v tg) tg came dn).1 = 3) (hB : w.heap[gh]? = some (.cells (HA cl fw ln nx hp sa da true mv dn wr fa ins rk num T l.length cT nd pf rt RV tg came own least wg).toArray 96 (0, 0))) (F_T : ∀ W', Kp w W' (fun k => k = gh) → Kd.C (Kd.int .u8) W' T l.length l) (hml : l.length ≤ 900000) : Calls Try.prog 76 #[Value.pointer (some ⟨gh, 0, none⟩)] w fun e w' => e = .returned (.int .i64 0) ∧ w'.heap[gh]? = some (.cells (HB cl fw ln nx hp sa da true mv ((nextF nd pf rt (v tg) tg came dn).2.2.1) wr fa ins own num T l.length cT nd pf rt RV tg came own least ((nextF nd pf rt (v tg) tg came dn).1) ((nextF nd pf rt (v tg) tg came dn).2.1) wg).toArray 96 (0, 0)) ∧ Kp w w' (fun k => k = gh) := on_k cl fw ln nx hp sa da mv dn wr fa ins rk num T cT l nd pf rt RV tg came own least wg gh hmv w v g er hT hok ho hB F_T hml (fun h => absurd hE0 h) (fun _ h => absurd h hK4) (fun _ h => absurd h hK3) (fun _ _ _ w' hB hk => ⟨rfl, hB, hk⟩)
def resE (er : Int) : Int × Int × Int × Bool × Int × Bool × Bool × Bool × Int := (er, 0, 0, false, 0, false, false, false, 0)
def onF (hp : Int) (dn wr fa : Bool) (nd pf : Int) (rt : Bool) (v tg came own : Int) (wg : Bool) : Int × Int × Int × Bool × Int × Bool × Bool × Bool × Int :=
 if (nextF nd pf rt v tg came dn).2.2.2 = 0 then (if (nextF nd pf rt v tg came dn).1 = 4 then resE 8 else if (nextF nd pf rt v tg came dn).1 = 3 then (0, 3, (nextF nd pf rt v tg came dn).2.1, wg, hp, dn, wr, true, own)
  else (0, (nextF nd pf rt v tg came dn).1, (nextF nd pf rt v tg came dn).2.1, wg, hp, (nextF nd pf rt v tg came dn).2.2.1, wr, fa, own)) else resE (nextF nd pf rt v tg came dn).2.2.2
/-- What becomes of a data packet: the error, kind, next, wrong; hops, down, wrong, failed, rank. -/
def handF (ok : Bool) (tg hp : Int) (dn wr fa : Bool) (rk nd pf : Int) (rt : Bool) (v came own least : Int) : Int × Int × Int × Bool × Int × Bool × Bool × Bool × Int :=
 if ok = false then resE 1 else if ¬ 0 ≤ tg then resE 8 else if tg = nd then (0, 0, -1, false, hp, dn, wr, fa, rk)
 else if came = -1 then onF hp dn wr fa nd pf rt v tg came own false
 else if hp < 2 then resE 12
 else if (fa && decide (v = came)) = true then (0, 4, -1, false, hp - 1, false, wr, false, rk)
 else if (!consB dn rk own least && wr) = true then resE 11
 else onF (hp - 1) dn (wr || !consB dn rk own least) fa nd pf rt v tg came own (!consB dn rk own least)
theorem pktE_ok {cl fw hp ins rk num : Int} {n : Nat} (h : pktE cl fw hp ins rk num n = 0) : okO ins rk = true ∧ fitsF 4 [num] = true ∧ okF cl fw 0 0 hp = true ∧ n ≤ 1228 := by
 unfold pktE at h
 split at h
 ·
  rename_i h2
  simp only [okP, Bool.and_eq_true] at h2
  refine ⟨h2.1.1, h2.1.2, h2.2, ?_⟩
  split at h
  · cases h
  · omega
 · cases h
theorem arg_ok {cl fw hp ins rk num : Int} {n : Nat} {nd pf came own least : Int} (h : argB cl fw hp ins rk num n nd pf came own least = true) : pktE cl fw hp ins rk num n = 0 ∧ rightV nd pf = true ∧ (0 ≤ own ∧ own < 65536) ∧ (1 ≤ least ∧ least < 65536) ∧ (came = -1 ∨ 0 ≤ came ∧ came < 64) := by
 simp only [argB, validB, nodeB, Bool.and_eq_true, Bool.or_eq_true, Bool.not_eq_true', decide_eq_true_eq, decide_eq_false_iff_not] at h
 obtain ⟨⟨⟨⟨h1, h2⟩, h3⟩, h4⟩, h5⟩ := h
 exact ⟨h1, h2, h3.1, by omega, h5⟩
theorem R35_0_l : List.range (regOf Try.f35 0).size = [0] := by kernel_rfl
theorem R35_1_l : List.range (regOf Try.f35 1).size = [0, 1] := by kernel_rfl
theorem body35 : Try.f35.body = some (.seq (.region 0 (regOf Try.f35 0) false) (.seq (.region 1 (regOf Try.f35 1) false) (.ret))) := by kernel_rfl
theorem p35_0_0 : pj (regOf Try.f35 0) 0 = some (some 0, .assign (.const (.slice none 0 0)), 97, none) := by kernel_rfl
theorem P35_1 : (List.range (regOf Try.f35 1).size).map (pj (regOf Try.f35 1)) = [zz 1 (.buildSlice 97 6 #[(0, .func 71), (1, .func 72), (2, .func 73), (3, .func 74), (4, .func 75), (5, .func 76)]) 97, zz 0 (.assign (.tmp 1)) 97] := by kernel_rfl
set_option maxHeartbeats 4000000 in
theorem steps_any (w : World) : Calls Try.prog 35 #[] w fun e w' => ∃ gs, w.heap.size ≤ gs ∧ e = .returned (.slice (some ⟨gs, 0, none⟩) 6 6) ∧ w'.heap[gs]? = some (.cells #[Value.func (.func 71) #[] #[], Value.func (.func 72) #[] #[], Value.func (.func 73) #[] #[], Value.func (.func 74) #[] #[], Value.func (.func 75) #[] #[], Value.func (.func 76) #[] #[]] 99 (0, 0)) ∧ Kp w w' (fun _ => False) := by
 have K_0 := Kp.refl w (fun _ => False)
 refine enter (args := []) (n := 2) Try.func35 body35 rfl rfl rfl ?_
 intro a hE
 refine c_reg R35_0_l ?_
 refine q0 p35_0_0 hE (st_assign rfl) ?_; clear hE a; intro a hE
 refine p_nil (x_norm (c_reg R35_1_l ?_))
 refine p_cons (s_row (xs := [(0, Operand.func 71), (1, Operand.func 72), (2, Operand.func 73), (3, Operand.func 74), (4, Operand.func 75), (5, Operand.func 76)]) (vs := [(0, Value.func (.func 71) #[] #[]), (1, Value.func (.func 72) #[] #[]), (2, Value.func (.func 73) #[] #[]), (3, Value.func (.func 74) #[] #[]), (4, Value.func (.func 75) #[] #[]), (5, Value.func (.func 76) #[] #[])]) (cs := #[Value.func (.func 71) #[] #[], Value.func (.func 72) #[] #[], Value.func (.func 73) #[] #[], Value.func (.func 74) #[] #[], Value.func (.func 75) #[] #[], Value.func (.func 76) #[] #[]]) (pl P35_1 0) hE wn_none rfl Try.underlying97 rfl (by kernel_rfl) ?_)
 clear hE a; intro g1 w2 z3 B_g1 hk a hE
 have z_0_g1 := Nat.le_trans K_0.kept.1 z3
 replace K_0 := K_0.then_ hk (fun _ h => h.elim)
 clear hk
 refine q0 (pl P35_1 1) hE (st_assign rfl) ?_; clear hE a; intro a hE
 refine p_nil (x_norm (wp_ret ?_))
 refine ret_one (v := Value.slice (some ⟨g1, 0, none⟩) 6 6) rfl hE (.tmp rfl .nil) ?_
 exact ⟨g1, z_0_g1, rfl, B_g1, K_0⟩
theorem R7_0_l : List.range (regOf Try.f7 0).size = [0, 1, 2, 3] := by kernel_rfl
theorem R7_1_l : List.range (regOf Try.f7 1).size = [0, 1, 2, 3, 4] := by kernel_rfl
theorem R7_2_l : List.range (regOf Try.f7 2).size = [0, 1, 2, 3, 4, 5, 6, 7] := by kernel_rfl
theorem R7_3_l : List.range (regOf Try.f7 3).size = [0, 1, 2] := by kernel_rfl
theorem R7_4_l : List.range (regOf Try.f7 4).size = [0] := by kernel_rfl
theorem R7_5_l : List.range (regOf Try.f7 5).size = [0, 1, 2] := by kernel_rfl
theorem R7_6_l : List.range (regOf Try.f7 6).size = [0, 1, 2, 3] := by kernel_rfl
theorem R7_7_l : List.range (regOf Try.f7 7).size = [0, 1] := by kernel_rfl
theorem R7_8_l : List.range (regOf Try.f7 8).size = [0, 1, 2, 3] := by kernel_rfl
theorem R7_9_l : List.range (regOf Try.f7 9).size = [0, 1, 2, 3] := by kernel_rfl
theorem R7_10_l : List.range (regOf Try.f7 10).size = [0, 1] := by kernel_rfl
theorem R7_11_l : List.range (regOf Try.f7 11).size = [0, 1, 2, 3, 4, 5] := by kernel_rfl
theorem body7 : Try.f7.body = some (.seq (.region 0 (regOf Try.f7 0) false) (.seq (.region 1 (regOf Try.f7 1) false) (.seq (.region 2 (regOf Try.f7 2) false) (.seq (.seq (.region 3 (regOf Try.f7 3) false) (.block 0 (.loop (.seq (.region 4 (regOf Try.f7 4) false) (.seq (.cond (Operand.tmp 30) (.skip) (.exit 0)) (.seq (.block 1 (.seq (.region 5 (regOf Try.f7 5) false) (.seq (.seq (.region 6 (regOf Try.f7 6) false) (.seq (.region 7 (regOf Try.f7 7) false) (.cond (Operand.tmp 37) (.seq (.region 8 (regOf Try.f7 8) false) (.ret)) (.skip)))) (.seq (.region 9 (regOf Try.f7 9) false) (.cond (Operand.tmp 43) (.exit 0) (.skip)))))) (.region 10 (regOf Try.f7 10) false))))))) (.seq (.region 11 (regOf Try.f7 11) false) (.ret)))))) := by kernel_rfl
theorem P7_0 : (List.range (regOf Try.f7 0).size).map (pj (regOf Try.f7 0)) = [zz 5 (.box 35 (.tmp 0)) 0, zz 6 (.box 41 (.tmp 1)) 0, zz 10 (.alloc 43) 0, zz 11 (.assign (.const (.int .i64 0))) 36] := by kernel_rfl
theorem tZ43 : (Try.prog.info? 43).bind (·.zero) = some (Value.agg (([Value.int .i64 0, Value.int .i64 0, Value.int .i64 0, Value.int .i64 0, Value.int .i64 0, Value.int .i64 0, Value.int .i64 0] ++ b16 (fun _ => 0) ++ b16 (fun _ => 0) ++ [Value.bool false, Value.int .i64 0, Value.int .i64 0, Value.int .i64 0, Value.int .i64 0, Value.int .i64 0, Value.int .i64 0, Value.int .i64 0, Value.int .i64 0, Value.int .i64 0, Value.bool false, Value.bool false] ++ b16 (fun _ => 0) ++ [Value.slice none 0 0, Value.bool false, Value.bool false, Value.bool false, Value.int .i64 0, Value.int .i64 0, Value.int .i64 0, Value.slice none 0 0, Value.bool false])).toArray) := by kernel_rfl
theorem P7_1 : (List.range (regOf Try.f7 1).size).map (pj (regOf Try.f7 1)) = [zz 16 (.fieldAddr 35 (.tmp 5) 5) 0, zz 17 (.load 33 (.tmp 16)) 33, zz 18 (.call { callee := .value (.func 34), args := #[.tmp 17], argTypes := #[33] }) 33, zz 19 (.fieldAddr 35 (.tmp 5) 5) 0, some (none, .store 33 (.tmp 19) (.tmp 18), 0, none)] := by kernel_rfl
theorem tS33 : (Try.prog.info? 33).map (·.size) = some 1 := by kernel_rfl
theorem tA33 : (Try.prog.underlying 33).map aggD = some false := by kernel_rfl
theorem cl34 : callable Try.f34 = true := by kernel_rfl
theorem P7_2 : (List.range (regOf Try.f7 2).size).map (pj (regOf Try.f7 2)) = [zz 20 (.load 35 (.tmp 5)) 35, zz 21 (.load 41 (.tmp 6)) 41, zz 22 (.move (.tmp 2)) 3, zz 23 (.move (.tmp 3)) 3, zz 24 (.move (.tmp 4)) 3, zz 25 (.build 96 #[(0, .tmp 20), (1, .tmp 21), (3, .tmp 22), (4, .tmp 23), (5, .tmp 24)]) 96, zz 26 (.box 96 (.tmp 25)) 94, zz 12 (.assign (.tmp 26)) 94] := by kernel_rfl
theorem tA35 : (Try.prog.underlying 35).map aggD = some true := by kernel_rfl
theorem tS35 : (Try.prog.info? 35).map (·.size) = some 73 := by kernel_rfl
theorem tA41 : (Try.prog.underlying 41).map aggD = some true := by kernel_rfl
theorem tS41 : (Try.prog.info? 41).map (·.size) = some 4 := by kernel_rfl
theorem P7_3 : (List.range (regOf Try.f7 3).size).map (pj (regOf Try.f7 3)) = [zz 27 (.call { callee := .value (.func 35), args := #[], argTypes := #[] }) 97, zz 28 (.call { callee := .builtin .len, args := #[.tmp 27], argTypes := #[97] }) 3, zz 29 (.move (.const (.int .i64 0))) 3] := by kernel_rfl
theorem cl35 : callable Try.f35 = true := by kernel_rfl
theorem p7_4_0 : pj (regOf Try.f7 4) 0 = some (some 30, .binOp .lss 3 (.tmp 29) (.tmp 28) 3, 0, none) := by kernel_rfl
theorem P7_5 : (List.range (regOf Try.f7 5).size).map (pj (regOf Try.f7 5)) = [zz 31 (.indexAddr 97 (.tmp 27) (.tmp 29)) 0, zz 32 (.load 99 (.tmp 31)) 99, zz 14 (.assign (.tmp 32)) 99] := by kernel_rfl
theorem tS99 : (Try.prog.info? 99).map (·.size) = some 1 := by kernel_rfl
theorem tA99 : (Try.prog.underlying 99).map aggD = some false := by kernel_rfl
theorem P7_6 : (List.range (regOf Try.f7 6).size).map (pj (regOf Try.f7 6)) = [zz 33 (.move (.tmp 14)) 99, zz 34 (.move (.tmp 12)) 94, zz 35 (.call { callee := .value (.tmp 33), args := #[.tmp 34], argTypes := #[94] }) 36, zz 15 (.assign (.tmp 35)) 36] := by kernel_rfl
theorem cl71 : callable Try.f71 = true := by kernel_rfl
theorem P7_7 : (List.range (regOf Try.f7 7).size).map (pj (regOf Try.f7 7)) = [zz 36 (.move (.tmp 15)) 36, zz 37 (.binOp .neq 36 (.tmp 36) (.const (.int .i64 0)) 36) 4] := by kernel_rfl
theorem P7_9 : (List.range (regOf Try.f7 9).size).map (pj (regOf Try.f7 9)) = [zz 40 (.move (.tmp 12)) 94, zz 41 (.nilCheck (.tmp 40)) 0, zz 42 (.fieldAddr 96 (.tmp 41) 7) 0, zz 43 (.load 4 (.tmp 42)) 4] := by kernel_rfl
theorem tS4 : (Try.prog.info? 4).map (·.size) = some 1 := by kernel_rfl
theorem tA4 : (Try.prog.underlying 4).map aggD = some false := by kernel_rfl
theorem P7_10 : (List.range (regOf Try.f7 10).size).map (pj (regOf Try.f7 10)) = [zz 44 (.binOp .add 3 (.tmp 29) (.const (.int .i64 1)) 3) 3, zz 29 (.move (.tmp 44)) 3] := by kernel_rfl
theorem cl72 : callable Try.f72 = true := by kernel_rfl
theorem P7_11 : (List.range (regOf Try.f7 11).size).map (pj (regOf Try.f7 11)) = [zz 45 (.move (.tmp 12)) 94, zz 46 (.nilCheck (.tmp 45)) 0, zz 47 (.fieldAddr 96 (.tmp 46) 6) 0, zz 48 (.load 43 (.tmp 47)) 43, some (none, .store 43 (.tmp 10) (.tmp 48), 0, none), zz 11 (.assign (.const (.int .i64 0))) 36] := by kernel_rfl
theorem tS43 : (Try.prog.info? 43).map (·.size) = some 76 := by kernel_rfl
theorem tA43 : (Try.prog.underlying 43).map aggD = some true := by kernel_rfl
theorem cl73 : callable Try.f73 = true := by kernel_rfl
theorem cl74 : callable Try.f74 = true := by kernel_rfl
theorem cl75 : callable Try.f75 = true := by kernel_rfl
theorem cl76 : callable Try.f76 = true := by kernel_rfl
theorem P7_8 : (List.range (regOf Try.f7 8).size).map (pj (regOf Try.f7 8)) = [zz 38 (.build 43 #[]) 43, zz 39 (.move (.tmp 15)) 36, some (none, .store 43 (.tmp 10) (.tmp 38), 0, none), zz 11 (.assign (.tmp 39)) 36] := by kernel_rfl
set_option maxHeartbeats 4000000 in
theorem handle_k (cl fw ln nx hp : Int) (sa da : Nat → Int) (mv : Nat → Value) (dn wr fa : Bool) (ins rk num : Int) (T : Option Addr) (cT : Nat) (l : List Int) (nd pf : Int) (rt : Bool) (RV : Value) (v : Int → Int) (g : Int → Int × Int × Int) (er : Int) (came own least : Int) (hmv : ∀ j, (mv j).oneCell' = true) (hda : ∀ j, 0 ≤ da j ∧ da j ≤ 255) {R : Ending → World → Prop} (w : World) (hT : Tb RV v g er w (fun _ => False)) (F_T : ∀ W', Kp w W' (fun _ => False) → Kd.C (Kd.int .u8) W' T l.length l) (hml : l.length ≤ 900000) (h0 : ∀ er9, handF (argB cl fw hp ins rk num l.length nd pf came own least) (nodeF da) hp dn wr fa rk nd pf rt (v (nodeF da)) came own least = resE er9 → ¬ er9 = 0 → ∀ w', Kp w w' (fun _ => False) → R (.returned (.tuple #[Value.agg (([Value.int .i64 0, Value.int .i64 0, Value.int .i64 0, Value.int .i64 0, Value.int .i64 0, Value.int .i64 0, Value.int .i64 0] ++ b16 (fun _ => 0) ++ b16 (fun _ => 0) ++ [Value.bool false, Value.int .i64 0, Value.int .i64 0, Value.int .i64 0, Value.int .i64 0, Value.int .i64 0, Value.int .i64 0, Value.int .i64 0, Value.int .i64 0, Value.int .i64 0, Value.bool false, Value.bool false] ++ b16 (fun _ => 0) ++ [Value.slice none 0 0, Value.bool false, Value.bool false, Value.bool false, Value.int .i64 0, Value.int .i64 0, Value.int .i64 0, Value.slice none 0 0, Value.bool false])).toArray, .int .i64 er9])) w') (h1 : ∀ kd nx9 wg' hp' dn' wr' fa' rk', handF (argB cl fw hp ins rk num l.length nd pf came own least) (nodeF da) hp dn wr fa rk nd pf rt (v (nodeF da)) came own least = (0, kd, nx9, wg', hp', dn', wr', fa', rk') → ∀ T' c' w', w'.ownsRow w.heap.size 5 1 (.slice T' l.length c') l.length (encs (Value.int .u8) l) → Kp w w' (fun _ => False) → R (.returned (.tuple #[.agg (RA kd nx9 cl fw ln nx hp' sa da true mv dn' wr' fa' ins rk' num T' l.length c' wg').toArray, .int .i64 0])) w') : Calls Try.prog 7 #[Value.agg (PA cl fw ln nx hp sa da true mv dn wr fa ins rk num T l.length cT).toArray, Value.agg #[Value.int .i64 nd, Value.int .i64 pf, Value.bool rt, RV], .int .i64 came, .int .i64 own, .int .i64 least] w R := by
 have K_0 := Kp.refl w (fun _ => False)
 refine enter (args := [Value.agg (PA cl fw ln nx hp sa da true mv dn wr fa ins rk num T l.length cT).toArray, Value.agg #[Value.int .i64 nd, Value.int .i64 pf, Value.bool rt, RV], Value.int .i64 came, Value.int .i64 own, Value.int .i64 least]) (n := 49) Try.func7 body7 rfl rfl rfl ?_
 intro a hE
 refine c_reg R7_0_l ?_
 refine p_cons (s_box (pl P7_0 0) hE wn_none rfl rfl ?_)
 clear hE a; intro g1 w2 z3 B_g1 hk a hE
 replace B_g1 : w2.heap[g1]? = some (.cells (PA cl fw ln nx hp sa da true mv dn wr fa ins rk num T l.length cT).toArray 35 (0, 0)) := B_g1
 have z_0_g1 := Nat.le_trans K_0.kept.1 z3
 replace K_0 := K_0.then_ hk (fun _ h => h.elim)
 clear hk
 refine p_cons (s_box (pl P7_0 1) hE wn_none rfl rfl ?_)
 clear hE a; intro g4 w5 z6 B_g4 hk a hE
 replace B_g4 : w5.heap[g4]? = some (.cells #[Value.int .i64 nd, Value.int .i64 pf, Value.bool rt, RV] 41 (0, 0)) := B_g4
 have n_g1_g4 : g1 ≠ g4 := ne_new B_g1 z6
 have z_0_g4 := Nat.le_trans K_0.kept.1 z6
 replace B_g1 := kp_blk B_g1 hk (fun h => h)
 replace K_0 := K_0.then_ hk (fun _ h => h.elim)
 clear hk
 refine p_cons (s_alloc (pl P7_0 2) hE wn_none rfl tZ43 ?_)
 clear hE a; intro g7 w8 z9 B_g7 hk a hE
 replace B_g7 : w8.heap[g7]? = some (.cells (([Value.int .i64 0, Value.int .i64 0, Value.int .i64 0, Value.int .i64 0, Value.int .i64 0, Value.int .i64 0, Value.int .i64 0] ++ b16 (fun _ => 0) ++ b16 (fun _ => 0) ++ [Value.bool false, Value.int .i64 0, Value.int .i64 0, Value.int .i64 0, Value.int .i64 0, Value.int .i64 0, Value.int .i64 0, Value.int .i64 0, Value.int .i64 0, Value.int .i64 0, Value.bool false, Value.bool false] ++ b16 (fun _ => 0) ++ [Value.slice none 0 0, Value.bool false, Value.bool false, Value.bool false, Value.int .i64 0, Value.int .i64 0, Value.int .i64 0, Value.slice none 0 0, Value.bool false])).toArray 43 (0, 0)) := B_g7
 have n_g1_g7 : g1 ≠ g7 := ne_new B_g1 z9
 have n_g4_g7 : g4 ≠ g7 := ne_new B_g4 z9
 have z_0_g7 := Nat.le_trans K_0.kept.1 z9
 replace B_g1 := kp_blk B_g1 hk (fun h => h)
 replace B_g4 := kp_blk B_g4 hk (fun h => h)
 replace K_0 := K_0.then_ hk (fun _ h => h.elim)
 clear hk
 refine q0 (pl P7_0 3) hE (st_assign rfl) ?_; clear hE a; intro a hE
 refine p_nil (x_norm (c_reg R7_1_l ?_))
 refine qn hE (rc (pl P7_1 0) (st_fieldAddr Try.underlying35 rfl tS33 rfl rfl) (rc (pl P7_1 1) (st_load1 tA33 rfl ((blk_cell B_g1 72).trans rfl)) rn)) ?_; clear hE a; intro a hE
 have hnb_g1 := blk_lt B_g1
 have hnb_g4 := blk_lt B_g4
 have hnb_g7 := blk_lt B_g7
 have hnz_0 := K_0.kept.1
 refine p_cons (s_call (xs := [Operand.tmp 17]) (args := [Value.slice T l.length cT]) (pl P7_1 2) hE wn_none rfl rfl Try.func34 cl34 (clone_s T cT l _ (F_T _ K_0) (by omega)) ?_)
 rintro e w13 ⟨A11, c12, rfl, O_q10, hk⟩
 replace B_g1 := kp_blk B_g1 hk (fun h => h)
 replace B_g4 := kp_blk B_g4 hk (fun h => h)
 replace B_g7 := kp_blk B_g7 hk (fun h => h)
 replace K_0 := K_0.then_ hk (fun _ h => h.elim)
 have Nb_q10_g1 : ¬ OB A11 g1 := fun h => by have := (own_ob O_q10 h).1; have := hnb_g1; omega
 have Nb_q10_g4 : ¬ OB A11 g4 := fun h => by have := (own_ob O_q10 h).1; have := hnb_g4; omega
 have Nb_q10_g7 : ¬ OB A11 g7 := fun h => by have := (own_ob O_q10 h).1; have := hnb_g7; omega
 have Z_0_q10 : ∀ k, OB A11 k → (fun _ => False) k ∨ w.heap.size ≤ k := fun k h => .inr (by have := (own_ob O_q10 h).1; have := hnz_0; omega)
 replace O_q10 := own_lower O_q10 hnz_0
 refine ⟨_, rfl, ?_⟩; clear hE a; intro a hE
 refine q0 (pl P7_1 3) hE (st_fieldAddr Try.underlying35 rfl tS33 rfl rfl) ?_; clear hE a; intro a hE
 refine p_cons (s_store (off := 72) (k := 1) (cs' := (PA cl fw ln nx hp sa da true mv dn wr fa ins rk num A11 l.length c12).toArray) (pl P7_1 4) hE wn_none tS33 rfl rfl rfl rfl B_g1 (Nat.le_of_ble_eq_true rfl) rfl ?_)
 intro w14 B_g1' hk
 replace B_g4 := kp_blk B_g4 hk (Ne.symm n_g1_g4)
 replace B_g7 := kp_blk B_g7 hk (Ne.symm n_g1_g7)
 replace O_q10 := own_keep O_q10 hk (fun k hk2 h2 => Nb_q10_g1 (by rw [show k = g1 from h2] at hk2; exact hk2))
 replace K_0 := K_0.then_ hk (fun k h => by rw [show k = g1 from h]; exact Or.inr z_0_g1)
 replace B_g1 := B_g1'
 clear hk
 refine p_nil (x_norm (c_reg R7_2_l ?_))
 refine qn hE (rc (pl P7_2 0) (st_loadN (off := 0) (k := 73) (vs := (PA cl fw ln nx hp sa da true mv dn wr fa ins rk num A11 l.length c12)) tA35 tS35 rfl B_g1 rfl rfl) (rc (pl P7_2 1) (st_loadN (off := 0) (k := 4) (vs := [Value.int .i64 nd, Value.int .i64 pf, Value.bool rt, RV]) tA41 tS41 rfl B_g4 rfl rfl) (rc (pl P7_2 2) (st_move rfl) (rc (pl P7_2 3) (st_move rfl) (rc (pl P7_2 4) (st_move rfl) (rc (pl P7_2 5) (st_build (xs := [(0, Operand.tmp 20), (1, Operand.tmp 21), (3, Operand.tmp 22), (4, Operand.tmp 23), (5, Operand.tmp 24)]) (vs := [(0, Value.agg (PA cl fw ln nx hp sa da true mv dn wr fa ins rk num A11 l.length c12).toArray), (1, Value.agg #[Value.int .i64 nd, Value.int .i64 pf, Value.bool rt, RV]), (3, Value.int .i64 came), (4, Value.int .i64 own), (5, Value.int .i64 least)]) (cs := (HA cl fw ln nx hp sa da true mv dn wr fa ins rk num A11 l.length c12 nd pf rt RV 0 came own least false).toArray) rfl (by kernel_rfl)) rn)))))) ?_; clear hE a; intro a hE
 refine p_cons (s_box (pl P7_2 6) hE wn_none rfl rfl ?_)
 clear hE a; intro g15 w16 z17 B_g15 hk a hE
 replace B_g15 : w16.heap[g15]? = some (.cells (HA cl fw ln nx hp sa da true mv dn wr fa ins rk num A11 l.length c12 nd pf rt RV 0 came own least false).toArray 96 (0, 0)) := B_g15
 have n_g1_g15 : g1 ≠ g15 := ne_new B_g1 z17
 have n_g4_g15 : g4 ≠ g15 := ne_new B_g4 z17
 have n_g7_g15 : g7 ≠ g15 := ne_new B_g7 z17
 have z_0_g15 := Nat.le_trans K_0.kept.1 z17
 have Nb_q10_g15 : ¬ OB A11 g15 := fun h => by have := (own_ob O_q10 h).2; omega
 replace B_g1 := kp_blk B_g1 hk (fun h => h)
 replace B_g4 := kp_blk B_g4 hk (fun h => h)
 replace B_g7 := kp_blk B_g7 hk (fun h => h)
 replace O_q10 := own_keep O_q10 hk (fun _ _ h => h)
 replace K_0 := K_0.then_ hk (fun _ h => h.elim)
 clear hk
 refine q0 (pl P7_2 7) hE (st_assign rfl) ?_; clear hE a; intro a hE
 refine p_nil (x_norm (wp_seq (c_reg R7_3_l ?_)))
 refine p_cons (s_call (xs := []) (args := []) (pl P7_3 0) hE wn_none rfl rfl Try.func35 cl35 (steps_any _) ?_)
 rintro e w18 ⟨gs, zs, rfl, B_gs, hk⟩
 have n_g1_gs : g1 ≠ gs := ne_new B_g1 zs
 have n_g4_gs : g4 ≠ gs := ne_new B_g4 zs
 have n_g7_gs : g7 ≠ gs := ne_new B_g7 zs
 have n_g15_gs : g15 ≠ gs := ne_new B_g15 zs
 have z_0_gs := Nat.le_trans K_0.kept.1 zs
 have Nb_q10_gs : ¬ OB A11 gs := fun h => by have := (own_ob O_q10 h).2; omega
 replace B_g1 := kp_blk B_g1 hk (fun h => h)
 replace B_g4 := kp_blk B_g4 hk (fun h => h)
 replace B_g7 := kp_blk B_g7 hk (fun h => h)
 replace B_g15 := kp_blk B_g15 hk (fun h => h)
 replace O_q10 := own_keep O_q10 hk (fun _ _ h => h)
 replace K_0 := K_0.then_ hk (fun _ h => h.elim)
 refine ⟨_, rfl, ?_⟩; clear hE a; intro a hE
 refine qn hE (rc (pl P7_3 1) (st_len Try.underlying97 rfl) (rc (pl P7_3 2) (st_move rfl) rn)) ?_; clear hE a; intro a hE
 refine p_nil (x_norm (wp_block ?_))
 refine wp_loop_rounds 7 ?_
 refine (Eq.mpr (rounds_succ (n := 6)) ?_)
 refine c_reg R7_4_l ?_
 refine q0 p7_4_0 hE (st_lss (b := true) rfl rfl (by decide)) ?_; clear hE a; intro a hE
 refine p_nil (x_norm (wp_seq ?_))
 refine c_cond (t := true) hE rfl ?_
 refine wp_skip (x_norm (wp_seq (wp_block (c_reg R7_5_l ?_))))
 refine qn hE (rc (pl P7_5 0) (st_indexAddr (i := 0) Try.underlying97 tS99 rfl rfl (by decide) rfl) (rc (pl P7_5 1) (st_load1 tA99 rfl ((blk_cell B_gs 0).trans rfl)) (rc (pl P7_5 2) (st_assign rfl) rn))) ?_; clear hE a; intro a hE
 refine p_nil (x_norm (wp_seq ?_))
 rcases Decidable.em (argB cl fw hp ins rk num l.length nd pf came own least = true) with hAO | hAO
 ·
  obtain ⟨hpe, hrv, how, hle, hca⟩ := arg_ok hAO
  obtain ⟨hoO, _, hoF, _⟩ := pktE_ok hpe
  rcases Decidable.em (0 ≤ nodeF da) with hTG | hTG
  ·
   refine c_reg R7_6_l ?_
   refine qn hE (rc (pl P7_6 0) (st_move rfl) (rc (pl P7_6 1) (st_move rfl) rn)) ?_; clear hE a; intro a hE
   refine p_cons (s_callv (fst := []) (cap := []) (xs := [Operand.tmp 34]) (args := [Value.pointer (some ⟨g15, 0, none⟩)]) (pl P7_6 2) hE wn_none rfl rfl rfl Try.func71 cl71 (check_ok cl fw ln nx hp sa da mv dn wr fa ins rk num A11 c12 l nd pf rt RV 0 came own least false g15 hmv hda hAO hTG _ B_g15 (fun W' hk => own_told (own_keep O_q10 hk (fun k h h2 => Nb_q10_g15 (by rw [show k = g15 from h2] at h; exact h)))) hml) ?_)
   rintro e w19 ⟨rfl, B_g15', hk⟩
   replace B_g1 := kp_blk B_g1 hk n_g1_g15
   replace B_g4 := kp_blk B_g4 hk n_g4_g15
   replace B_g7 := kp_blk B_g7 hk n_g7_g15
   replace B_gs := kp_blk B_gs hk (Ne.symm n_g15_gs)
   replace O_q10 := own_keep O_q10 hk (fun k hk2 h2 => Nb_q10_g15 (by rw [show k = g15 from h2] at hk2; exact hk2))
   replace K_0 := K_0.then_ hk (fun k h => by rw [show k = g15 from h]; exact Or.inr z_0_g15)
   replace B_g15 := B_g15'
   refine ⟨_, rfl, ?_⟩; clear hE a; intro a hE
   refine q0 (pl P7_6 3) hE (st_assign rfl) ?_; clear hE a; intro a hE
   refine p_nil (x_norm (c_reg R7_7_l ?_))
   refine qn hE (rc (pl P7_7 0) (st_move rfl) (rc (pl P7_7 1) (st_neq (b := false) rfl rfl (by decide)) rn)) ?_; clear hE a; intro a hE
   refine p_nil (x_norm ?_)
   refine c_cond (t := false) hE rfl ?_
   refine wp_skip (x_norm (c_reg R7_9_l ?_))
   refine qn hE (rc (pl P7_9 0) (st_move rfl) (rc (pl P7_9 1) (st_nil rfl) (rc (pl P7_9 2) (st_fieldAddr Try.underlying96 rfl tS4 rfl rfl) (rc (pl P7_9 3) (st_load1 tA4 rfl ((blk_cell B_g15 157).trans rfl)) rn)))) ?_; clear hE a; intro a hE
   refine p_nil (x_norm ?_)
   refine c_cond (t := false) hE rfl ?_
   refine wp_skip (x_normB (x_norm (c_regL R7_10_l ?_)))
   refine qn hE (rc (pl P7_10 0) (st_add (z := 1) rfl rfl (by decide)) (rc (pl P7_10 1) (st_move rfl) rn)) ?_; clear hE a; intro a hE
   refine p_nil (x_norm ?_)
   refine (Eq.mpr (rounds_succ (n := 5)) ?_)
   refine c_reg R7_4_l ?_
   refine q0 p7_4_0 hE (st_lss (b := true) rfl rfl (by decide)) ?_; clear hE a; intro a hE
   refine p_nil (x_norm (wp_seq ?_))
   refine c_cond (t := true) hE rfl ?_
   refine wp_skip (x_norm (wp_seq (wp_block (c_reg R7_5_l ?_))))
   refine qn hE (rc (pl P7_5 0) (st_indexAddr (i := 1) Try.underlying97 tS99 rfl rfl (by decide) rfl) (rc (pl P7_5 1) (st_load1 tA99 rfl ((blk_cell B_gs 1).trans rfl)) (rc (pl P7_5 2) (st_assign rfl) rn))) ?_; clear hE a; intro a hE
   refine p_nil (x_norm (wp_seq ?_))
   rcases Decidable.em (nodeF da = nd) with hHE | hHE
   ·
    refine c_reg R7_6_l ?_
    refine qn hE (rc (pl P7_6 0) (st_move rfl) (rc (pl P7_6 1) (st_move rfl) rn)) ?_; clear hE a; intro a hE
    refine p_cons (s_callv (fst := []) (cap := []) (xs := [Operand.tmp 34]) (args := [Value.pointer (some ⟨g15, 0, none⟩)]) (pl P7_6 2) hE wn_none rfl rfl rfl Try.func72 cl72 (here_y cl fw ln nx hp sa da mv dn wr fa ins rk num A11 c12 l nd pf rt RV (nodeF da) came own least false g15 hmv hHE _ B_g15 (fun W' hk => own_told (own_keep O_q10 hk (fun k h h2 => Nb_q10_g15 (by rw [show k = g15 from h2] at h; exact h)))) hml) ?_)
    rintro e w20 ⟨rfl, B_g15', hk⟩
    replace B_g1 := kp_blk B_g1 hk n_g1_g15
    replace B_g4 := kp_blk B_g4 hk n_g4_g15
    replace B_g7 := kp_blk B_g7 hk n_g7_g15
    replace B_gs := kp_blk B_gs hk (Ne.symm n_g15_gs)
    replace O_q10 := own_keep O_q10 hk (fun k hk2 h2 => Nb_q10_g15 (by rw [show k = g15 from h2] at hk2; exact hk2))
    replace K_0 := K_0.then_ hk (fun k h => by rw [show k = g15 from h]; exact Or.inr z_0_g15)
    replace B_g15 := B_g15'
    refine ⟨_, rfl, ?_⟩; clear hE a; intro a hE
    refine q0 (pl P7_6 3) hE (st_assign rfl) ?_; clear hE a; intro a hE
    refine p_nil (x_norm (c_reg R7_7_l ?_))
    refine qn hE (rc (pl P7_7 0) (st_move rfl) (rc (pl P7_7 1) (st_neq (b := false) rfl rfl (by decide)) rn)) ?_; clear hE a; intro a hE
    refine p_nil (x_norm ?_)
    refine c_cond (t := false) hE rfl ?_
    refine wp_skip (x_norm (c_reg R7_9_l ?_))
    refine qn hE (rc (pl P7_9 0) (st_move rfl) (rc (pl P7_9 1) (st_nil rfl) (rc (pl P7_9 2) (st_fieldAddr Try.underlying96 rfl tS4 rfl rfl) (rc (pl P7_9 3) (st_load1 tA4 rfl ((blk_cell B_g15 157).trans rfl)) rn)))) ?_; clear hE a; intro a hE
    refine p_nil (x_norm ?_)
    refine c_cond (t := true) hE rfl ?_
    refine wp_exit (x_out rfl (x_exit (x_exit (x_in (x_norm (c_reg R7_11_l ?_))))))
    refine qn hE (rc (pl P7_11 0) (st_move rfl) (rc (pl P7_11 1) (st_nil rfl) (rc (pl P7_11 2) (st_fieldAddr Try.underlying96 rfl tS43 rfl rfl) (rc (pl P7_11 3) (st_loadN (off := 81) (k := 76) (vs := (RA 0 (-1) cl fw ln nx hp sa da true mv dn wr fa ins rk num A11 l.length c12 false)) tA43 tS43 rfl B_g15 rfl rfl) rn)))) ?_; clear hE a; intro a hE
    refine p_cons (s_store (off := 0) (k := 76) (cs' := (RA 0 (-1) cl fw ln nx hp sa da true mv dn wr fa ins rk num A11 l.length c12 false).toArray) (pl P7_11 4) hE wn_none tS43 rfl rfl rfl (by exact ones_mv (a := ([Value.int .i64 0, Value.int .i64 (-1), Value.int .i64 cl, Value.int .i64 fw, Value.int .i64 ln, Value.int .i64 nx, Value.int .i64 hp] ++ b16 sa ++ b16 da ++ [Value.bool true])) (b := [Value.bool dn, Value.bool wr, Value.bool fa, Value.int .i64 ins, Value.int .i64 rk, Value.int .i64 num, Value.slice A11 l.length c12, Value.bool false]) hmv rfl rfl) B_g7 (Nat.le_of_ble_eq_true rfl) rfl ?_)
    intro w21 B_g7' hk
    replace B_g1 := kp_blk B_g1 hk n_g1_g7
    replace B_g4 := kp_blk B_g4 hk n_g4_g7
    replace B_g15 := kp_blk B_g15 hk (Ne.symm n_g7_g15)
    replace B_gs := kp_blk B_gs hk (Ne.symm n_g7_gs)
    replace O_q10 := own_keep O_q10 hk (fun k hk2 h2 => Nb_q10_g7 (by rw [show k = g7 from h2] at hk2; exact hk2))
    replace K_0 := K_0.then_ hk (fun k h => by rw [show k = g7 from h]; exact Or.inr z_0_g7)
    replace B_g7 := B_g7'
    clear hk
    refine q0 (pl P7_11 5) hE (st_assign rfl) ?_; clear hE a; intro a hE
    refine p_nil (x_norm (wp_ret ?_))
    refine ret_list (rs := [.cell 10 43, .tmp 11]) (vs := [Value.agg (RA 0 (-1) cl fw ln nx hp sa da true mv dn wr fa ins rk num A11 l.length c12 false).toArray, Value.int .i64 0]) rfl hE (.cellN (us := (RA 0 (-1) cl fw ln nx hp sa da true mv dn wr fa ins rk num A11 l.length c12 false)) tA43 tS43 rfl B_g7 rfl (.tmp rfl .nil)) rfl ?_
    exact h1 0 (-1) false hp dn wr fa rk (by unfold handF; rw [if_neg (by rw [hAO]; decide), if_neg (fun h => h hTG), if_pos hHE]) _ _ _ O_q10 K_0
   ·
    refine c_reg R7_6_l ?_
    refine qn hE (rc (pl P7_6 0) (st_move rfl) (rc (pl P7_6 1) (st_move rfl) rn)) ?_; clear hE a; intro a hE
    refine p_cons (s_callv (fst := []) (cap := []) (xs := [Operand.tmp 34]) (args := [Value.pointer (some ⟨g15, 0, none⟩)]) (pl P7_6 2) hE wn_none rfl rfl rfl Try.func72 cl72 (here_n cl fw ln nx hp sa da mv dn wr fa ins rk num A11 c12 l nd pf rt RV (nodeF da) came own least false g15 hmv hHE _ B_g15 (fun W' hk => own_told (own_keep O_q10 hk (fun k h h2 => Nb_q10_g15 (by rw [show k = g15 from h2] at h; exact h)))) hml) ?_)
    rintro e w22 ⟨rfl, B_g15', hk⟩
    replace B_g1 := kp_blk B_g1 hk n_g1_g15
    replace B_g4 := kp_blk B_g4 hk n_g4_g15
    replace B_g7 := kp_blk B_g7 hk n_g7_g15
    replace B_gs := kp_blk B_gs hk (Ne.symm n_g15_gs)
    replace O_q10 := own_keep O_q10 hk (fun k hk2 h2 => Nb_q10_g15 (by rw [show k = g15 from h2] at hk2; exact hk2))
    replace K_0 := K_0.then_ hk (fun k h => by rw [show k = g15 from h]; exact Or.inr z_0_g15)
    replace B_g15 := B_g15'
    refine ⟨_, rfl, ?_⟩; clear hE a; intro a hE
    refine q0 (pl P7_6 3) hE (st_assign rfl) ?_; clear hE a; intro a hE
    refine p_nil (x_norm (c_reg R7_7_l ?_))
    refine qn hE (rc (pl P7_7 0) (st_move rfl) (rc (pl P7_7 1) (st_neq (b := false) rfl rfl (by decide)) rn)) ?_; clear hE a; intro a hE
    refine p_nil (x_norm ?_)
    refine c_cond (t := false) hE rfl ?_
    refine wp_skip (x_norm (c_reg R7_9_l ?_))
    refine qn hE (rc (pl P7_9 0) (st_move rfl) (rc (pl P7_9 1) (st_nil rfl) (rc (pl P7_9 2) (st_fieldAddr Try.underlying96 rfl tS4 rfl rfl) (rc (pl P7_9 3) (st_load1 tA4 rfl ((blk_cell B_g15 157).trans rfl)) rn)))) ?_; clear hE a; intro a hE
    refine p_nil (x_norm ?_)
    refine c_cond (t := false) hE rfl ?_
    refine wp_skip (x_normB (x_norm (c_regL R7_10_l ?_)))
    refine qn hE (rc (pl P7_10 0) (st_add (z := 2) rfl rfl (by decide)) (rc (pl P7_10 1) (st_move rfl) rn)) ?_; clear hE a; intro a hE
    refine p_nil (x_norm ?_)
    refine (Eq.mpr (rounds_succ (n := 4)) ?_)
    refine c_reg R7_4_l ?_
    refine q0 p7_4_0 hE (st_lss (b := true) rfl rfl (by decide)) ?_; clear hE a; intro a hE
    refine p_nil (x_norm (wp_seq ?_))
    refine c_cond (t := true) hE rfl ?_
    refine wp_skip (x_norm (wp_seq (wp_block (c_reg R7_5_l ?_))))
    refine qn hE (rc (pl P7_5 0) (st_indexAddr (i := 2) Try.underlying97 tS99 rfl rfl (by decide) rfl) (rc (pl P7_5 1) (st_load1 tA99 rfl ((blk_cell B_gs 2).trans rfl)) (rc (pl P7_5 2) (st_assign rfl) rn))) ?_; clear hE a; intro a hE
    refine p_nil (x_norm (wp_seq ?_))
    rcases Decidable.em (came = -1) with hCM | hCM
    ·
     refine c_reg R7_6_l ?_
     refine qn hE (rc (pl P7_6 0) (st_move rfl) (rc (pl P7_6 1) (st_move rfl) rn)) ?_; clear hE a; intro a hE
     refine p_cons (s_callv (fst := []) (cap := []) (xs := [Operand.tmp 34]) (args := [Value.pointer (some ⟨g15, 0, none⟩)]) (pl P7_6 2) hE wn_none rfl rfl rfl Try.func73 cl73 (pass_0 cl fw ln nx hp sa da mv dn wr fa ins rk num A11 c12 l nd pf rt RV (nodeF da) came own least false g15 hmv hCM _ B_g15 (fun W' hk => own_told (own_keep O_q10 hk (fun k h h2 => Nb_q10_g15 (by rw [show k = g15 from h2] at h; exact h)))) hml) ?_)
     rintro e w23 ⟨rfl, B_g15', hk⟩
     replace B_g1 := kp_blk B_g1 hk n_g1_g15
     replace B_g4 := kp_blk B_g4 hk n_g4_g15
     replace B_g7 := kp_blk B_g7 hk n_g7_g15
     replace B_gs := kp_blk B_gs hk (Ne.symm n_g15_gs)
     replace O_q10 := own_keep O_q10 hk (fun k hk2 h2 => Nb_q10_g15 (by rw [show k = g15 from h2] at hk2; exact hk2))
     replace K_0 := K_0.then_ hk (fun k h => by rw [show k = g15 from h]; exact Or.inr z_0_g15)
     replace B_g15 := B_g15'
     refine ⟨_, rfl, ?_⟩; clear hE a; intro a hE
     refine q0 (pl P7_6 3) hE (st_assign rfl) ?_; clear hE a; intro a hE
     refine p_nil (x_norm (c_reg R7_7_l ?_))
     refine qn hE (rc (pl P7_7 0) (st_move rfl) (rc (pl P7_7 1) (st_neq (b := false) rfl rfl (by decide)) rn)) ?_; clear hE a; intro a hE
     refine p_nil (x_norm ?_)
     refine c_cond (t := false) hE rfl ?_
     refine wp_skip (x_norm (c_reg R7_9_l ?_))
     refine qn hE (rc (pl P7_9 0) (st_move rfl) (rc (pl P7_9 1) (st_nil rfl) (rc (pl P7_9 2) (st_fieldAddr Try.underlying96 rfl tS4 rfl rfl) (rc (pl P7_9 3) (st_load1 tA4 rfl ((blk_cell B_g15 157).trans rfl)) rn)))) ?_; clear hE a; intro a hE
     refine p_nil (x_norm ?_)
     refine c_cond (t := false) hE rfl ?_
     refine wp_skip (x_normB (x_norm (c_regL R7_10_l ?_)))
     refine qn hE (rc (pl P7_10 0) (st_add (z := 3) rfl rfl (by decide)) (rc (pl P7_10 1) (st_move rfl) rn)) ?_; clear hE a; intro a hE
     refine p_nil (x_norm ?_)
     refine (Eq.mpr (rounds_succ (n := 3)) ?_)
     refine c_reg R7_4_l ?_
     refine q0 p7_4_0 hE (st_lss (b := true) rfl rfl (by decide)) ?_; clear hE a; intro a hE
     refine p_nil (x_norm (wp_seq ?_))
     refine c_cond (t := true) hE rfl ?_
     refine wp_skip (x_norm (wp_seq (wp_block (c_reg R7_5_l ?_))))
     refine qn hE (rc (pl P7_5 0) (st_indexAddr (i := 3) Try.underlying97 tS99 rfl rfl (by decide) rfl) (rc (pl P7_5 1) (st_load1 tA99 rfl ((blk_cell B_gs 3).trans rfl)) (rc (pl P7_5 2) (st_assign rfl) rn))) ?_; clear hE a; intro a hE
     refine p_nil (x_norm (wp_seq (c_reg R7_6_l ?_)))
     refine qn hE (rc (pl P7_6 0) (st_move rfl) (rc (pl P7_6 1) (st_move rfl) rn)) ?_; clear hE a; intro a hE
     refine p_cons (s_callv (fst := []) (cap := []) (xs := [Operand.tmp 34]) (args := [Value.pointer (some ⟨g15, 0, none⟩)]) (pl P7_6 2) hE wn_none rfl rfl rfl Try.func74 cl74 (lost_0 cl fw ln nx hp sa da mv dn wr fa ins rk num A11 c12 l nd pf rt RV (nodeF da) came own least false g15 hmv _ v g er (hT.at K_0 (fun k h => by have := z_0_g15; exact .inr (by rw [show k = g15 from h]; exact this))) (.inl hCM) hCM B_g15 (fun W' hk => own_told (own_keep O_q10 hk (fun k h h2 => Nb_q10_g15 (by rw [show k = g15 from h2] at h; exact h)))) hml) ?_)
     rintro e w24 ⟨rfl, B_g15', hk⟩
     replace B_g1 := kp_blk B_g1 hk n_g1_g15
     replace B_g4 := kp_blk B_g4 hk n_g4_g15
     replace B_g7 := kp_blk B_g7 hk n_g7_g15
     replace B_gs := kp_blk B_gs hk (Ne.symm n_g15_gs)
     replace O_q10 := own_keep O_q10 hk (fun k hk2 h2 => Nb_q10_g15 (by rw [show k = g15 from h2] at hk2; exact hk2))
     replace K_0 := K_0.then_ hk (fun k h => by rw [show k = g15 from h]; exact Or.inr z_0_g15)
     replace B_g15 := B_g15'
     refine ⟨_, rfl, ?_⟩; clear hE a; intro a hE
     refine q0 (pl P7_6 3) hE (st_assign rfl) ?_; clear hE a; intro a hE
     refine p_nil (x_norm (c_reg R7_7_l ?_))
     refine qn hE (rc (pl P7_7 0) (st_move rfl) (rc (pl P7_7 1) (st_neq (b := false) rfl rfl (by decide)) rn)) ?_; clear hE a; intro a hE
     refine p_nil (x_norm ?_)
     refine c_cond (t := false) hE rfl ?_
     refine wp_skip (x_norm (c_reg R7_9_l ?_))
     refine qn hE (rc (pl P7_9 0) (st_move rfl) (rc (pl P7_9 1) (st_nil rfl) (rc (pl P7_9 2) (st_fieldAddr Try.underlying96 rfl tS4 rfl rfl) (rc (pl P7_9 3) (st_load1 tA4 rfl ((blk_cell B_g15 157).trans rfl)) rn)))) ?_; clear hE a; intro a hE
     refine p_nil (x_norm ?_)
     refine c_cond (t := false) hE rfl ?_
     refine wp_skip (x_normB (x_norm (c_regL R7_10_l ?_)))
     refine qn hE (rc (pl P7_10 0) (st_add (z := 4) rfl rfl (by decide)) (rc (pl P7_10 1) (st_move rfl) rn)) ?_; clear hE a; intro a hE
     refine p_nil (x_norm ?_)
     refine (Eq.mpr (rounds_succ (n := 2)) ?_)
     refine c_reg R7_4_l ?_
     refine q0 p7_4_0 hE (st_lss (b := true) rfl rfl (by decide)) ?_; clear hE a; intro a hE
     refine p_nil (x_norm (wp_seq ?_))
     refine c_cond (t := true) hE rfl ?_
     refine wp_skip (x_norm (wp_seq (wp_block (c_reg R7_5_l ?_))))
     refine qn hE (rc (pl P7_5 0) (st_indexAddr (i := 4) Try.underlying97 tS99 rfl rfl (by decide) rfl) (rc (pl P7_5 1) (st_load1 tA99 rfl ((blk_cell B_gs 4).trans rfl)) (rc (pl P7_5 2) (st_assign rfl) rn))) ?_; clear hE a; intro a hE
     refine p_nil (x_norm (wp_seq (c_reg R7_6_l ?_)))
     refine qn hE (rc (pl P7_6 0) (st_move rfl) (rc (pl P7_6 1) (st_move rfl) rn)) ?_; clear hE a; intro a hE
     refine p_cons (s_callv (fst := []) (cap := []) (xs := [Operand.tmp 34]) (args := [Value.pointer (some ⟨g15, 0, none⟩)]) (pl P7_6 2) hE wn_none rfl rfl rfl Try.func75 cl75 (hold_0 cl fw ln nx hp sa da mv dn wr fa ins rk num A11 c12 l nd pf rt RV (nodeF da) came own least false g15 hmv hCM _ B_g15 (fun W' hk => own_told (own_keep O_q10 hk (fun k h h2 => Nb_q10_g15 (by rw [show k = g15 from h2] at h; exact h)))) hml) ?_)
     rintro e w25 ⟨rfl, B_g15', hk⟩
     replace B_g1 := kp_blk B_g1 hk n_g1_g15
     replace B_g4 := kp_blk B_g4 hk n_g4_g15
     replace B_g7 := kp_blk B_g7 hk n_g7_g15
     replace B_gs := kp_blk B_gs hk (Ne.symm n_g15_gs)
     replace O_q10 := own_keep O_q10 hk (fun k hk2 h2 => Nb_q10_g15 (by rw [show k = g15 from h2] at hk2; exact hk2))
     replace K_0 := K_0.then_ hk (fun k h => by rw [show k = g15 from h]; exact Or.inr z_0_g15)
     replace B_g15 := B_g15'
     refine ⟨_, rfl, ?_⟩; clear hE a; intro a hE
     refine q0 (pl P7_6 3) hE (st_assign rfl) ?_; clear hE a; intro a hE
     refine p_nil (x_norm (c_reg R7_7_l ?_))
     refine qn hE (rc (pl P7_7 0) (st_move rfl) (rc (pl P7_7 1) (st_neq (b := false) rfl rfl (by decide)) rn)) ?_; clear hE a; intro a hE
     refine p_nil (x_norm ?_)
     refine c_cond (t := false) hE rfl ?_
     refine wp_skip (x_norm (c_reg R7_9_l ?_))
     refine qn hE (rc (pl P7_9 0) (st_move rfl) (rc (pl P7_9 1) (st_nil rfl) (rc (pl P7_9 2) (st_fieldAddr Try.underlying96 rfl tS4 rfl rfl) (rc (pl P7_9 3) (st_load1 tA4 rfl ((blk_cell B_g15 157).trans rfl)) rn)))) ?_; clear hE a; intro a hE
     refine p_nil (x_norm ?_)
     refine c_cond (t := false) hE rfl ?_
     refine wp_skip (x_normB (x_norm (c_regL R7_10_l ?_)))
     refine qn hE (rc (pl P7_10 0) (st_add (z := 5) rfl rfl (by decide)) (rc (pl P7_10 1) (st_move rfl) rn)) ?_; clear hE a; intro a hE
     refine p_nil (x_norm ?_)
     refine (Eq.mpr (rounds_succ (n := 1)) ?_)
     refine c_reg R7_4_l ?_
     refine q0 p7_4_0 hE (st_lss (b := true) rfl rfl (by decide)) ?_; clear hE a; intro a hE
     refine p_nil (x_norm (wp_seq ?_))
     refine c_cond (t := true) hE rfl ?_
     refine wp_skip (x_norm (wp_seq (wp_block (c_reg R7_5_l ?_))))
     refine qn hE (rc (pl P7_5 0) (st_indexAddr (i := 5) Try.underlying97 tS99 rfl rfl (by decide) rfl) (rc (pl P7_5 1) (st_load1 tA99 rfl ((blk_cell B_gs 5).trans rfl)) (rc (pl P7_5 2) (st_assign rfl) rn))) ?_; clear hE a; intro a hE
     refine p_nil (x_norm (wp_seq ?_))
     rcases Decidable.em ((nextF nd pf rt (v (nodeF da)) (nodeF da) came dn).2.2.2 = 0) with hE0 | hE0
     ·
      rcases Decidable.em ((nextF nd pf rt (v (nodeF da)) (nodeF da) came dn).1 = 4) with hK4 | hK4
      ·
       refine c_reg R7_6_l ?_
       refine qn hE (rc (pl P7_6 0) (st_move rfl) (rc (pl P7_6 1) (st_move rfl) rn)) ?_; clear hE a; intro a hE
       refine p_cons (s_callv (fst := []) (cap := []) (xs := [Operand.tmp 34]) (args := [Value.pointer (some ⟨g15, 0, none⟩)]) (pl P7_6 2) hE wn_none rfl rfl rfl Try.func76 cl76 (on_4 cl fw ln nx hp sa da mv dn wr fa ins rk num A11 c12 l nd pf rt RV (nodeF da) came own least false g15 hmv _ v g er (hT.at K_0 (fun k h => by have := z_0_g15; exact .inr (by rw [show k = g15 from h]; exact this))) hoO how hE0 hK4 B_g15 (fun W' hk => own_told (own_keep O_q10 hk (fun k h h2 => Nb_q10_g15 (by rw [show k = g15 from h2] at h; exact h)))) hml) ?_)
       rintro e w26 ⟨rfl, hk⟩
       replace B_g1 := kp_blk B_g1 hk n_g1_g15
       replace B_g4 := kp_blk B_g4 hk n_g4_g15
       replace B_g7 := kp_blk B_g7 hk n_g7_g15
       replace B_gs := kp_blk B_gs hk (Ne.symm n_g15_gs)
       replace O_q10 := own_keep O_q10 hk (fun k hk2 h2 => Nb_q10_g15 (by rw [show k = g15 from h2] at hk2; exact hk2))
       replace K_0 := K_0.then_ hk (fun k h => by rw [show k = g15 from h]; exact Or.inr z_0_g15)
       refine ⟨_, rfl, ?_⟩; clear hE a; intro a hE
       refine q0 (pl P7_6 3) hE (st_assign rfl) ?_; clear hE a; intro a hE
       refine p_nil (x_norm (c_reg R7_7_l ?_))
       refine qn hE (rc (pl P7_7 0) (st_move rfl) (rc (pl P7_7 1) (st_neq (b := true) rfl rfl (by decide)) rn)) ?_; clear hE a; intro a hE
       refine p_nil (x_norm ?_)
       refine c_cond (t := true) hE rfl ?_
       refine c_reg R7_8_l ?_
       refine qn hE (rc (pl P7_8 0) (st_build (xs := []) (vs := []) (cs := (([Value.int .i64 0, Value.int .i64 0, Value.int .i64 0, Value.int .i64 0, Value.int .i64 0, Value.int .i64 0, Value.int .i64 0] ++ b16 (fun _ => 0) ++ b16 (fun _ => 0) ++ [Value.bool false, Value.int .i64 0, Value.int .i64 0, Value.int .i64 0, Value.int .i64 0, Value.int .i64 0, Value.int .i64 0, Value.int .i64 0, Value.int .i64 0, Value.int .i64 0, Value.bool false, Value.bool false] ++ b16 (fun _ => 0) ++ [Value.slice none 0 0, Value.bool false, Value.bool false, Value.bool false, Value.int .i64 0, Value.int .i64 0, Value.int .i64 0, Value.slice none 0 0, Value.bool false])).toArray) rfl (by kernel_rfl)) (rc (pl P7_8 1) (st_move rfl) rn)) ?_; clear hE a; intro a hE
       refine p_cons (s_store (off := 0) (k := 76) (cs' := (([Value.int .i64 0, Value.int .i64 0, Value.int .i64 0, Value.int .i64 0, Value.int .i64 0, Value.int .i64 0, Value.int .i64 0] ++ b16 (fun _ => 0) ++ b16 (fun _ => 0) ++ [Value.bool false, Value.int .i64 0, Value.int .i64 0, Value.int .i64 0, Value.int .i64 0, Value.int .i64 0, Value.int .i64 0, Value.int .i64 0, Value.int .i64 0, Value.int .i64 0, Value.bool false, Value.bool false] ++ b16 (fun _ => 0) ++ [Value.slice none 0 0, Value.bool false, Value.bool false, Value.bool false, Value.int .i64 0, Value.int .i64 0, Value.int .i64 0, Value.slice none 0 0, Value.bool false])).toArray) (pl P7_8 2) hE wn_none tS43 rfl rfl rfl rfl B_g7 (Nat.le_of_ble_eq_true rfl) rfl ?_)
       intro w27 B_g7' hk
       replace B_g1 := kp_blk B_g1 hk n_g1_g7
       replace B_g4 := kp_blk B_g4 hk n_g4_g7
       replace B_gs := kp_blk B_gs hk (Ne.symm n_g7_gs)
       replace O_q10 := own_keep O_q10 hk (fun k hk2 h2 => Nb_q10_g7 (by rw [show k = g7 from h2] at hk2; exact hk2))
       replace K_0 := K_0.then_ hk (fun k h => by rw [show k = g7 from h]; exact Or.inr z_0_g7)
       replace B_g7 := B_g7'
       clear hk
       refine q0 (pl P7_8 3) hE (st_assign rfl) ?_; clear hE a; intro a hE
       refine p_nil (x_norm (wp_ret (x_ret (x_retB (x_ret (x_ret (x_retB (x_ret ?_))))))))
       refine ret_list (rs := [.cell 10 43, .tmp 11]) (vs := [Value.agg (([Value.int .i64 0, Value.int .i64 0, Value.int .i64 0, Value.int .i64 0, Value.int .i64 0, Value.int .i64 0, Value.int .i64 0] ++ b16 (fun _ => 0) ++ b16 (fun _ => 0) ++ [Value.bool false, Value.int .i64 0, Value.int .i64 0, Value.int .i64 0, Value.int .i64 0, Value.int .i64 0, Value.int .i64 0, Value.int .i64 0, Value.int .i64 0, Value.int .i64 0, Value.bool false, Value.bool false] ++ b16 (fun _ => 0) ++ [Value.slice none 0 0, Value.bool false, Value.bool false, Value.bool false, Value.int .i64 0, Value.int .i64 0, Value.int .i64 0, Value.slice none 0 0, Value.bool false])).toArray, Value.int .i64 8]) rfl hE (.cellN (us := ([Value.int .i64 0, Value.int .i64 0, Value.int .i64 0, Value.int .i64 0, Value.int .i64 0, Value.int .i64 0, Value.int .i64 0] ++ b16 (fun _ => 0) ++ b16 (fun _ => 0) ++ [Value.bool false, Value.int .i64 0, Value.int .i64 0, Value.int .i64 0, Value.int .i64 0, Value.int .i64 0, Value.int .i64 0, Value.int .i64 0, Value.int .i64 0, Value.int .i64 0, Value.bool false, Value.bool false] ++ b16 (fun _ => 0) ++ [Value.slice none 0 0, Value.bool false, Value.bool false, Value.bool false, Value.int .i64 0, Value.int .i64 0, Value.int .i64 0, Value.slice none 0 0, Value.bool false])) tA43 tS43 rfl B_g7 rfl (.tmp rfl .nil)) rfl ?_
       exact h0 8 (by unfold handF onF; rw [if_neg (by rw [hAO]; decide), if_neg (fun h => h hTG), if_neg hHE, if_pos hCM, if_pos hE0, if_pos hK4]) (by decide) _ K_0
      ·
       rcases Decidable.em ((nextF nd pf rt (v (nodeF da)) (nodeF da) came dn).1 = 3) with hK3 | hK3
       ·
        refine c_reg R7_6_l ?_
        refine qn hE (rc (pl P7_6 0) (st_move rfl) (rc (pl P7_6 1) (st_move rfl) rn)) ?_; clear hE a; intro a hE
        refine p_cons (s_callv (fst := []) (cap := []) (xs := [Operand.tmp 34]) (args := [Value.pointer (some ⟨g15, 0, none⟩)]) (pl P7_6 2) hE wn_none rfl rfl rfl Try.func76 cl76 (on_3 cl fw ln nx hp sa da mv dn wr fa ins rk num A11 c12 l nd pf rt RV (nodeF da) came own least false g15 hmv _ v g er (hT.at K_0 (fun k h => by have := z_0_g15; exact .inr (by rw [show k = g15 from h]; exact this))) hoO how hE0 hK3 B_g15 (fun W' hk => own_told (own_keep O_q10 hk (fun k h h2 => Nb_q10_g15 (by rw [show k = g15 from h2] at h; exact h)))) hml) ?_)
        rintro e w28 ⟨rfl, B_g15', hk⟩
        replace B_g1 := kp_blk B_g1 hk n_g1_g15
        replace B_g4 := kp_blk B_g4 hk n_g4_g15
        replace B_g7 := kp_blk B_g7 hk n_g7_g15
        replace B_gs := kp_blk B_gs hk (Ne.symm n_g15_gs)
        replace O_q10 := own_keep O_q10 hk (fun k hk2 h2 => Nb_q10_g15 (by rw [show k = g15 from h2] at hk2; exact hk2))
        replace K_0 := K_0.then_ hk (fun k h => by rw [show k = g15 from h]; exact Or.inr z_0_g15)
        replace B_g15 := B_g15'
        refine ⟨_, rfl, ?_⟩; clear hE a; intro a hE
        refine q0 (pl P7_6 3) hE (st_assign rfl) ?_; clear hE a; intro a hE
        refine p_nil (x_norm (c_reg R7_7_l ?_))
        refine qn hE (rc (pl P7_7 0) (st_move rfl) (rc (pl P7_7 1) (st_neq (b := false) rfl rfl (by decide)) rn)) ?_; clear hE a; intro a hE
        refine p_nil (x_norm ?_)
        refine c_cond (t := false) hE rfl ?_
        refine wp_skip (x_norm (c_reg R7_9_l ?_))
        refine qn hE (rc (pl P7_9 0) (st_move rfl) (rc (pl P7_9 1) (st_nil rfl) (rc (pl P7_9 2) (st_fieldAddr Try.underlying96 rfl tS4 rfl rfl) (rc (pl P7_9 3) (st_load1 tA4 rfl ((blk_cell B_g15 157).trans rfl)) rn)))) ?_; clear hE a; intro a hE
        refine p_nil (x_norm ?_)
        refine c_cond (t := true) hE rfl ?_
        refine wp_exit (x_out rfl (x_exit (x_exit (x_in (x_norm (c_reg R7_11_l ?_))))))
        refine qn hE (rc (pl P7_11 0) (st_move rfl) (rc (pl P7_11 1) (st_nil rfl) (rc (pl P7_11 2) (st_fieldAddr Try.underlying96 rfl tS43 rfl rfl) (rc (pl P7_11 3) (st_loadN (off := 81) (k := 76) (vs := (RA 3 ((nextF nd pf rt (v (nodeF da)) (nodeF da) came dn).2.1) cl fw ln nx hp sa da true mv dn wr true ins own num A11 l.length c12 false)) tA43 tS43 rfl B_g15 rfl rfl) rn)))) ?_; clear hE a; intro a hE
        refine p_cons (s_store (off := 0) (k := 76) (cs' := (RA 3 ((nextF nd pf rt (v (nodeF da)) (nodeF da) came dn).2.1) cl fw ln nx hp sa da true mv dn wr true ins own num A11 l.length c12 false).toArray) (pl P7_11 4) hE wn_none tS43 rfl rfl rfl (by exact ones_mv (a := ([Value.int .i64 3, Value.int .i64 ((nextF nd pf rt (v (nodeF da)) (nodeF da) came dn).2.1), Value.int .i64 cl, Value.int .i64 fw, Value.int .i64 ln, Value.int .i64 nx, Value.int .i64 hp] ++ b16 sa ++ b16 da ++ [Value.bool true])) (b := [Value.bool dn, Value.bool wr, Value.bool true, Value.int .i64 ins, Value.int .i64 own, Value.int .i64 num, Value.slice A11 l.length c12, Value.bool false]) hmv rfl rfl) B_g7 (Nat.le_of_ble_eq_true rfl) rfl ?_)
        intro w29 B_g7' hk
        replace B_g1 := kp_blk B_g1 hk n_g1_g7
        replace B_g4 := kp_blk B_g4 hk n_g4_g7
        replace B_g15 := kp_blk B_g15 hk (Ne.symm n_g7_g15)
        replace B_gs := kp_blk B_gs hk (Ne.symm n_g7_gs)
        replace O_q10 := own_keep O_q10 hk (fun k hk2 h2 => Nb_q10_g7 (by rw [show k = g7 from h2] at hk2; exact hk2))
        replace K_0 := K_0.then_ hk (fun k h => by rw [show k = g7 from h]; exact Or.inr z_0_g7)
        replace B_g7 := B_g7'
        clear hk
        refine q0 (pl P7_11 5) hE (st_assign rfl) ?_; clear hE a; intro a hE
        refine p_nil (x_norm (wp_ret ?_))
        refine ret_list (rs := [.cell 10 43, .tmp 11]) (vs := [Value.agg (RA 3 ((nextF nd pf rt (v (nodeF da)) (nodeF da) came dn).2.1) cl fw ln nx hp sa da true mv dn wr true ins own num A11 l.length c12 false).toArray, Value.int .i64 0]) rfl hE (.cellN (us := (RA 3 ((nextF nd pf rt (v (nodeF da)) (nodeF da) came dn).2.1) cl fw ln nx hp sa da true mv dn wr true ins own num A11 l.length c12 false)) tA43 tS43 rfl B_g7 rfl (.tmp rfl .nil)) rfl ?_
        exact h1 3 ((nextF nd pf rt (v (nodeF da)) (nodeF da) came dn).2.1) false hp dn wr true own (by unfold handF onF; rw [if_neg (by rw [hAO]; decide), if_neg (fun h => h hTG), if_neg hHE, if_pos hCM, if_pos hE0, if_neg hK4, if_pos hK3]) _ _ _ O_q10 K_0
       ·
        refine c_reg R7_6_l ?_
        refine qn hE (rc (pl P7_6 0) (st_move rfl) (rc (pl P7_6 1) (st_move rfl) rn)) ?_; clear hE a; intro a hE
        refine p_cons (s_callv (fst := []) (cap := []) (xs := [Operand.tmp 34]) (args := [Value.pointer (some ⟨g15, 0, none⟩)]) (pl P7_6 2) hE wn_none rfl rfl rfl Try.func76 cl76 (on_o cl fw ln nx hp sa da mv dn wr fa ins rk num A11 c12 l nd pf rt RV (nodeF da) came own least false g15 hmv _ v g er (hT.at K_0 (fun k h => by have := z_0_g15; exact .inr (by rw [show k = g15 from h]; exact this))) hoO how hE0 hK4 hK3 B_g15 (fun W' hk => own_told (own_keep O_q10 hk (fun k h h2 => Nb_q10_g15 (by rw [show k = g15 from h2] at h; exact h)))) hml) ?_)
        rintro e w30 ⟨rfl, B_g15', hk⟩
        replace B_g1 := kp_blk B_g1 hk n_g1_g15
        replace B_g4 := kp_blk B_g4 hk n_g4_g15
        replace B_g7 := kp_blk B_g7 hk n_g7_g15
        replace B_gs := kp_blk B_gs hk (Ne.symm n_g15_gs)
        replace O_q10 := own_keep O_q10 hk (fun k hk2 h2 => Nb_q10_g15 (by rw [show k = g15 from h2] at hk2; exact hk2))
        replace K_0 := K_0.then_ hk (fun k h => by rw [show k = g15 from h]; exact Or.inr z_0_g15)
        replace B_g15 := B_g15'
        refine ⟨_, rfl, ?_⟩; clear hE a; intro a hE
        refine q0 (pl P7_6 3) hE (st_assign rfl) ?_; clear hE a; intro a hE
        refine p_nil (x_norm (c_reg R7_7_l ?_))
        refine qn hE (rc (pl P7_7 0) (st_move rfl) (rc (pl P7_7 1) (st_neq (b := false) rfl rfl (by decide)) rn)) ?_; clear hE a; intro a hE
        refine p_nil (x_norm ?_)
        refine c_cond (t := false) hE rfl ?_
        refine wp_skip (x_norm (c_reg R7_9_l ?_))
        refine qn hE (rc (pl P7_9 0) (st_move rfl) (rc (pl P7_9 1) (st_nil rfl) (rc (pl P7_9 2) (st_fieldAddr Try.underlying96 rfl tS4 rfl rfl) (rc (pl P7_9 3) (st_load1 tA4 rfl ((blk_cell B_g15 157).trans rfl)) rn)))) ?_; clear hE a; intro a hE
        refine p_nil (x_norm ?_)
        refine c_cond (t := true) hE rfl ?_
        refine wp_exit (x_out rfl (x_exit (x_exit (x_in (x_norm (c_reg R7_11_l ?_))))))
        refine qn hE (rc (pl P7_11 0) (st_move rfl) (rc (pl P7_11 1) (st_nil rfl) (rc (pl P7_11 2) (st_fieldAddr Try.underlying96 rfl tS43 rfl rfl) (rc (pl P7_11 3) (st_loadN (off := 81) (k := 76) (vs := (RA ((nextF nd pf rt (v (nodeF da)) (nodeF da) came dn).1) ((nextF nd pf rt (v (nodeF da)) (nodeF da) came dn).2.1) cl fw ln nx hp sa da true mv ((nextF nd pf rt (v (nodeF da)) (nodeF da) came dn).2.2.1) wr fa ins own num A11 l.length c12 false)) tA43 tS43 rfl B_g15 rfl rfl) rn)))) ?_; clear hE a; intro a hE
        refine p_cons (s_store (off := 0) (k := 76) (cs' := (RA ((nextF nd pf rt (v (nodeF da)) (nodeF da) came dn).1) ((nextF nd pf rt (v (nodeF da)) (nodeF da) came dn).2.1) cl fw ln nx hp sa da true mv ((nextF nd pf rt (v (nodeF da)) (nodeF da) came dn).2.2.1) wr fa ins own num A11 l.length c12 false).toArray) (pl P7_11 4) hE wn_none tS43 rfl rfl rfl (by exact ones_mv (a := ([Value.int .i64 ((nextF nd pf rt (v (nodeF da)) (nodeF da) came dn).1), Value.int .i64 ((nextF nd pf rt (v (nodeF da)) (nodeF da) came dn).2.1), Value.int .i64 cl, Value.int .i64 fw, Value.int .i64 ln, Value.int .i64 nx, Value.int .i64 hp] ++ b16 sa ++ b16 da ++ [Value.bool true])) (b := [Value.bool ((nextF nd pf rt (v (nodeF da)) (nodeF da) came dn).2.2.1), Value.bool wr, Value.bool fa, Value.int .i64 ins, Value.int .i64 own, Value.int .i64 num, Value.slice A11 l.length c12, Value.bool false]) hmv rfl rfl) B_g7 (Nat.le_of_ble_eq_true rfl) rfl ?_)
        intro w31 B_g7' hk
        replace B_g1 := kp_blk B_g1 hk n_g1_g7
        replace B_g4 := kp_blk B_g4 hk n_g4_g7
        replace B_g15 := kp_blk B_g15 hk (Ne.symm n_g7_g15)
        replace B_gs := kp_blk B_gs hk (Ne.symm n_g7_gs)
        replace O_q10 := own_keep O_q10 hk (fun k hk2 h2 => Nb_q10_g7 (by rw [show k = g7 from h2] at hk2; exact hk2))
        replace K_0 := K_0.then_ hk (fun k h => by rw [show k = g7 from h]; exact Or.inr z_0_g7)
        replace B_g7 := B_g7'
        clear hk
        refine q0 (pl P7_11 5) hE (st_assign rfl) ?_; clear hE a; intro a hE
        refine p_nil (x_norm (wp_ret ?_))
        refine ret_list (rs := [.cell 10 43, .tmp 11]) (vs := [Value.agg (RA ((nextF nd pf rt (v (nodeF da)) (nodeF da) came dn).1) ((nextF nd pf rt (v (nodeF da)) (nodeF da) came dn).2.1) cl fw ln nx hp sa da true mv ((nextF nd pf rt (v (nodeF da)) (nodeF da) came dn).2.2.1) wr fa ins own num A11 l.length c12 false).toArray, Value.int .i64 0]) rfl hE (.cellN (us := (RA ((nextF nd pf rt (v (nodeF da)) (nodeF da) came dn).1) ((nextF nd pf rt (v (nodeF da)) (nodeF da) came dn).2.1) cl fw ln nx hp sa da true mv ((nextF nd pf rt (v (nodeF da)) (nodeF da) came dn).2.2.1) wr fa ins own num A11 l.length c12 false)) tA43 tS43 rfl B_g7 rfl (.tmp rfl .nil)) rfl ?_
        exact h1 ((nextF nd pf rt (v (nodeF da)) (nodeF da) came dn).1) ((nextF nd pf rt (v (nodeF da)) (nodeF da) came dn).2.1) false hp ((nextF nd pf rt (v (nodeF da)) (nodeF da) came dn).2.2.1) wr fa own (by unfold handF onF; rw [if_neg (by rw [hAO]; decide), if_neg (fun h => h hTG), if_neg hHE, if_pos hCM, if_pos hE0, if_neg hK4, if_neg hK3]) _ _ _ O_q10 K_0
     ·
      refine c_reg R7_6_l ?_
      refine qn hE (rc (pl P7_6 0) (st_move rfl) (rc (pl P7_6 1) (st_move rfl) rn)) ?_; clear hE a; intro a hE
      refine p_cons (s_callv (fst := []) (cap := []) (xs := [Operand.tmp 34]) (args := [Value.pointer (some ⟨g15, 0, none⟩)]) (pl P7_6 2) hE wn_none rfl rfl rfl Try.func76 cl76 (on_e cl fw ln nx hp sa da mv dn wr fa ins rk num A11 c12 l nd pf rt RV (nodeF da) came own least false g15 hmv _ v g er (hT.at K_0 (fun k h => by have := z_0_g15; exact .inr (by rw [show k = g15 from h]; exact this))) hoO how hE0 B_g15 (fun W' hk => own_told (own_keep O_q10 hk (fun k h h2 => Nb_q10_g15 (by rw [show k = g15 from h2] at h; exact h)))) hml) ?_)
      rintro e w32 ⟨rfl, hk⟩
      replace B_g1 := kp_blk B_g1 hk n_g1_g15
      replace B_g4 := kp_blk B_g4 hk n_g4_g15
      replace B_g7 := kp_blk B_g7 hk n_g7_g15
      replace B_gs := kp_blk B_gs hk (Ne.symm n_g15_gs)
      replace O_q10 := own_keep O_q10 hk (fun k hk2 h2 => Nb_q10_g15 (by rw [show k = g15 from h2] at hk2; exact hk2))
      replace K_0 := K_0.then_ hk (fun k h => by rw [show k = g15 from h]; exact Or.inr z_0_g15)
      refine ⟨_, rfl, ?_⟩; clear hE a; intro a hE
      refine q0 (pl P7_6 3) hE (st_assign rfl) ?_; clear hE a; intro a hE
      refine p_nil (x_norm (c_reg R7_7_l ?_))
      refine qn hE (rc (pl P7_7 0) (st_move rfl) (rc (pl P7_7 1) (st_neq (b := true) rfl rfl (by rw [decide_eq_false hE0]; rfl)) rn)) ?_; clear hE a; intro a hE
      refine p_nil (x_norm ?_)
      refine c_cond (t := true) hE rfl ?_
      refine c_reg R7_8_l ?_
      refine qn hE (rc (pl P7_8 0) (st_build (xs := []) (vs := []) (cs := (([Value.int .i64 0, Value.int .i64 0, Value.int .i64 0, Value.int .i64 0, Value.int .i64 0, Value.int .i64 0, Value.int .i64 0] ++ b16 (fun _ => 0) ++ b16 (fun _ => 0) ++ [Value.bool false, Value.int .i64 0, Value.int .i64 0, Value.int .i64 0, Value.int .i64 0, Value.int .i64 0, Value.int .i64 0, Value.int .i64 0, Value.int .i64 0, Value.int .i64 0, Value.bool false, Value.bool false] ++ b16 (fun _ => 0) ++ [Value.slice none 0 0, Value.bool false, Value.bool false, Value.bool false, Value.int .i64 0, Value.int .i64 0, Value.int .i64 0, Value.slice none 0 0, Value.bool false])).toArray) rfl (by kernel_rfl)) (rc (pl P7_8 1) (st_move rfl) rn)) ?_; clear hE a; intro a hE
      refine p_cons (s_store (off := 0) (k := 76) (cs' := (([Value.int .i64 0, Value.int .i64 0, Value.int .i64 0, Value.int .i64 0, Value.int .i64 0, Value.int .i64 0, Value.int .i64 0] ++ b16 (fun _ => 0) ++ b16 (fun _ => 0) ++ [Value.bool false, Value.int .i64 0, Value.int .i64 0, Value.int .i64 0, Value.int .i64 0, Value.int .i64 0, Value.int .i64 0, Value.int .i64 0, Value.int .i64 0, Value.int .i64 0, Value.bool false, Value.bool false] ++ b16 (fun _ => 0) ++ [Value.slice none 0 0, Value.bool false, Value.bool false, Value.bool false, Value.int .i64 0, Value.int .i64 0, Value.int .i64 0, Value.slice none 0 0, Value.bool false])).toArray) (pl P7_8 2) hE wn_none tS43 rfl rfl rfl rfl B_g7 (Nat.le_of_ble_eq_true rfl) rfl ?_)
      intro w33 B_g7' hk
      replace B_g1 := kp_blk B_g1 hk n_g1_g7
      replace B_g4 := kp_blk B_g4 hk n_g4_g7
      replace B_gs := kp_blk B_gs hk (Ne.symm n_g7_gs)
      replace O_q10 := own_keep O_q10 hk (fun k hk2 h2 => Nb_q10_g7 (by rw [show k = g7 from h2] at hk2; exact hk2))
      replace K_0 := K_0.then_ hk (fun k h => by rw [show k = g7 from h]; exact Or.inr z_0_g7)
      replace B_g7 := B_g7'
      clear hk
      refine q0 (pl P7_8 3) hE (st_assign rfl) ?_; clear hE a; intro a hE
      refine p_nil (x_norm (wp_ret (x_ret (x_retB (x_ret (x_ret (x_retB (x_ret ?_))))))))
      refine ret_list (rs := [.cell 10 43, .tmp 11]) (vs := [Value.agg (([Value.int .i64 0, Value.int .i64 0, Value.int .i64 0, Value.int .i64 0, Value.int .i64 0, Value.int .i64 0, Value.int .i64 0] ++ b16 (fun _ => 0) ++ b16 (fun _ => 0) ++ [Value.bool false, Value.int .i64 0, Value.int .i64 0, Value.int .i64 0, Value.int .i64 0, Value.int .i64 0, Value.int .i64 0, Value.int .i64 0, Value.int .i64 0, Value.int .i64 0, Value.bool false, Value.bool false] ++ b16 (fun _ => 0) ++ [Value.slice none 0 0, Value.bool false, Value.bool false, Value.bool false, Value.int .i64 0, Value.int .i64 0, Value.int .i64 0, Value.slice none 0 0, Value.bool false])).toArray, Value.int .i64 ((nextF nd pf rt (v (nodeF da)) (nodeF da) came dn).2.2.2)]) rfl hE (.cellN (us := ([Value.int .i64 0, Value.int .i64 0, Value.int .i64 0, Value.int .i64 0, Value.int .i64 0, Value.int .i64 0, Value.int .i64 0] ++ b16 (fun _ => 0) ++ b16 (fun _ => 0) ++ [Value.bool false, Value.int .i64 0, Value.int .i64 0, Value.int .i64 0, Value.int .i64 0, Value.int .i64 0, Value.int .i64 0, Value.int .i64 0, Value.int .i64 0, Value.int .i64 0, Value.bool false, Value.bool false] ++ b16 (fun _ => 0) ++ [Value.slice none 0 0, Value.bool false, Value.bool false, Value.bool false, Value.int .i64 0, Value.int .i64 0, Value.int .i64 0, Value.slice none 0 0, Value.bool false])) tA43 tS43 rfl B_g7 rfl (.tmp rfl .nil)) rfl ?_
      exact h0 ((nextF nd pf rt (v (nodeF da)) (nodeF da) came dn).2.2.2) (by unfold handF onF; rw [if_neg (by rw [hAO]; decide), if_neg (fun h => h hTG), if_neg hHE, if_pos hCM, if_neg hE0]) hE0 _ K_0
    ·
     have hc0 : 0 ≤ came := by omega
     rcases Decidable.em (hp < 2) with hLO | hLO
     ·
      refine c_reg R7_6_l ?_
      refine qn hE (rc (pl P7_6 0) (st_move rfl) (rc (pl P7_6 1) (st_move rfl) rn)) ?_; clear hE a; intro a hE
      refine p_cons (s_callv (fst := []) (cap := []) (xs := [Operand.tmp 34]) (args := [Value.pointer (some ⟨g15, 0, none⟩)]) (pl P7_6 2) hE wn_none rfl rfl rfl Try.func73 cl73 (pass_low cl fw ln nx hp sa da mv dn wr fa ins rk num A11 c12 l nd pf rt RV (nodeF da) came own least false g15 hmv hCM hoF hLO _ B_g15 (fun W' hk => own_told (own_keep O_q10 hk (fun k h h2 => Nb_q10_g15 (by rw [show k = g15 from h2] at h; exact h)))) hml) ?_)
      rintro e w34 ⟨rfl, B_g15', hk⟩
      replace B_g1 := kp_blk B_g1 hk n_g1_g15
      replace B_g4 := kp_blk B_g4 hk n_g4_g15
      replace B_g7 := kp_blk B_g7 hk n_g7_g15
      replace B_gs := kp_blk B_gs hk (Ne.symm n_g15_gs)
      replace O_q10 := own_keep O_q10 hk (fun k hk2 h2 => Nb_q10_g15 (by rw [show k = g15 from h2] at hk2; exact hk2))
      replace K_0 := K_0.then_ hk (fun k h => by rw [show k = g15 from h]; exact Or.inr z_0_g15)
      replace B_g15 := B_g15'
      refine ⟨_, rfl, ?_⟩; clear hE a; intro a hE
      refine q0 (pl P7_6 3) hE (st_assign rfl) ?_; clear hE a; intro a hE
      refine p_nil (x_norm (c_reg R7_7_l ?_))
      refine qn hE (rc (pl P7_7 0) (st_move rfl) (rc (pl P7_7 1) (st_neq (b := true) rfl rfl (by decide)) rn)) ?_; clear hE a; intro a hE
      refine p_nil (x_norm ?_)
      refine c_cond (t := true) hE rfl ?_
      refine c_reg R7_8_l ?_
      refine qn hE (rc (pl P7_8 0) (st_build (xs := []) (vs := []) (cs := (([Value.int .i64 0, Value.int .i64 0, Value.int .i64 0, Value.int .i64 0, Value.int .i64 0, Value.int .i64 0, Value.int .i64 0] ++ b16 (fun _ => 0) ++ b16 (fun _ => 0) ++ [Value.bool false, Value.int .i64 0, Value.int .i64 0, Value.int .i64 0, Value.int .i64 0, Value.int .i64 0, Value.int .i64 0, Value.int .i64 0, Value.int .i64 0, Value.int .i64 0, Value.bool false, Value.bool false] ++ b16 (fun _ => 0) ++ [Value.slice none 0 0, Value.bool false, Value.bool false, Value.bool false, Value.int .i64 0, Value.int .i64 0, Value.int .i64 0, Value.slice none 0 0, Value.bool false])).toArray) rfl (by kernel_rfl)) (rc (pl P7_8 1) (st_move rfl) rn)) ?_; clear hE a; intro a hE
      refine p_cons (s_store (off := 0) (k := 76) (cs' := (([Value.int .i64 0, Value.int .i64 0, Value.int .i64 0, Value.int .i64 0, Value.int .i64 0, Value.int .i64 0, Value.int .i64 0] ++ b16 (fun _ => 0) ++ b16 (fun _ => 0) ++ [Value.bool false, Value.int .i64 0, Value.int .i64 0, Value.int .i64 0, Value.int .i64 0, Value.int .i64 0, Value.int .i64 0, Value.int .i64 0, Value.int .i64 0, Value.int .i64 0, Value.bool false, Value.bool false] ++ b16 (fun _ => 0) ++ [Value.slice none 0 0, Value.bool false, Value.bool false, Value.bool false, Value.int .i64 0, Value.int .i64 0, Value.int .i64 0, Value.slice none 0 0, Value.bool false])).toArray) (pl P7_8 2) hE wn_none tS43 rfl rfl rfl rfl B_g7 (Nat.le_of_ble_eq_true rfl) rfl ?_)
      intro w35 B_g7' hk
      replace B_g1 := kp_blk B_g1 hk n_g1_g7
      replace B_g4 := kp_blk B_g4 hk n_g4_g7
      replace B_g15 := kp_blk B_g15 hk (Ne.symm n_g7_g15)
      replace B_gs := kp_blk B_gs hk (Ne.symm n_g7_gs)
      replace O_q10 := own_keep O_q10 hk (fun k hk2 h2 => Nb_q10_g7 (by rw [show k = g7 from h2] at hk2; exact hk2))
      replace K_0 := K_0.then_ hk (fun k h => by rw [show k = g7 from h]; exact Or.inr z_0_g7)
      replace B_g7 := B_g7'
      clear hk
      refine q0 (pl P7_8 3) hE (st_assign rfl) ?_; clear hE a; intro a hE
      refine p_nil (x_norm (wp_ret (x_ret (x_retB (x_ret (x_ret (x_retB (x_ret ?_))))))))
      refine ret_list (rs := [.cell 10 43, .tmp 11]) (vs := [Value.agg (([Value.int .i64 0, Value.int .i64 0, Value.int .i64 0, Value.int .i64 0, Value.int .i64 0, Value.int .i64 0, Value.int .i64 0] ++ b16 (fun _ => 0) ++ b16 (fun _ => 0) ++ [Value.bool false, Value.int .i64 0, Value.int .i64 0, Value.int .i64 0, Value.int .i64 0, Value.int .i64 0, Value.int .i64 0, Value.int .i64 0, Value.int .i64 0, Value.int .i64 0, Value.bool false, Value.bool false] ++ b16 (fun _ => 0) ++ [Value.slice none 0 0, Value.bool false, Value.bool false, Value.bool false, Value.int .i64 0, Value.int .i64 0, Value.int .i64 0, Value.slice none 0 0, Value.bool false])).toArray, Value.int .i64 12]) rfl hE (.cellN (us := ([Value.int .i64 0, Value.int .i64 0, Value.int .i64 0, Value.int .i64 0, Value.int .i64 0, Value.int .i64 0, Value.int .i64 0] ++ b16 (fun _ => 0) ++ b16 (fun _ => 0) ++ [Value.bool false, Value.int .i64 0, Value.int .i64 0, Value.int .i64 0, Value.int .i64 0, Value.int .i64 0, Value.int .i64 0, Value.int .i64 0, Value.int .i64 0, Value.int .i64 0, Value.bool false, Value.bool false] ++ b16 (fun _ => 0) ++ [Value.slice none 0 0, Value.bool false, Value.bool false, Value.bool false, Value.int .i64 0, Value.int .i64 0, Value.int .i64 0, Value.slice none 0 0, Value.bool false])) tA43 tS43 rfl B_g7 rfl (.tmp rfl .nil)) rfl ?_
      exact h0 12 (by unfold handF; rw [if_neg (by rw [hAO]; decide), if_neg (fun h => h hTG), if_neg hHE, if_neg hCM, if_pos hLO]) (by decide) _ K_0
     ·
      refine c_reg R7_6_l ?_
      refine qn hE (rc (pl P7_6 0) (st_move rfl) (rc (pl P7_6 1) (st_move rfl) rn)) ?_; clear hE a; intro a hE
      refine p_cons (s_callv (fst := []) (cap := []) (xs := [Operand.tmp 34]) (args := [Value.pointer (some ⟨g15, 0, none⟩)]) (pl P7_6 2) hE wn_none rfl rfl rfl Try.func73 cl73 (pass_ok cl fw ln nx hp sa da mv dn wr fa ins rk num A11 c12 l nd pf rt RV (nodeF da) came own least false g15 hmv hCM hoF hLO _ B_g15 (fun W' hk => own_told (own_keep O_q10 hk (fun k h h2 => Nb_q10_g15 (by rw [show k = g15 from h2] at h; exact h)))) hml) ?_)
      rintro e w36 ⟨rfl, B_g15', hk⟩
      replace B_g1 := kp_blk B_g1 hk n_g1_g15
      replace B_g4 := kp_blk B_g4 hk n_g4_g15
      replace B_g7 := kp_blk B_g7 hk n_g7_g15
      replace B_gs := kp_blk B_gs hk (Ne.symm n_g15_gs)
      replace O_q10 := own_keep O_q10 hk (fun k hk2 h2 => Nb_q10_g15 (by rw [show k = g15 from h2] at hk2; exact hk2))
      replace K_0 := K_0.then_ hk (fun k h => by rw [show k = g15 from h]; exact Or.inr z_0_g15)
      replace B_g15 := B_g15'
      refine ⟨_, rfl, ?_⟩; clear hE a; intro a hE
      refine q0 (pl P7_6 3) hE (st_assign rfl) ?_; clear hE a; intro a hE
      refine p_nil (x_norm (c_reg R7_7_l ?_))
      refine qn hE (rc (pl P7_7 0) (st_move rfl) (rc (pl P7_7 1) (st_neq (b := false) rfl rfl (by decide)) rn)) ?_; clear hE a; intro a hE
      refine p_nil (x_norm ?_)
      refine c_cond (t := false) hE rfl ?_
      refine wp_skip (x_norm (c_reg R7_9_l ?_))
      refine qn hE (rc (pl P7_9 0) (st_move rfl) (rc (pl P7_9 1) (st_nil rfl) (rc (pl P7_9 2) (st_fieldAddr Try.underlying96 rfl tS4 rfl rfl) (rc (pl P7_9 3) (st_load1 tA4 rfl ((blk_cell B_g15 157).trans rfl)) rn)))) ?_; clear hE a; intro a hE
      refine p_nil (x_norm ?_)
      refine c_cond (t := false) hE rfl ?_
      refine wp_skip (x_normB (x_norm (c_regL R7_10_l ?_)))
      refine qn hE (rc (pl P7_10 0) (st_add (z := 3) rfl rfl (by decide)) (rc (pl P7_10 1) (st_move rfl) rn)) ?_; clear hE a; intro a hE
      refine p_nil (x_norm ?_)
      refine (Eq.mpr (rounds_succ (n := 3)) ?_)
      refine c_reg R7_4_l ?_
      refine q0 p7_4_0 hE (st_lss (b := true) rfl rfl (by decide)) ?_; clear hE a; intro a hE
      refine p_nil (x_norm (wp_seq ?_))
      refine c_cond (t := true) hE rfl ?_
      refine wp_skip (x_norm (wp_seq (wp_block (c_reg R7_5_l ?_))))
      refine qn hE (rc (pl P7_5 0) (st_indexAddr (i := 3) Try.underlying97 tS99 rfl rfl (by decide) rfl) (rc (pl P7_5 1) (st_load1 tA99 rfl ((blk_cell B_gs 3).trans rfl)) (rc (pl P7_5 2) (st_assign rfl) rn))) ?_; clear hE a; intro a hE
      refine p_nil (x_norm (wp_seq ?_))
      rcases Decidable.em ((fa && decide (v (nodeF da) = came)) = true) with hLS | hLS
      ·
       refine c_reg R7_6_l ?_
       refine qn hE (rc (pl P7_6 0) (st_move rfl) (rc (pl P7_6 1) (st_move rfl) rn)) ?_; clear hE a; intro a hE
       refine p_cons (s_callv (fst := []) (cap := []) (xs := [Operand.tmp 34]) (args := [Value.pointer (some ⟨g15, 0, none⟩)]) (pl P7_6 2) hE wn_none rfl rfl rfl Try.func74 cl74 (lost_l cl fw ln nx (hp - 1) sa da mv dn wr fa ins rk num A11 c12 l nd pf rt RV (nodeF da) came own least false g15 hmv _ v g er (hT.at K_0 (fun k h => by have := z_0_g15; exact .inr (by rw [show k = g15 from h]; exact this))) hCM hc0 hLS B_g15 (fun W' hk => own_told (own_keep O_q10 hk (fun k h h2 => Nb_q10_g15 (by rw [show k = g15 from h2] at h; exact h)))) hml) ?_)
       rintro e w37 ⟨rfl, B_g15', hk⟩
       replace B_g1 := kp_blk B_g1 hk n_g1_g15
       replace B_g4 := kp_blk B_g4 hk n_g4_g15
       replace B_g7 := kp_blk B_g7 hk n_g7_g15
       replace B_gs := kp_blk B_gs hk (Ne.symm n_g15_gs)
       replace O_q10 := own_keep O_q10 hk (fun k hk2 h2 => Nb_q10_g15 (by rw [show k = g15 from h2] at hk2; exact hk2))
       replace K_0 := K_0.then_ hk (fun k h => by rw [show k = g15 from h]; exact Or.inr z_0_g15)
       replace B_g15 := B_g15'
       refine ⟨_, rfl, ?_⟩; clear hE a; intro a hE
       refine q0 (pl P7_6 3) hE (st_assign rfl) ?_; clear hE a; intro a hE
       refine p_nil (x_norm (c_reg R7_7_l ?_))
       refine qn hE (rc (pl P7_7 0) (st_move rfl) (rc (pl P7_7 1) (st_neq (b := false) rfl rfl (by decide)) rn)) ?_; clear hE a; intro a hE
       refine p_nil (x_norm ?_)
       refine c_cond (t := false) hE rfl ?_
       refine wp_skip (x_norm (c_reg R7_9_l ?_))
       refine qn hE (rc (pl P7_9 0) (st_move rfl) (rc (pl P7_9 1) (st_nil rfl) (rc (pl P7_9 2) (st_fieldAddr Try.underlying96 rfl tS4 rfl rfl) (rc (pl P7_9 3) (st_load1 tA4 rfl ((blk_cell B_g15 157).trans rfl)) rn)))) ?_; clear hE a; intro a hE
       refine p_nil (x_norm ?_)
       refine c_cond (t := true) hE rfl ?_
       refine wp_exit (x_out rfl (x_exit (x_exit (x_in (x_norm (c_reg R7_11_l ?_))))))
       refine qn hE (rc (pl P7_11 0) (st_move rfl) (rc (pl P7_11 1) (st_nil rfl) (rc (pl P7_11 2) (st_fieldAddr Try.underlying96 rfl tS43 rfl rfl) (rc (pl P7_11 3) (st_loadN (off := 81) (k := 76) (vs := (RA 4 (-1) cl fw ln nx (hp - 1) sa da true mv false wr false ins rk num A11 l.length c12 false)) tA43 tS43 rfl B_g15 rfl rfl) rn)))) ?_; clear hE a; intro a hE
       refine p_cons (s_store (off := 0) (k := 76) (cs' := (RA 4 (-1) cl fw ln nx (hp - 1) sa da true mv false wr false ins rk num A11 l.length c12 false).toArray) (pl P7_11 4) hE wn_none tS43 rfl rfl rfl (by exact ones_mv (a := ([Value.int .i64 4, Value.int .i64 (-1), Value.int .i64 cl, Value.int .i64 fw, Value.int .i64 ln, Value.int .i64 nx, Value.int .i64 (hp - 1)] ++ b16 sa ++ b16 da ++ [Value.bool true])) (b := [Value.bool false, Value.bool wr, Value.bool false, Value.int .i64 ins, Value.int .i64 rk, Value.int .i64 num, Value.slice A11 l.length c12, Value.bool false]) hmv rfl rfl) B_g7 (Nat.le_of_ble_eq_true rfl) rfl ?_)
       intro w38 B_g7' hk
       replace B_g1 := kp_blk B_g1 hk n_g1_g7
       replace B_g4 := kp_blk B_g4 hk n_g4_g7
       replace B_g15 := kp_blk B_g15 hk (Ne.symm n_g7_g15)
       replace B_gs := kp_blk B_gs hk (Ne.symm n_g7_gs)
       replace O_q10 := own_keep O_q10 hk (fun k hk2 h2 => Nb_q10_g7 (by rw [show k = g7 from h2] at hk2; exact hk2))
       replace K_0 := K_0.then_ hk (fun k h => by rw [show k = g7 from h]; exact Or.inr z_0_g7)
       replace B_g7 := B_g7'
       clear hk
       refine q0 (pl P7_11 5) hE (st_assign rfl) ?_; clear hE a; intro a hE
       refine p_nil (x_norm (wp_ret ?_))
       refine ret_list (rs := [.cell 10 43, .tmp 11]) (vs := [Value.agg (RA 4 (-1) cl fw ln nx (hp - 1) sa da true mv false wr false ins rk num A11 l.length c12 false).toArray, Value.int .i64 0]) rfl hE (.cellN (us := (RA 4 (-1) cl fw ln nx (hp - 1) sa da true mv false wr false ins rk num A11 l.length c12 false)) tA43 tS43 rfl B_g7 rfl (.tmp rfl .nil)) rfl ?_
       exact h1 4 (-1) false (hp - 1) false wr false rk (by unfold handF; rw [if_neg (by rw [hAO]; decide), if_neg (fun h => h hTG), if_neg hHE, if_neg hCM, if_neg hLO, if_pos hLS]) _ _ _ O_q10 K_0
      ·
       refine c_reg R7_6_l ?_
       refine qn hE (rc (pl P7_6 0) (st_move rfl) (rc (pl P7_6 1) (st_move rfl) rn)) ?_; clear hE a; intro a hE
       refine p_cons (s_callv (fst := []) (cap := []) (xs := [Operand.tmp 34]) (args := [Value.pointer (some ⟨g15, 0, none⟩)]) (pl P7_6 2) hE wn_none rfl rfl rfl Try.func74 cl74 (lost_n cl fw ln nx (hp - 1) sa da mv dn wr fa ins rk num A11 c12 l nd pf rt RV (nodeF da) came own least false g15 hmv _ v g er (hT.at K_0 (fun k h => by have := z_0_g15; exact .inr (by rw [show k = g15 from h]; exact this))) hCM hc0 (by simpa using hLS) B_g15 (fun W' hk => own_told (own_keep O_q10 hk (fun k h h2 => Nb_q10_g15 (by rw [show k = g15 from h2] at h; exact h)))) hml) ?_)
       rintro e w39 ⟨rfl, B_g15', hk⟩
       replace B_g1 := kp_blk B_g1 hk n_g1_g15
       replace B_g4 := kp_blk B_g4 hk n_g4_g15
       replace B_g7 := kp_blk B_g7 hk n_g7_g15
       replace B_gs := kp_blk B_gs hk (Ne.symm n_g15_gs)
       replace O_q10 := own_keep O_q10 hk (fun k hk2 h2 => Nb_q10_g15 (by rw [show k = g15 from h2] at hk2; exact hk2))
       replace K_0 := K_0.then_ hk (fun k h => by rw [show k = g15 from h]; exact Or.inr z_0_g15)
       replace B_g15 := B_g15'
       refine ⟨_, rfl, ?_⟩; clear hE a; intro a hE
       refine q0 (pl P7_6 3) hE (st_assign rfl) ?_; clear hE a; intro a hE
       refine p_nil (x_norm (c_reg R7_7_l ?_))
       refine qn hE (rc (pl P7_7 0) (st_move rfl) (rc (pl P7_7 1) (st_neq (b := false) rfl rfl (by decide)) rn)) ?_; clear hE a; intro a hE
       refine p_nil (x_norm ?_)
       refine c_cond (t := false) hE rfl ?_
       refine wp_skip (x_norm (c_reg R7_9_l ?_))
       refine qn hE (rc (pl P7_9 0) (st_move rfl) (rc (pl P7_9 1) (st_nil rfl) (rc (pl P7_9 2) (st_fieldAddr Try.underlying96 rfl tS4 rfl rfl) (rc (pl P7_9 3) (st_load1 tA4 rfl ((blk_cell B_g15 157).trans rfl)) rn)))) ?_; clear hE a; intro a hE
       refine p_nil (x_norm ?_)
       refine c_cond (t := false) hE rfl ?_
       refine wp_skip (x_normB (x_norm (c_regL R7_10_l ?_)))
       refine qn hE (rc (pl P7_10 0) (st_add (z := 4) rfl rfl (by decide)) (rc (pl P7_10 1) (st_move rfl) rn)) ?_; clear hE a; intro a hE
       refine p_nil (x_norm ?_)
       refine (Eq.mpr (rounds_succ (n := 2)) ?_)
       refine c_reg R7_4_l ?_
       refine q0 p7_4_0 hE (st_lss (b := true) rfl rfl (by decide)) ?_; clear hE a; intro a hE
       refine p_nil (x_norm (wp_seq ?_))
       refine c_cond (t := true) hE rfl ?_
       refine wp_skip (x_norm (wp_seq (wp_block (c_reg R7_5_l ?_))))
       refine qn hE (rc (pl P7_5 0) (st_indexAddr (i := 4) Try.underlying97 tS99 rfl rfl (by decide) rfl) (rc (pl P7_5 1) (st_load1 tA99 rfl ((blk_cell B_gs 4).trans rfl)) (rc (pl P7_5 2) (st_assign rfl) rn))) ?_; clear hE a; intro a hE
       refine p_nil (x_norm (wp_seq ?_))
       rcases Decidable.em ((!consB dn rk own least && wr) = true) with hBD | hBD
       ·
        refine c_reg R7_6_l ?_
        refine qn hE (rc (pl P7_6 0) (st_move rfl) (rc (pl P7_6 1) (st_move rfl) rn)) ?_; clear hE a; intro a hE
        refine p_cons (s_callv (fst := []) (cap := []) (xs := [Operand.tmp 34]) (args := [Value.pointer (some ⟨g15, 0, none⟩)]) (pl P7_6 2) hE wn_none rfl rfl rfl Try.func75 cl75 (hold_bad cl fw ln nx (hp - 1) sa da mv dn wr fa ins rk num A11 c12 l nd pf rt RV (nodeF da) came own least false g15 hmv hCM hoO how hle hBD _ B_g15 (fun W' hk => own_told (own_keep O_q10 hk (fun k h h2 => Nb_q10_g15 (by rw [show k = g15 from h2] at h; exact h)))) hml) ?_)
        rintro e w40 ⟨rfl, B_g15', hk⟩
        replace B_g1 := kp_blk B_g1 hk n_g1_g15
        replace B_g4 := kp_blk B_g4 hk n_g4_g15
        replace B_g7 := kp_blk B_g7 hk n_g7_g15
        replace B_gs := kp_blk B_gs hk (Ne.symm n_g15_gs)
        replace O_q10 := own_keep O_q10 hk (fun k hk2 h2 => Nb_q10_g15 (by rw [show k = g15 from h2] at hk2; exact hk2))
        replace K_0 := K_0.then_ hk (fun k h => by rw [show k = g15 from h]; exact Or.inr z_0_g15)
        replace B_g15 := B_g15'
        refine ⟨_, rfl, ?_⟩; clear hE a; intro a hE
        refine q0 (pl P7_6 3) hE (st_assign rfl) ?_; clear hE a; intro a hE
        refine p_nil (x_norm (c_reg R7_7_l ?_))
        refine qn hE (rc (pl P7_7 0) (st_move rfl) (rc (pl P7_7 1) (st_neq (b := true) rfl rfl (by decide)) rn)) ?_; clear hE a; intro a hE
        refine p_nil (x_norm ?_)
        refine c_cond (t := true) hE rfl ?_
        refine c_reg R7_8_l ?_
        refine qn hE (rc (pl P7_8 0) (st_build (xs := []) (vs := []) (cs := (([Value.int .i64 0, Value.int .i64 0, Value.int .i64 0, Value.int .i64 0, Value.int .i64 0, Value.int .i64 0, Value.int .i64 0] ++ b16 (fun _ => 0) ++ b16 (fun _ => 0) ++ [Value.bool false, Value.int .i64 0, Value.int .i64 0, Value.int .i64 0, Value.int .i64 0, Value.int .i64 0, Value.int .i64 0, Value.int .i64 0, Value.int .i64 0, Value.int .i64 0, Value.bool false, Value.bool false] ++ b16 (fun _ => 0) ++ [Value.slice none 0 0, Value.bool false, Value.bool false, Value.bool false, Value.int .i64 0, Value.int .i64 0, Value.int .i64 0, Value.slice none 0 0, Value.bool false])).toArray) rfl (by kernel_rfl)) (rc (pl P7_8 1) (st_move rfl) rn)) ?_; clear hE a; intro a hE
        refine p_cons (s_store (off := 0) (k := 76) (cs' := (([Value.int .i64 0, Value.int .i64 0, Value.int .i64 0, Value.int .i64 0, Value.int .i64 0, Value.int .i64 0, Value.int .i64 0] ++ b16 (fun _ => 0) ++ b16 (fun _ => 0) ++ [Value.bool false, Value.int .i64 0, Value.int .i64 0, Value.int .i64 0, Value.int .i64 0, Value.int .i64 0, Value.int .i64 0, Value.int .i64 0, Value.int .i64 0, Value.int .i64 0, Value.bool false, Value.bool false] ++ b16 (fun _ => 0) ++ [Value.slice none 0 0, Value.bool false, Value.bool false, Value.bool false, Value.int .i64 0, Value.int .i64 0, Value.int .i64 0, Value.slice none 0 0, Value.bool false])).toArray) (pl P7_8 2) hE wn_none tS43 rfl rfl rfl rfl B_g7 (Nat.le_of_ble_eq_true rfl) rfl ?_)
        intro w41 B_g7' hk
        replace B_g1 := kp_blk B_g1 hk n_g1_g7
        replace B_g4 := kp_blk B_g4 hk n_g4_g7
        replace B_g15 := kp_blk B_g15 hk (Ne.symm n_g7_g15)
        replace B_gs := kp_blk B_gs hk (Ne.symm n_g7_gs)
        replace O_q10 := own_keep O_q10 hk (fun k hk2 h2 => Nb_q10_g7 (by rw [show k = g7 from h2] at hk2; exact hk2))
        replace K_0 := K_0.then_ hk (fun k h => by rw [show k = g7 from h]; exact Or.inr z_0_g7)
        replace B_g7 := B_g7'
        clear hk
        refine q0 (pl P7_8 3) hE (st_assign rfl) ?_; clear hE a; intro a hE
        refine p_nil (x_norm (wp_ret (x_ret (x_retB (x_ret (x_ret (x_retB (x_ret ?_))))))))
        refine ret_list (rs := [.cell 10 43, .tmp 11]) (vs := [Value.agg (([Value.int .i64 0, Value.int .i64 0, Value.int .i64 0, Value.int .i64 0, Value.int .i64 0, Value.int .i64 0, Value.int .i64 0] ++ b16 (fun _ => 0) ++ b16 (fun _ => 0) ++ [Value.bool false, Value.int .i64 0, Value.int .i64 0, Value.int .i64 0, Value.int .i64 0, Value.int .i64 0, Value.int .i64 0, Value.int .i64 0, Value.int .i64 0, Value.int .i64 0, Value.bool false, Value.bool false] ++ b16 (fun _ => 0) ++ [Value.slice none 0 0, Value.bool false, Value.bool false, Value.bool false, Value.int .i64 0, Value.int .i64 0, Value.int .i64 0, Value.slice none 0 0, Value.bool false])).toArray, Value.int .i64 11]) rfl hE (.cellN (us := ([Value.int .i64 0, Value.int .i64 0, Value.int .i64 0, Value.int .i64 0, Value.int .i64 0, Value.int .i64 0, Value.int .i64 0] ++ b16 (fun _ => 0) ++ b16 (fun _ => 0) ++ [Value.bool false, Value.int .i64 0, Value.int .i64 0, Value.int .i64 0, Value.int .i64 0, Value.int .i64 0, Value.int .i64 0, Value.int .i64 0, Value.int .i64 0, Value.int .i64 0, Value.bool false, Value.bool false] ++ b16 (fun _ => 0) ++ [Value.slice none 0 0, Value.bool false, Value.bool false, Value.bool false, Value.int .i64 0, Value.int .i64 0, Value.int .i64 0, Value.slice none 0 0, Value.bool false])) tA43 tS43 rfl B_g7 rfl (.tmp rfl .nil)) rfl ?_
        exact h0 11 (by unfold handF; rw [if_neg (by rw [hAO]; decide), if_neg (fun h => h hTG), if_neg hHE, if_neg hCM, if_neg hLO, if_neg hLS, if_pos hBD]) (by decide) _ K_0
       ·
        refine c_reg R7_6_l ?_
        refine qn hE (rc (pl P7_6 0) (st_move rfl) (rc (pl P7_6 1) (st_move rfl) rn)) ?_; clear hE a; intro a hE
        refine p_cons (s_callv (fst := []) (cap := []) (xs := [Operand.tmp 34]) (args := [Value.pointer (some ⟨g15, 0, none⟩)]) (pl P7_6 2) hE wn_none rfl rfl rfl Try.func75 cl75 (hold_ok cl fw ln nx (hp - 1) sa da mv dn wr fa ins rk num A11 c12 l nd pf rt RV (nodeF da) came own least false g15 hmv hCM hoO how hle (by simpa using hBD) _ B_g15 (fun W' hk => own_told (own_keep O_q10 hk (fun k h h2 => Nb_q10_g15 (by rw [show k = g15 from h2] at h; exact h)))) hml) ?_)
        rintro e w42 ⟨rfl, B_g15', hk⟩
        replace B_g1 := kp_blk B_g1 hk n_g1_g15
        replace B_g4 := kp_blk B_g4 hk n_g4_g15
        replace B_g7 := kp_blk B_g7 hk n_g7_g15
        replace B_gs := kp_blk B_gs hk (Ne.symm n_g15_gs)
        replace O_q10 := own_keep O_q10 hk (fun k hk2 h2 => Nb_q10_g15 (by rw [show k = g15 from h2] at hk2; exact hk2))
        replace K_0 := K_0.then_ hk (fun k h => by rw [show k = g15 from h]; exact Or.inr z_0_g15)
        replace B_g15 := B_g15'
        refine ⟨_, rfl, ?_⟩; clear hE a; intro a hE
        refine q0 (pl P7_6 3) hE (st_assign rfl) ?_; clear hE a; intro a hE
        refine p_nil (x_norm (c_reg R7_7_l ?_))
        refine qn hE (rc (pl P7_7 0) (st_move rfl) (rc (pl P7_7 1) (st_neq (b := false) rfl rfl (by decide)) rn)) ?_; clear hE a; intro a hE
        refine p_nil (x_norm ?_)
        refine c_cond (t := false) hE rfl ?_
        refine wp_skip (x_norm (c_reg R7_9_l ?_))
        refine qn hE (rc (pl P7_9 0) (st_move rfl) (rc (pl P7_9 1) (st_nil rfl) (rc (pl P7_9 2) (st_fieldAddr Try.underlying96 rfl tS4 rfl rfl) (rc (pl P7_9 3) (st_load1 tA4 rfl ((blk_cell B_g15 157).trans rfl)) rn)))) ?_; clear hE a; intro a hE
        refine p_nil (x_norm ?_)
        refine c_cond (t := false) hE rfl ?_
        refine wp_skip (x_normB (x_norm (c_regL R7_10_l ?_)))
        refine qn hE (rc (pl P7_10 0) (st_add (z := 5) rfl rfl (by decide)) (rc (pl P7_10 1) (st_move rfl) rn)) ?_; clear hE a; intro a hE
        refine p_nil (x_norm ?_)
        refine (Eq.mpr (rounds_succ (n := 1)) ?_)
        refine c_reg R7_4_l ?_
        refine q0 p7_4_0 hE (st_lss (b := true) rfl rfl (by decide)) ?_; clear hE a; intro a hE
        refine p_nil (x_norm (wp_seq ?_))
        refine c_cond (t := true) hE rfl ?_
        refine wp_skip (x_norm (wp_seq (wp_block (c_reg R7_5_l ?_))))
        refine qn hE (rc (pl P7_5 0) (st_indexAddr (i := 5) Try.underlying97 tS99 rfl rfl (by decide) rfl) (rc (pl P7_5 1) (st_load1 tA99 rfl ((blk_cell B_gs 5).trans rfl)) (rc (pl P7_5 2) (st_assign rfl) rn))) ?_; clear hE a; intro a hE
        refine p_nil (x_norm (wp_seq ?_))
        rcases Decidable.em ((nextF nd pf rt (v (nodeF da)) (nodeF da) came dn).2.2.2 = 0) with hE0 | hE0
        ·
         rcases Decidable.em ((nextF nd pf rt (v (nodeF da)) (nodeF da) came dn).1 = 4) with hK4 | hK4
         ·
          refine c_reg R7_6_l ?_
          refine qn hE (rc (pl P7_6 0) (st_move rfl) (rc (pl P7_6 1) (st_move rfl) rn)) ?_; clear hE a; intro a hE
          refine p_cons (s_callv (fst := []) (cap := []) (xs := [Operand.tmp 34]) (args := [Value.pointer (some ⟨g15, 0, none⟩)]) (pl P7_6 2) hE wn_none rfl rfl rfl Try.func76 cl76 (on_4 cl fw ln nx (hp - 1) sa da mv dn (wr || !consB dn rk own least) fa ins own num A11 c12 l nd pf rt RV (nodeF da) came own least (!consB dn rk own least) g15 hmv _ v g er (hT.at K_0 (fun k h => by have := z_0_g15; exact .inr (by rw [show k = g15 from h]; exact this))) (okO_mk (okO_b hoO).1 how) how hE0 hK4 B_g15 (fun W' hk => own_told (own_keep O_q10 hk (fun k h h2 => Nb_q10_g15 (by rw [show k = g15 from h2] at h; exact h)))) hml) ?_)
          rintro e w43 ⟨rfl, hk⟩
          replace B_g1 := kp_blk B_g1 hk n_g1_g15
          replace B_g4 := kp_blk B_g4 hk n_g4_g15
          replace B_g7 := kp_blk B_g7 hk n_g7_g15
          replace B_gs := kp_blk B_gs hk (Ne.symm n_g15_gs)
          replace O_q10 := own_keep O_q10 hk (fun k hk2 h2 => Nb_q10_g15 (by rw [show k = g15 from h2] at hk2; exact hk2))
          replace K_0 := K_0.then_ hk (fun k h => by rw [show k = g15 from h]; exact Or.inr z_0_g15)
          refine ⟨_, rfl, ?_⟩; clear hE a; intro a hE
          refine q0 (pl P7_6 3) hE (st_assign rfl) ?_; clear hE a; intro a hE
          refine p_nil (x_norm (c_reg R7_7_l ?_))
          refine qn hE (rc (pl P7_7 0) (st_move rfl) (rc (pl P7_7 1) (st_neq (b := true) rfl rfl (by decide)) rn)) ?_; clear hE a; intro a hE
          refine p_nil (x_norm ?_)
          refine c_cond (t := true) hE rfl ?_
          refine c_reg R7_8_l ?_
          refine qn hE (rc (pl P7_8 0) (st_build (xs := []) (vs := []) (cs := (([Value.int .i64 0, Value.int .i64 0, Value.int .i64 0, Value.int .i64 0, Value.int .i64 0, Value.int .i64 0, Value.int .i64 0] ++ b16 (fun _ => 0) ++ b16 (fun _ => 0) ++ [Value.bool false, Value.int .i64 0, Value.int .i64 0, Value.int .i64 0, Value.int .i64 0, Value.int .i64 0, Value.int .i64 0, Value.int .i64 0, Value.int .i64 0, Value.int .i64 0, Value.bool false, Value.bool false] ++ b16 (fun _ => 0) ++ [Value.slice none 0 0, Value.bool false, Value.bool false, Value.bool false, Value.int .i64 0, Value.int .i64 0, Value.int .i64 0, Value.slice none 0 0, Value.bool false])).toArray) rfl (by kernel_rfl)) (rc (pl P7_8 1) (st_move rfl) rn)) ?_; clear hE a; intro a hE
          refine p_cons (s_store (off := 0) (k := 76) (cs' := (([Value.int .i64 0, Value.int .i64 0, Value.int .i64 0, Value.int .i64 0, Value.int .i64 0, Value.int .i64 0, Value.int .i64 0] ++ b16 (fun _ => 0) ++ b16 (fun _ => 0) ++ [Value.bool false, Value.int .i64 0, Value.int .i64 0, Value.int .i64 0, Value.int .i64 0, Value.int .i64 0, Value.int .i64 0, Value.int .i64 0, Value.int .i64 0, Value.int .i64 0, Value.bool false, Value.bool false] ++ b16 (fun _ => 0) ++ [Value.slice none 0 0, Value.bool false, Value.bool false, Value.bool false, Value.int .i64 0, Value.int .i64 0, Value.int .i64 0, Value.slice none 0 0, Value.bool false])).toArray) (pl P7_8 2) hE wn_none tS43 rfl rfl rfl rfl B_g7 (Nat.le_of_ble_eq_true rfl) rfl ?_)
          intro w44 B_g7' hk
          replace B_g1 := kp_blk B_g1 hk n_g1_g7
          replace B_g4 := kp_blk B_g4 hk n_g4_g7
          replace B_gs := kp_blk B_gs hk (Ne.symm n_g7_gs)
          replace O_q10 := own_keep O_q10 hk (fun k hk2 h2 => Nb_q10_g7 (by rw [show k = g7 from h2] at hk2; exact hk2))
          replace K_0 := K_0.then_ hk (fun k h => by rw [show k = g7 from h]; exact Or.inr z_0_g7)
          replace B_g7 := B_g7'
          clear hk
          refine q0 (pl P7_8 3) hE (st_assign rfl) ?_; clear hE a; intro a hE
          refine p_nil (x_norm (wp_ret (x_ret (x_retB (x_ret (x_ret (x_retB (x_ret ?_))))))))
          refine ret_list (rs := [.cell 10 43, .tmp 11]) (vs := [Value.agg (([Value.int .i64 0, Value.int .i64 0, Value.int .i64 0, Value.int .i64 0, Value.int .i64 0, Value.int .i64 0, Value.int .i64 0] ++ b16 (fun _ => 0) ++ b16 (fun _ => 0) ++ [Value.bool false, Value.int .i64 0, Value.int .i64 0, Value.int .i64 0, Value.int .i64 0, Value.int .i64 0, Value.int .i64 0, Value.int .i64 0, Value.int .i64 0, Value.int .i64 0, Value.bool false, Value.bool false] ++ b16 (fun _ => 0) ++ [Value.slice none 0 0, Value.bool false, Value.bool false, Value.bool false, Value.int .i64 0, Value.int .i64 0, Value.int .i64 0, Value.slice none 0 0, Value.bool false])).toArray, Value.int .i64 8]) rfl hE (.cellN (us := ([Value.int .i64 0, Value.int .i64 0, Value.int .i64 0, Value.int .i64 0, Value.int .i64 0, Value.int .i64 0, Value.int .i64 0] ++ b16 (fun _ => 0) ++ b16 (fun _ => 0) ++ [Value.bool false, Value.int .i64 0, Value.int .i64 0, Value.int .i64 0, Value.int .i64 0, Value.int .i64 0, Value.int .i64 0, Value.int .i64 0, Value.int .i64 0, Value.int .i64 0, Value.bool false, Value.bool false] ++ b16 (fun _ => 0) ++ [Value.slice none 0 0, Value.bool false, Value.bool false, Value.bool false, Value.int .i64 0, Value.int .i64 0, Value.int .i64 0, Value.slice none 0 0, Value.bool false])) tA43 tS43 rfl B_g7 rfl (.tmp rfl .nil)) rfl ?_
          exact h0 8 (by unfold handF onF; rw [if_neg (by rw [hAO]; decide), if_neg (fun h => h hTG), if_neg hHE, if_neg hCM, if_neg hLO, if_neg hLS, if_neg hBD, if_pos hE0, if_pos hK4]) (by decide) _ K_0
         ·
          rcases Decidable.em ((nextF nd pf rt (v (nodeF da)) (nodeF da) came dn).1 = 3) with hK3 | hK3
          ·
           refine c_reg R7_6_l ?_
           refine qn hE (rc (pl P7_6 0) (st_move rfl) (rc (pl P7_6 1) (st_move rfl) rn)) ?_; clear hE a; intro a hE
           refine p_cons (s_callv (fst := []) (cap := []) (xs := [Operand.tmp 34]) (args := [Value.pointer (some ⟨g15, 0, none⟩)]) (pl P7_6 2) hE wn_none rfl rfl rfl Try.func76 cl76 (on_3 cl fw ln nx (hp - 1) sa da mv dn (wr || !consB dn rk own least) fa ins own num A11 c12 l nd pf rt RV (nodeF da) came own least (!consB dn rk own least) g15 hmv _ v g er (hT.at K_0 (fun k h => by have := z_0_g15; exact .inr (by rw [show k = g15 from h]; exact this))) (okO_mk (okO_b hoO).1 how) how hE0 hK3 B_g15 (fun W' hk => own_told (own_keep O_q10 hk (fun k h h2 => Nb_q10_g15 (by rw [show k = g15 from h2] at h; exact h)))) hml) ?_)
           rintro e w45 ⟨rfl, B_g15', hk⟩
           replace B_g1 := kp_blk B_g1 hk n_g1_g15
           replace B_g4 := kp_blk B_g4 hk n_g4_g15
           replace B_g7 := kp_blk B_g7 hk n_g7_g15
           replace B_gs := kp_blk B_gs hk (Ne.symm n_g15_gs)
           replace O_q10 := own_keep O_q10 hk (fun k hk2 h2 => Nb_q10_g15 (by rw [show k = g15 from h2] at hk2; exact hk2))
           replace K_0 := K_0.then_ hk (fun k h => by rw [show k = g15 from h]; exact Or.inr z_0_g15)
           replace B_g15 := B_g15'
           refine ⟨_, rfl, ?_⟩; clear hE a; intro a hE
           refine q0 (pl P7_6 3) hE (st_assign rfl) ?_; clear hE a; intro a hE
           refine p_nil (x_norm (c_reg R7_7_l ?_))
           refine qn hE (rc (pl P7_7 0) (st_move rfl) (rc (pl P7_7 1) (st_neq (b := false) rfl rfl (by decide)) rn)) ?_; clear hE a; intro a hE
           refine p_nil (x_norm ?_)
           refine c_cond (t := false) hE rfl ?_
           refine wp_skip (x_norm (c_reg R7_9_l ?_))
           refine qn hE (rc (pl P7_9 0) (st_move rfl) (rc (pl P7_9 1) (st_nil rfl) (rc (pl P7_9 2) (st_fieldAddr Try.underlying96 rfl tS4 rfl rfl) (rc (pl P7_9 3) (st_load1 tA4 rfl ((blk_cell B_g15 157).trans rfl)) rn)))) ?_; clear hE a; intro a hE
           refine p_nil (x_norm ?_)
           refine c_cond (t := true) hE rfl ?_
           refine wp_exit (x_out rfl (x_exit (x_exit (x_in (x_norm (c_reg R7_11_l ?_))))))
           refine qn hE (rc (pl P7_11 0) (st_move rfl) (rc (pl P7_11 1) (st_nil rfl) (rc (pl P7_11 2) (st_fieldAddr Try.underlying96 rfl tS43 rfl rfl) (rc (pl P7_11 3) (st_loadN (off := 81) (k := 76) (vs := (RA 3 ((nextF nd pf rt (v (nodeF da)) (nodeF da) came dn).2.1) cl fw ln nx (hp - 1) sa da true mv dn (wr || !consB dn rk own least) true ins own num A11 l.length c12 (!consB dn rk own least))) tA43 tS43 rfl B_g15 rfl rfl) rn)))) ?_; clear hE a; intro a hE
           refine p_cons (s_store (off := 0) (k := 76) (cs' := (RA 3 ((nextF nd pf rt (v (nodeF da)) (nodeF da) came dn).2.1) cl fw ln nx (hp - 1) sa da true mv dn (wr || !consB dn rk own least) true ins own num A11 l.length c12 (!consB dn rk own least)).toArray) (pl P7_11 4) hE wn_none tS43 rfl rfl rfl (by exact ones_mv (a := ([Value.int .i64 3, Value.int .i64 ((nextF nd pf rt (v (nodeF da)) (nodeF da) came dn).2.1), Value.int .i64 cl, Value.int .i64 fw, Value.int .i64 ln, Value.int .i64 nx, Value.int .i64 (hp - 1)] ++ b16 sa ++ b16 da ++ [Value.bool true])) (b := [Value.bool dn, Value.bool (wr || !consB dn rk own least), Value.bool true, Value.int .i64 ins, Value.int .i64 own, Value.int .i64 num, Value.slice A11 l.length c12, Value.bool (!consB dn rk own least)]) hmv rfl rfl) B_g7 (Nat.le_of_ble_eq_true rfl) rfl ?_)
           intro w46 B_g7' hk
           replace B_g1 := kp_blk B_g1 hk n_g1_g7
           replace B_g4 := kp_blk B_g4 hk n_g4_g7
           replace B_g15 := kp_blk B_g15 hk (Ne.symm n_g7_g15)
           replace B_gs := kp_blk B_gs hk (Ne.symm n_g7_gs)
           replace O_q10 := own_keep O_q10 hk (fun k hk2 h2 => Nb_q10_g7 (by rw [show k = g7 from h2] at hk2; exact hk2))
           replace K_0 := K_0.then_ hk (fun k h => by rw [show k = g7 from h]; exact Or.inr z_0_g7)
           replace B_g7 := B_g7'
           clear hk
           refine q0 (pl P7_11 5) hE (st_assign rfl) ?_; clear hE a; intro a hE
           refine p_nil (x_norm (wp_ret ?_))
           refine ret_list (rs := [.cell 10 43, .tmp 11]) (vs := [Value.agg (RA 3 ((nextF nd pf rt (v (nodeF da)) (nodeF da) came dn).2.1) cl fw ln nx (hp - 1) sa da true mv dn (wr || !consB dn rk own least) true ins own num A11 l.length c12 (!consB dn rk own least)).toArray, Value.int .i64 0]) rfl hE (.cellN (us := (RA 3 ((nextF nd pf rt (v (nodeF da)) (nodeF da) came dn).2.1) cl fw ln nx (hp - 1) sa da true mv dn (wr || !consB dn rk own least) true ins own num A11 l.length c12 (!consB dn rk own least))) tA43 tS43 rfl B_g7 rfl (.tmp rfl .nil)) rfl ?_
           exact h1 3 ((nextF nd pf rt (v (nodeF da)) (nodeF da) came dn).2.1) (!consB dn rk own least) (hp - 1) dn (wr || !consB dn rk own least) true own (by unfold handF onF; rw [if_neg (by rw [hAO]; decide), if_neg (fun h => h hTG), if_neg hHE, if_neg hCM, if_neg hLO, if_neg hLS, if_neg hBD, if_pos hE0, if_neg hK4, if_pos hK3]) _ _ _ O_q10 K_0
          ·
           refine c_reg R7_6_l ?_
           refine qn hE (rc (pl P7_6 0) (st_move rfl) (rc (pl P7_6 1) (st_move rfl) rn)) ?_; clear hE a; intro a hE
           refine p_cons (s_callv (fst := []) (cap := []) (xs := [Operand.tmp 34]) (args := [Value.pointer (some ⟨g15, 0, none⟩)]) (pl P7_6 2) hE wn_none rfl rfl rfl Try.func76 cl76 (on_o cl fw ln nx (hp - 1) sa da mv dn (wr || !consB dn rk own least) fa ins own num A11 c12 l nd pf rt RV (nodeF da) came own least (!consB dn rk own least) g15 hmv _ v g er (hT.at K_0 (fun k h => by have := z_0_g15; exact .inr (by rw [show k = g15 from h]; exact this))) (okO_mk (okO_b hoO).1 how) how hE0 hK4 hK3 B_g15 (fun W' hk => own_told (own_keep O_q10 hk (fun k h h2 => Nb_q10_g15 (by rw [show k = g15 from h2] at h; exact h)))) hml) ?_)
           rintro e w47 ⟨rfl, B_g15', hk⟩
           replace B_g1 := kp_blk B_g1 hk n_g1_g15
           replace B_g4 := kp_blk B_g4 hk n_g4_g15
           replace B_g7 := kp_blk B_g7 hk n_g7_g15
           replace B_gs := kp_blk B_gs hk (Ne.symm n_g15_gs)
           replace O_q10 := own_keep O_q10 hk (fun k hk2 h2 => Nb_q10_g15 (by rw [show k = g15 from h2] at hk2; exact hk2))
           replace K_0 := K_0.then_ hk (fun k h => by rw [show k = g15 from h]; exact Or.inr z_0_g15)
           replace B_g15 := B_g15'
           refine ⟨_, rfl, ?_⟩; clear hE a; intro a hE
           refine q0 (pl P7_6 3) hE (st_assign rfl) ?_; clear hE a; intro a hE
           refine p_nil (x_norm (c_reg R7_7_l ?_))
           refine qn hE (rc (pl P7_7 0) (st_move rfl) (rc (pl P7_7 1) (st_neq (b := false) rfl rfl (by decide)) rn)) ?_; clear hE a; intro a hE
           refine p_nil (x_norm ?_)
           refine c_cond (t := false) hE rfl ?_
           refine wp_skip (x_norm (c_reg R7_9_l ?_))
           refine qn hE (rc (pl P7_9 0) (st_move rfl) (rc (pl P7_9 1) (st_nil rfl) (rc (pl P7_9 2) (st_fieldAddr Try.underlying96 rfl tS4 rfl rfl) (rc (pl P7_9 3) (st_load1 tA4 rfl ((blk_cell B_g15 157).trans rfl)) rn)))) ?_; clear hE a; intro a hE
           refine p_nil (x_norm ?_)
           refine c_cond (t := true) hE rfl ?_
           refine wp_exit (x_out rfl (x_exit (x_exit (x_in (x_norm (c_reg R7_11_l ?_))))))
           refine qn hE (rc (pl P7_11 0) (st_move rfl) (rc (pl P7_11 1) (st_nil rfl) (rc (pl P7_11 2) (st_fieldAddr Try.underlying96 rfl tS43 rfl rfl) (rc (pl P7_11 3) (st_loadN (off := 81) (k := 76) (vs := (RA ((nextF nd pf rt (v (nodeF da)) (nodeF da) came dn).1) ((nextF nd pf rt (v (nodeF da)) (nodeF da) came dn).2.1) cl fw ln nx (hp - 1) sa da true mv ((nextF nd pf rt (v (nodeF da)) (nodeF da) came dn).2.2.1) (wr || !consB dn rk own least) fa ins own num A11 l.length c12 (!consB dn rk own least))) tA43 tS43 rfl B_g15 rfl rfl) rn)))) ?_; clear hE a; intro a hE
           refine p_cons (s_store (off := 0) (k := 76) (cs' := (RA ((nextF nd pf rt (v (nodeF da)) (nodeF da) came dn).1) ((nextF nd pf rt (v (nodeF da)) (nodeF da) came dn).2.1) cl fw ln nx (hp - 1) sa da true mv ((nextF nd pf rt (v (nodeF da)) (nodeF da) came dn).2.2.1) (wr || !consB dn rk own least) fa ins own num A11 l.length c12 (!consB dn rk own least)).toArray) (pl P7_11 4) hE wn_none tS43 rfl rfl rfl (by exact ones_mv (a := ([Value.int .i64 ((nextF nd pf rt (v (nodeF da)) (nodeF da) came dn).1), Value.int .i64 ((nextF nd pf rt (v (nodeF da)) (nodeF da) came dn).2.1), Value.int .i64 cl, Value.int .i64 fw, Value.int .i64 ln, Value.int .i64 nx, Value.int .i64 (hp - 1)] ++ b16 sa ++ b16 da ++ [Value.bool true])) (b := [Value.bool ((nextF nd pf rt (v (nodeF da)) (nodeF da) came dn).2.2.1), Value.bool (wr || !consB dn rk own least), Value.bool fa, Value.int .i64 ins, Value.int .i64 own, Value.int .i64 num, Value.slice A11 l.length c12, Value.bool (!consB dn rk own least)]) hmv rfl rfl) B_g7 (Nat.le_of_ble_eq_true rfl) rfl ?_)
           intro w48 B_g7' hk
           replace B_g1 := kp_blk B_g1 hk n_g1_g7
           replace B_g4 := kp_blk B_g4 hk n_g4_g7
           replace B_g15 := kp_blk B_g15 hk (Ne.symm n_g7_g15)
           replace B_gs := kp_blk B_gs hk (Ne.symm n_g7_gs)
           replace O_q10 := own_keep O_q10 hk (fun k hk2 h2 => Nb_q10_g7 (by rw [show k = g7 from h2] at hk2; exact hk2))
           replace K_0 := K_0.then_ hk (fun k h => by rw [show k = g7 from h]; exact Or.inr z_0_g7)
           replace B_g7 := B_g7'
           clear hk
           refine q0 (pl P7_11 5) hE (st_assign rfl) ?_; clear hE a; intro a hE
           refine p_nil (x_norm (wp_ret ?_))
           refine ret_list (rs := [.cell 10 43, .tmp 11]) (vs := [Value.agg (RA ((nextF nd pf rt (v (nodeF da)) (nodeF da) came dn).1) ((nextF nd pf rt (v (nodeF da)) (nodeF da) came dn).2.1) cl fw ln nx (hp - 1) sa da true mv ((nextF nd pf rt (v (nodeF da)) (nodeF da) came dn).2.2.1) (wr || !consB dn rk own least) fa ins own num A11 l.length c12 (!consB dn rk own least)).toArray, Value.int .i64 0]) rfl hE (.cellN (us := (RA ((nextF nd pf rt (v (nodeF da)) (nodeF da) came dn).1) ((nextF nd pf rt (v (nodeF da)) (nodeF da) came dn).2.1) cl fw ln nx (hp - 1) sa da true mv ((nextF nd pf rt (v (nodeF da)) (nodeF da) came dn).2.2.1) (wr || !consB dn rk own least) fa ins own num A11 l.length c12 (!consB dn rk own least))) tA43 tS43 rfl B_g7 rfl (.tmp rfl .nil)) rfl ?_
           exact h1 ((nextF nd pf rt (v (nodeF da)) (nodeF da) came dn).1) ((nextF nd pf rt (v (nodeF da)) (nodeF da) came dn).2.1) (!consB dn rk own least) (hp - 1) ((nextF nd pf rt (v (nodeF da)) (nodeF da) came dn).2.2.1) (wr || !consB dn rk own least) fa own (by unfold handF onF; rw [if_neg (by rw [hAO]; decide), if_neg (fun h => h hTG), if_neg hHE, if_neg hCM, if_neg hLO, if_neg hLS, if_neg hBD, if_pos hE0, if_neg hK4, if_neg hK3]) _ _ _ O_q10 K_0
        ·
         refine c_reg R7_6_l ?_
         refine qn hE (rc (pl P7_6 0) (st_move rfl) (rc (pl P7_6 1) (st_move rfl) rn)) ?_; clear hE a; intro a hE
         refine p_cons (s_callv (fst := []) (cap := []) (xs := [Operand.tmp 34]) (args := [Value.pointer (some ⟨g15, 0, none⟩)]) (pl P7_6 2) hE wn_none rfl rfl rfl Try.func76 cl76 (on_e cl fw ln nx (hp - 1) sa da mv dn (wr || !consB dn rk own least) fa ins own num A11 c12 l nd pf rt RV (nodeF da) came own least (!consB dn rk own least) g15 hmv _ v g er (hT.at K_0 (fun k h => by have := z_0_g15; exact .inr (by rw [show k = g15 from h]; exact this))) (okO_mk (okO_b hoO).1 how) how hE0 B_g15 (fun W' hk => own_told (own_keep O_q10 hk (fun k h h2 => Nb_q10_g15 (by rw [show k = g15 from h2] at h; exact h)))) hml) ?_)
         rintro e w49 ⟨rfl, hk⟩
         replace B_g1 := kp_blk B_g1 hk n_g1_g15
         replace B_g4 := kp_blk B_g4 hk n_g4_g15
         replace B_g7 := kp_blk B_g7 hk n_g7_g15
         replace B_gs := kp_blk B_gs hk (Ne.symm n_g15_gs)
         replace O_q10 := own_keep O_q10 hk (fun k hk2 h2 => Nb_q10_g15 (by rw [show k = g15 from h2] at hk2; exact hk2))
         replace K_0 := K_0.then_ hk (fun k h => by rw [show k = g15 from h]; exact Or.inr z_0_g15)
         refine ⟨_, rfl, ?_⟩; clear hE a; intro a hE
         refine q0 (pl P7_6 3) hE (st_assign rfl) ?_; clear hE a; intro a hE
         refine p_nil (x_norm (c_reg R7_7_l ?_))
         refine qn hE (rc (pl P7_7 0) (st_move rfl) (rc (pl P7_7 1) (st_neq (b := true) rfl rfl (by rw [decide_eq_false hE0]; rfl)) rn)) ?_; clear hE a; intro a hE
         refine p_nil (x_norm ?_)
         refine c_cond (t := true) hE rfl ?_
         refine c_reg R7_8_l ?_
         refine qn hE (rc (pl P7_8 0) (st_build (xs := []) (vs := []) (cs := (([Value.int .i64 0, Value.int .i64 0, Value.int .i64 0, Value.int .i64 0, Value.int .i64 0, Value.int .i64 0, Value.int .i64 0] ++ b16 (fun _ => 0) ++ b16 (fun _ => 0) ++ [Value.bool false, Value.int .i64 0, Value.int .i64 0, Value.int .i64 0, Value.int .i64 0, Value.int .i64 0, Value.int .i64 0, Value.int .i64 0, Value.int .i64 0, Value.int .i64 0, Value.bool false, Value.bool false] ++ b16 (fun _ => 0) ++ [Value.slice none 0 0, Value.bool false, Value.bool false, Value.bool false, Value.int .i64 0, Value.int .i64 0, Value.int .i64 0, Value.slice none 0 0, Value.bool false])).toArray) rfl (by kernel_rfl)) (rc (pl P7_8 1) (st_move rfl) rn)) ?_; clear hE a; intro a hE
         refine p_cons (s_store (off := 0) (k := 76) (cs' := (([Value.int .i64 0, Value.int .i64 0, Value.int .i64 0, Value.int .i64 0, Value.int .i64 0, Value.int .i64 0, Value.int .i64 0] ++ b16 (fun _ => 0) ++ b16 (fun _ => 0) ++ [Value.bool false, Value.int .i64 0, Value.int .i64 0, Value.int .i64 0, Value.int .i64 0, Value.int .i64 0, Value.int .i64 0, Value.int .i64 0, Value.int .i64 0, Value.int .i64 0, Value.bool false, Value.bool false] ++ b16 (fun _ => 0) ++ [Value.slice none 0 0, Value.bool false, Value.bool false, Value.bool false, Value.int .i64 0, Value.int .i64 0, Value.int .i64 0, Value.slice none 0 0, Value.bool false])).toArray) (pl P7_8 2) hE wn_none tS43 rfl rfl rfl rfl B_g7 (Nat.le_of_ble_eq_true rfl) rfl ?_)
         intro w50 B_g7' hk
         replace B_g1 := kp_blk B_g1 hk n_g1_g7
         replace B_g4 := kp_blk B_g4 hk n_g4_g7
         replace B_gs := kp_blk B_gs hk (Ne.symm n_g7_gs)
         replace O_q10 := own_keep O_q10 hk (fun k hk2 h2 => Nb_q10_g7 (by rw [show k = g7 from h2] at hk2; exact hk2))
         replace K_0 := K_0.then_ hk (fun k h => by rw [show k = g7 from h]; exact Or.inr z_0_g7)
         replace B_g7 := B_g7'
         clear hk
         refine q0 (pl P7_8 3) hE (st_assign rfl) ?_; clear hE a; intro a hE
         refine p_nil (x_norm (wp_ret (x_ret (x_retB (x_ret (x_ret (x_retB (x_ret ?_))))))))
         refine ret_list (rs := [.cell 10 43, .tmp 11]) (vs := [Value.agg (([Value.int .i64 0, Value.int .i64 0, Value.int .i64 0, Value.int .i64 0, Value.int .i64 0, Value.int .i64 0, Value.int .i64 0] ++ b16 (fun _ => 0) ++ b16 (fun _ => 0) ++ [Value.bool false, Value.int .i64 0, Value.int .i64 0, Value.int .i64 0, Value.int .i64 0, Value.int .i64 0, Value.int .i64 0, Value.int .i64 0, Value.int .i64 0, Value.int .i64 0, Value.bool false, Value.bool false] ++ b16 (fun _ => 0) ++ [Value.slice none 0 0, Value.bool false, Value.bool false, Value.bool false, Value.int .i64 0, Value.int .i64 0, Value.int .i64 0, Value.slice none 0 0, Value.bool false])).toArray, Value.int .i64 ((nextF nd pf rt (v (nodeF da)) (nodeF da) came dn).2.2.2)]) rfl hE (.cellN (us := ([Value.int .i64 0, Value.int .i64 0, Value.int .i64 0, Value.int .i64 0, Value.int .i64 0, Value.int .i64 0, Value.int .i64 0] ++ b16 (fun _ => 0) ++ b16 (fun _ => 0) ++ [Value.bool false, Value.int .i64 0, Value.int .i64 0, Value.int .i64 0, Value.int .i64 0, Value.int .i64 0, Value.int .i64 0, Value.int .i64 0, Value.int .i64 0, Value.int .i64 0, Value.bool false, Value.bool false] ++ b16 (fun _ => 0) ++ [Value.slice none 0 0, Value.bool false, Value.bool false, Value.bool false, Value.int .i64 0, Value.int .i64 0, Value.int .i64 0, Value.slice none 0 0, Value.bool false])) tA43 tS43 rfl B_g7 rfl (.tmp rfl .nil)) rfl ?_
         exact h0 ((nextF nd pf rt (v (nodeF da)) (nodeF da) came dn).2.2.2) (by unfold handF onF; rw [if_neg (by rw [hAO]; decide), if_neg (fun h => h hTG), if_neg hHE, if_neg hCM, if_neg hLO, if_neg hLS, if_neg hBD, if_neg hE0]) hE0 _ K_0
  ·
   refine c_reg R7_6_l ?_
   refine qn hE (rc (pl P7_6 0) (st_move rfl) (rc (pl P7_6 1) (st_move rfl) rn)) ?_; clear hE a; intro a hE
   refine p_cons (s_callv (fst := []) (cap := []) (xs := [Operand.tmp 34]) (args := [Value.pointer (some ⟨g15, 0, none⟩)]) (pl P7_6 2) hE wn_none rfl rfl rfl Try.func71 cl71 (check_no cl fw ln nx hp sa da mv dn wr fa ins rk num A11 c12 l nd pf rt RV 0 came own least false g15 hmv hda hAO hTG _ B_g15 (fun W' hk => own_told (own_keep O_q10 hk (fun k h h2 => Nb_q10_g15 (by rw [show k = g15 from h2] at h; exact h)))) hml) ?_)
   rintro e w51 ⟨rfl, B_g15', hk⟩
   replace B_g1 := kp_blk B_g1 hk n_g1_g15
   replace B_g4 := kp_blk B_g4 hk n_g4_g15
   replace B_g7 := kp_blk B_g7 hk n_g7_g15
   replace B_gs := kp_blk B_gs hk (Ne.symm n_g15_gs)
   replace O_q10 := own_keep O_q10 hk (fun k hk2 h2 => Nb_q10_g15 (by rw [show k = g15 from h2] at hk2; exact hk2))
   replace K_0 := K_0.then_ hk (fun k h => by rw [show k = g15 from h]; exact Or.inr z_0_g15)
   replace B_g15 := B_g15'
   refine ⟨_, rfl, ?_⟩; clear hE a; intro a hE
   refine q0 (pl P7_6 3) hE (st_assign rfl) ?_; clear hE a; intro a hE
   refine p_nil (x_norm (c_reg R7_7_l ?_))
   refine qn hE (rc (pl P7_7 0) (st_move rfl) (rc (pl P7_7 1) (st_neq (b := true) rfl rfl (by decide)) rn)) ?_; clear hE a; intro a hE
   refine p_nil (x_norm ?_)
   refine c_cond (t := true) hE rfl ?_
   refine c_reg R7_8_l ?_
   refine qn hE (rc (pl P7_8 0) (st_build (xs := []) (vs := []) (cs := (([Value.int .i64 0, Value.int .i64 0, Value.int .i64 0, Value.int .i64 0, Value.int .i64 0, Value.int .i64 0, Value.int .i64 0] ++ b16 (fun _ => 0) ++ b16 (fun _ => 0) ++ [Value.bool false, Value.int .i64 0, Value.int .i64 0, Value.int .i64 0, Value.int .i64 0, Value.int .i64 0, Value.int .i64 0, Value.int .i64 0, Value.int .i64 0, Value.int .i64 0, Value.bool false, Value.bool false] ++ b16 (fun _ => 0) ++ [Value.slice none 0 0, Value.bool false, Value.bool false, Value.bool false, Value.int .i64 0, Value.int .i64 0, Value.int .i64 0, Value.slice none 0 0, Value.bool false])).toArray) rfl (by kernel_rfl)) (rc (pl P7_8 1) (st_move rfl) rn)) ?_; clear hE a; intro a hE
   refine p_cons (s_store (off := 0) (k := 76) (cs' := (([Value.int .i64 0, Value.int .i64 0, Value.int .i64 0, Value.int .i64 0, Value.int .i64 0, Value.int .i64 0, Value.int .i64 0] ++ b16 (fun _ => 0) ++ b16 (fun _ => 0) ++ [Value.bool false, Value.int .i64 0, Value.int .i64 0, Value.int .i64 0, Value.int .i64 0, Value.int .i64 0, Value.int .i64 0, Value.int .i64 0, Value.int .i64 0, Value.int .i64 0, Value.bool false, Value.bool false] ++ b16 (fun _ => 0) ++ [Value.slice none 0 0, Value.bool false, Value.bool false, Value.bool false, Value.int .i64 0, Value.int .i64 0, Value.int .i64 0, Value.slice none 0 0, Value.bool false])).toArray) (pl P7_8 2) hE wn_none tS43 rfl rfl rfl rfl B_g7 (Nat.le_of_ble_eq_true rfl) rfl ?_)
   intro w52 B_g7' hk
   replace B_g1 := kp_blk B_g1 hk n_g1_g7
   replace B_g4 := kp_blk B_g4 hk n_g4_g7
   replace B_g15 := kp_blk B_g15 hk (Ne.symm n_g7_g15)
   replace B_gs := kp_blk B_gs hk (Ne.symm n_g7_gs)
   replace O_q10 := own_keep O_q10 hk (fun k hk2 h2 => Nb_q10_g7 (by rw [show k = g7 from h2] at hk2; exact hk2))
   replace K_0 := K_0.then_ hk (fun k h => by rw [show k = g7 from h]; exact Or.inr z_0_g7)
   replace B_g7 := B_g7'
   clear hk
   refine q0 (pl P7_8 3) hE (st_assign rfl) ?_; clear hE a; intro a hE
   refine p_nil (x_norm (wp_ret (x_ret (x_retB (x_ret (x_ret (x_retB (x_ret ?_))))))))
   refine ret_list (rs := [.cell 10 43, .tmp 11]) (vs := [Value.agg (([Value.int .i64 0, Value.int .i64 0, Value.int .i64 0, Value.int .i64 0, Value.int .i64 0, Value.int .i64 0, Value.int .i64 0] ++ b16 (fun _ => 0) ++ b16 (fun _ => 0) ++ [Value.bool false, Value.int .i64 0, Value.int .i64 0, Value.int .i64 0, Value.int .i64 0, Value.int .i64 0, Value.int .i64 0, Value.int .i64 0, Value.int .i64 0, Value.int .i64 0, Value.bool false, Value.bool false] ++ b16 (fun _ => 0) ++ [Value.slice none 0 0, Value.bool false, Value.bool false, Value.bool false, Value.int .i64 0, Value.int .i64 0, Value.int .i64 0, Value.slice none 0 0, Value.bool false])).toArray, Value.int .i64 8]) rfl hE (.cellN (us := ([Value.int .i64 0, Value.int .i64 0, Value.int .i64 0, Value.int .i64 0, Value.int .i64 0, Value.int .i64 0, Value.int .i64 0] ++ b16 (fun _ => 0) ++ b16 (fun _ => 0) ++ [Value.bool false, Value.int .i64 0, Value.int .i64 0, Value.int .i64 0, Value.int .i64 0, Value.int .i64 0, Value.int .i64 0, Value.int .i64 0, Value.int .i64 0, Value.int .i64 0, Value.bool false, Value.bool false] ++ b16 (fun _ => 0) ++ [Value.slice none 0 0, Value.bool false, Value.bool false, Value.bool false, Value.int .i64 0, Value.int .i64 0, Value.int .i64 0, Value.slice none 0 0, Value.bool false])) tA43 tS43 rfl B_g7 rfl (.tmp rfl .nil)) rfl ?_
   exact h0 8 (by unfold handF; rw [if_neg (by rw [hAO]; decide), if_pos hTG]) (by decide) _ K_0
 ·
  have hAO9 : argB cl fw hp ins rk num l.length nd pf came own least = false := by simpa using hAO
  refine c_reg R7_6_l ?_
  refine qn hE (rc (pl P7_6 0) (st_move rfl) (rc (pl P7_6 1) (st_move rfl) rn)) ?_; clear hE a; intro a hE
  refine p_cons (s_callv (fst := []) (cap := []) (xs := [Operand.tmp 34]) (args := [Value.pointer (some ⟨g15, 0, none⟩)]) (pl P7_6 2) hE wn_none rfl rfl rfl Try.func71 cl71 (check_bad cl fw ln nx hp sa da mv dn wr fa ins rk num A11 c12 l nd pf rt RV 0 came own least false g15 hmv hda hAO9 _ B_g15 (fun W' hk => own_told (own_keep O_q10 hk (fun k h h2 => Nb_q10_g15 (by rw [show k = g15 from h2] at h; exact h)))) hml) ?_)
  rintro e w53 ⟨rfl, B_g15', hk⟩
  replace B_g1 := kp_blk B_g1 hk n_g1_g15
  replace B_g4 := kp_blk B_g4 hk n_g4_g15
  replace B_g7 := kp_blk B_g7 hk n_g7_g15
  replace B_gs := kp_blk B_gs hk (Ne.symm n_g15_gs)
  replace O_q10 := own_keep O_q10 hk (fun k hk2 h2 => Nb_q10_g15 (by rw [show k = g15 from h2] at hk2; exact hk2))
  replace K_0 := K_0.then_ hk (fun k h => by rw [show k = g15 from h]; exact Or.inr z_0_g15)
  replace B_g15 := B_g15'
  refine ⟨_, rfl, ?_⟩; clear hE a; intro a hE
  refine q0 (pl P7_6 3) hE (st_assign rfl) ?_; clear hE a; intro a hE
  refine p_nil (x_norm (c_reg R7_7_l ?_))
  refine qn hE (rc (pl P7_7 0) (st_move rfl) (rc (pl P7_7 1) (st_neq (b := true) rfl rfl (by decide)) rn)) ?_; clear hE a; intro a hE
  refine p_nil (x_norm ?_)
  refine c_cond (t := true) hE rfl ?_
  refine c_reg R7_8_l ?_
  refine qn hE (rc (pl P7_8 0) (st_build (xs := []) (vs := []) (cs := (([Value.int .i64 0, Value.int .i64 0, Value.int .i64 0, Value.int .i64 0, Value.int .i64 0, Value.int .i64 0, Value.int .i64 0] ++ b16 (fun _ => 0) ++ b16 (fun _ => 0) ++ [Value.bool false, Value.int .i64 0, Value.int .i64 0, Value.int .i64 0, Value.int .i64 0, Value.int .i64 0, Value.int .i64 0, Value.int .i64 0, Value.int .i64 0, Value.int .i64 0, Value.bool false, Value.bool false] ++ b16 (fun _ => 0) ++ [Value.slice none 0 0, Value.bool false, Value.bool false, Value.bool false, Value.int .i64 0, Value.int .i64 0, Value.int .i64 0, Value.slice none 0 0, Value.bool false])).toArray) rfl (by kernel_rfl)) (rc (pl P7_8 1) (st_move rfl) rn)) ?_; clear hE a; intro a hE
  refine p_cons (s_store (off := 0) (k := 76) (cs' := (([Value.int .i64 0, Value.int .i64 0, Value.int .i64 0, Value.int .i64 0, Value.int .i64 0, Value.int .i64 0, Value.int .i64 0] ++ b16 (fun _ => 0) ++ b16 (fun _ => 0) ++ [Value.bool false, Value.int .i64 0, Value.int .i64 0, Value.int .i64 0, Value.int .i64 0, Value.int .i64 0, Value.int .i64 0, Value.int .i64 0, Value.int .i64 0, Value.int .i64 0, Value.bool false, Value.bool false] ++ b16 (fun _ => 0) ++ [Value.slice none 0 0, Value.bool false, Value.bool false, Value.bool false, Value.int .i64 0, Value.int .i64 0, Value.int .i64 0, Value.slice none 0 0, Value.bool false])).toArray) (pl P7_8 2) hE wn_none tS43 rfl rfl rfl rfl B_g7 (Nat.le_of_ble_eq_true rfl) rfl ?_)
  intro w54 B_g7' hk
  replace B_g1 := kp_blk B_g1 hk n_g1_g7
  replace B_g4 := kp_blk B_g4 hk n_g4_g7
  replace B_g15 := kp_blk B_g15 hk (Ne.symm n_g7_g15)
  replace B_gs := kp_blk B_gs hk (Ne.symm n_g7_gs)
  replace O_q10 := own_keep O_q10 hk (fun k hk2 h2 => Nb_q10_g7 (by rw [show k = g7 from h2] at hk2; exact hk2))
  replace K_0 := K_0.then_ hk (fun k h => by rw [show k = g7 from h]; exact Or.inr z_0_g7)
  replace B_g7 := B_g7'
  clear hk
  refine q0 (pl P7_8 3) hE (st_assign rfl) ?_; clear hE a; intro a hE
  refine p_nil (x_norm (wp_ret (x_ret (x_retB (x_ret (x_ret (x_retB (x_ret ?_))))))))
  refine ret_list (rs := [.cell 10 43, .tmp 11]) (vs := [Value.agg (([Value.int .i64 0, Value.int .i64 0, Value.int .i64 0, Value.int .i64 0, Value.int .i64 0, Value.int .i64 0, Value.int .i64 0] ++ b16 (fun _ => 0) ++ b16 (fun _ => 0) ++ [Value.bool false, Value.int .i64 0, Value.int .i64 0, Value.int .i64 0, Value.int .i64 0, Value.int .i64 0, Value.int .i64 0, Value.int .i64 0, Value.int .i64 0, Value.int .i64 0, Value.bool false, Value.bool false] ++ b16 (fun _ => 0) ++ [Value.slice none 0 0, Value.bool false, Value.bool false, Value.bool false, Value.int .i64 0, Value.int .i64 0, Value.int .i64 0, Value.slice none 0 0, Value.bool false])).toArray, Value.int .i64 1]) rfl hE (.cellN (us := ([Value.int .i64 0, Value.int .i64 0, Value.int .i64 0, Value.int .i64 0, Value.int .i64 0, Value.int .i64 0, Value.int .i64 0] ++ b16 (fun _ => 0) ++ b16 (fun _ => 0) ++ [Value.bool false, Value.int .i64 0, Value.int .i64 0, Value.int .i64 0, Value.int .i64 0, Value.int .i64 0, Value.int .i64 0, Value.int .i64 0, Value.int .i64 0, Value.int .i64 0, Value.bool false, Value.bool false] ++ b16 (fun _ => 0) ++ [Value.slice none 0 0, Value.bool false, Value.bool false, Value.bool false, Value.int .i64 0, Value.int .i64 0, Value.int .i64 0, Value.slice none 0 0, Value.bool false])) tA43 tS43 rfl B_g7 rfl (.tmp rfl .nil)) rfl ?_
  exact h0 1 (by unfold handF; rw [if_pos hAO9]) (by decide) _ K_0
theorem handle_err (cl fw ln nx hp : Int) (sa da : Nat → Int) (mv : Nat → Value) (dn wr fa : Bool) (ins rk num : Int) (T : Option Addr) (cT : Nat) (l : List Int) (nd pf : Int) (rt : Bool) (RV : Value) (v : Int → Int) (g : Int → Int × Int × Int) (er : Int) (came own least : Int) (hmv : ∀ j, (mv j).oneCell' = true) (hda : ∀ j, 0 ≤ da j ∧ da j ≤ 255) (er9 : Int) (hF : handF (argB cl fw hp ins rk num l.length nd pf came own least) (nodeF da) hp dn wr fa rk nd pf rt (v (nodeF da)) came own least = resE er9) (hne : ¬ er9 = 0) (w : World) (hT : Tb RV v g er w (fun _ => False)) (F_T : ∀ W', Kp w W' (fun _ => False) → Kd.C (Kd.int .u8) W' T l.length l) (hml : l.length ≤ 900000) : Calls Try.prog 7 #[Value.agg (PA cl fw ln nx hp sa da true mv dn wr fa ins rk num T l.length cT).toArray, Value.agg #[Value.int .i64 nd, Value.int .i64 pf, Value.bool rt, RV], .int .i64 came, .int .i64 own, .int .i64 least] w fun e w' => e = .returned (.tuple #[Value.agg (([Value.int .i64 0, Value.int .i64 0, Value.int .i64 0, Value.int .i64 0, Value.int .i64 0, Value.int .i64 0, Value.int .i64 0] ++ b16 (fun _ => 0) ++ b16 (fun _ => 0) ++ [Value.bool false, Value.int .i64 0, Value.int .i64 0, Value.int .i64 0, Value.int .i64 0, Value.int .i64 0, Value.int .i64 0, Value.int .i64 0, Value.int .i64 0, Value.int .i64 0, Value.bool false, Value.bool false] ++ b16 (fun _ => 0) ++ [Value.slice none 0 0, Value.bool false, Value.bool false, Value.bool false, Value.int .i64 0, Value.int .i64 0, Value.int .i64 0, Value.slice none 0 0, Value.bool false])).toArray, .int .i64 er9]) ∧ Kp w w' (fun _ => False) :=
 handle_k cl fw ln nx hp sa da mv dn wr fa ins rk num T cT l nd pf rt RV v g er came own least hmv hda w hT F_T hml (fun e2 h2 _ w' hk => by
  have h3 := hF.symm.trans h2
  have h4 : er9 = e2 := (Prod.mk.inj h3).1
  exact ⟨by rw [h4], hk⟩) (fun kd nx9 wg' hp' dn' wr' fa' rk' h2 => absurd (Prod.mk.inj (hF.symm.trans h2)).1 hne)
theorem handle_ok (cl fw ln nx hp : Int) (sa da : Nat → Int) (mv : Nat → Value) (dn wr fa : Bool) (ins rk num : Int) (T : Option Addr) (cT : Nat) (l : List Int) (nd pf : Int) (rt : Bool) (RV : Value) (v : Int → Int) (g : Int → Int × Int × Int) (er : Int) (came own least : Int) (hmv : ∀ j, (mv j).oneCell' = true) (hda : ∀ j, 0 ≤ da j ∧ da j ≤ 255) (kd nx9 : Int) (wg' : Bool) (hp' : Int) (dn' wr' fa' : Bool) (rk' : Int) (hF : handF (argB cl fw hp ins rk num l.length nd pf came own least) (nodeF da) hp dn wr fa rk nd pf rt (v (nodeF da)) came own least = (0, kd, nx9, wg', hp', dn', wr', fa', rk')) (w : World) (hT : Tb RV v g er w (fun _ => False)) (F_T : ∀ W', Kp w W' (fun _ => False) → Kd.C (Kd.int .u8) W' T l.length l) (hml : l.length ≤ 900000) : Calls Try.prog 7 #[Value.agg (PA cl fw ln nx hp sa da true mv dn wr fa ins rk num T l.length cT).toArray, Value.agg #[Value.int .i64 nd, Value.int .i64 pf, Value.bool rt, RV], .int .i64 came, .int .i64 own, .int .i64 least] w fun e w' => ∃ T' c', e = .returned (.tuple #[.agg (RA kd nx9 cl fw ln nx hp' sa da true mv dn' wr' fa' ins rk' num T' l.length c' wg').toArray, .int .i64 0]) ∧ w'.ownsRow w.heap.size 5 1 (.slice T' l.length c') l.length (encs (Value.int .u8) l) ∧ Kp w w' (fun _ => False) :=
 handle_k cl fw ln nx hp sa da mv dn wr fa ins rk num T cT l nd pf rt RV v g er came own least hmv hda w hT F_T hml (fun e2 h2 h3 => absurd (Prod.mk.inj (hF.symm.trans h2)).1.symm h3) (fun kd2 nx2 wg2 hp2 dn2 wr2 fa2 rk2 h2 T' c' w' hO hk => by
  have h3 := hF.symm.trans h2
  simp only [Prod.mk.injEq, true_and] at h3
  obtain ⟨rfl, rfl, rfl, rfl, rfl, rfl, rfl, rfl⟩ := h3
  exact ⟨T', c', rfl, hO, hk⟩)
end Go.Proofs.Ytijfocnneccccaa.Hl
