/- PacketTwice: the walk. No condition. -/
import Derived.Test.YtijfocnneccccaaBeg
import Derived.Test.YtijfocnneccccaaKdOpen
set_option maxRecDepth 100000
set_option linter.unusedVariables false
set_option linter.unusedSimpArgs false
namespace Go.Proofs.Ytijfocnneccccaa.Tw
open Go.RowKit Go.Proofs.YtijfocnneccccaaW.PrintWords Go.Proofs.Ytijfocnneccccaa.Ds Go.Proofs.Ytijfocnneccccaa.Ad Go.Proofs.Ytijfocnneccccaa.Hd Go.Proofs.Ytijfocnneccccaa.Hw Go.Proofs.Ytijfocnneccccaa.Hp Go.Proofs.Ytijfocnneccccaa.Dg Go.Proofs.Ytijfocnneccccaa.Rx Go.Proofs.Ytijfocnneccccaa.Hk Go.Proofs.Ytijfocnneccccaa.Hk2 Go.Proofs.Ytijfocnneccccaa.Hl Go.Proofs.Ytijfocnneccccaa.Bg
open Go.Proofs.Ytijfocnneccccaa.Pk (Kp fitsF spanF putF digF fits_any put_ok)
open Go.Proofs.Ytijfocnneccccaa.Mi (st_eqlP MapI)
theorem C_len0 {d : Kd Int} {W : World} {A : Option Addr} : Kd.C d W A 0 [] := ⟨rfl, Nat.zero_le _, fun h => absurd h (Nat.lt_irrefl 0)⟩
theorem okF_tw {h : Int} (h0 : 0 ≤ h) (h9 : h ≤ 255) : okF 0 0 0 0 h = true := okF_mk (by omega) (by omega) (by omega) (by omega) ⟨h0, h9⟩
theorem arg_tw (i : Nat) (hi : i < 20) {last own least : Int} (h1 : 0 ≤ last ∧ last < 65536) (h2 : 0 ≤ own ∧ own < 65536) (h3 : 1 ≤ least ∧ least < 65536) : argB 0 0 (64 - (i : Int)) 0 last 1 0 (i : Int) ((i : Int) + 1) (((i : Int) + 63) % 64) own least = true := by
 have e1 : pktE 0 0 (64 - (i : Int)) 0 last 1 0 = 0 := by
  unfold pktE okP
  rw [okO_mk (by omega) h1, okF_tw (by omega) (by omega)]
  rfl
 have e2 : rightV (i : Int) ((i : Int) + 1) = true := by
  unfold rightV perB nodeB
  rw [decide_eq_true (show 0 ≤ (i : Int) ∧ (i : Int) < 64 by omega), decide_eq_true (show 0 ≤ (i : Int) + 1 ∧ (i : Int) + 1 < 64 by omega), decide_eq_false (show ¬ (i : Int) + 1 = (i : Int) by omega)]
  simp
 unfold argB validB nodeB
 rw [e1, e2, decide_eq_true h2, decide_eq_true (show 0 ≤ least ∧ least < 65536 by omega), decide_eq_false (show ¬ least = 0 by omega), decide_eq_true (show 0 ≤ ((i : Int) + 63) % 64 ∧ ((i : Int) + 63) % 64 < 64 by omega)]
 simp
theorem tw_on (i : Nat) (hi : i < 20) (hp : Int) (wr : Bool) (own : Int) (wg : Bool) : onF hp false wr false (i : Int) ((i : Int) + 1) false (-1) 62 (((i : Int) + 63) % 64) own wg = (0, 2, (i : Int) + 1, wg, hp, false, wr, false, own) := by
 have e0 : (rightV (i : Int) ((i : Int) + 1) && nodeB 62 && perB (((i : Int) + 63) % 64)) = true := by
  unfold rightV perB nodeB
  rw [decide_eq_true (show 0 ≤ (i : Int) ∧ (i : Int) < 64 by omega), decide_eq_true (show 0 ≤ (i : Int) + 1 ∧ (i : Int) + 1 < 64 by omega), decide_eq_false (show ¬ (i : Int) + 1 = (i : Int) by omega), decide_eq_true (show 0 ≤ ((i : Int) + 63) % 64 ∧ ((i : Int) + 63) % 64 < 64 by omega)]
  simp
 have e1 : nextF (i : Int) ((i : Int) + 1) false (-1) 62 (((i : Int) + 63) % 64) false = (2, (i : Int) + 1, false, 0) := by
  unfold nextF
  rw [if_pos e0, if_neg (by omega), if_neg (by omega), if_neg (by simp), if_neg (by simp; omega)]
 unfold onF
 rw [e1]
 rfl
theorem tw_ok (i : Nat) (hi : i < 20) {last own least : Int} (b : Bool) (h1 : 0 ≤ last ∧ last < 65536) (h2 : 0 ≤ own ∧ own < 65536) (h3 : 1 ≤ least ∧ least < 65536) (le : Bool) (hle : decide (last / least ≤ own / least) = le) (hb : (le && b) = false) : handF (argB 0 0 (64 - (i : Int)) 0 last 1 ([] : List Int).length (i : Int) ((i : Int) + 1) (((i : Int) + 63) % 64) own least) (nodeF (linkF 62)) (64 - (i : Int)) false b false last (i : Int) ((i : Int) + 1) false (-1) (((i : Int) + 63) % 64) own least = (0, 2, (i : Int) + 1, le, 64 - (i : Int) - 1, false, b || le, false, own) := by
 have hc : consB false last own least = !le := by
  unfold consB
  rw [← hle]
  show decide (own / least < last / least) = !decide (last / least ≤ own / least)
  by_cases h : last / least ≤ own / least
  · rw [decide_eq_true h, decide_eq_false (by omega)]; rfl
  · rw [decide_eq_false h, decide_eq_true (by omega)]; rfl
 unfold handF
 rw [show ([] : List Int).length = 0 from rfl, arg_tw i hi h1 h2 h3, node_link (by decide) (by decide), if_neg (by decide), if_neg (by decide), if_neg (by omega), if_neg (by omega), if_neg (by omega), if_neg (by simp), hc, if_neg (by rw [Bool.not_not, hb]; decide), Bool.not_not, tw_on i hi]
theorem tw_err (i : Nat) (hi : i < 20) {last own least : Int} (h1 : 0 ≤ last ∧ last < 65536) (h2 : 0 ≤ own ∧ own < 65536) (h3 : 1 ≤ least ∧ least < 65536) (hle : last / least ≤ own / least) : handF (argB 0 0 (64 - (i : Int)) 0 last 1 ([] : List Int).length (i : Int) ((i : Int) + 1) (((i : Int) + 63) % 64) own least) (nodeF (linkF 62)) (64 - (i : Int)) false true false last (i : Int) ((i : Int) + 1) false (-1) (((i : Int) + 63) % 64) own least = resE 11 := by
 have hc : consB false last own least = false := by
  unfold consB
  exact decide_eq_false (by omega)
 unfold handF
 rw [show ([] : List Int).length = 0 from rfl, arg_tw i hi h1 h2 h3, node_link (by decide) (by decide), if_neg (by decide), if_neg (by decide), if_neg (by omega), if_neg (by omega), if_neg (by omega), if_neg (by simp), hc, if_pos (by rfl)]
theorem R3_0_l : List.range (regOf Try.f3 0).size = [0] := by kernel_rfl
theorem R3_1_l : List.range (regOf Try.f3 1).size = [0, 1, 2, 3, 4, 5] := by kernel_rfl
theorem R3_2_l : List.range (regOf Try.f3 2).size = [0, 1, 2, 3, 4, 5, 6, 7] := by kernel_rfl
theorem R3_3_l : List.range (regOf Try.f3 3).size = [0, 1] := by kernel_rfl
theorem R3_5_l : List.range (regOf Try.f3 5).size = [0, 1] := by kernel_rfl
theorem R3_6_l : List.range (regOf Try.f3 6).size = [0] := by kernel_rfl
theorem R3_7_l : List.range (regOf Try.f3 7).size = [0, 1, 2, 3, 4, 5, 6, 7] := by kernel_rfl
theorem R3_9_l : List.range (regOf Try.f3 9).size = [0, 1, 2, 3, 4, 5, 6, 7] := by kernel_rfl
theorem R3_11_l : List.range (regOf Try.f3 11).size = [0, 1, 2] := by kernel_rfl
theorem R3_12_l : List.range (regOf Try.f3 12).size = [0, 1, 2, 3, 4, 5, 6, 7, 8, 9, 10, 11, 12, 13, 14, 15, 16] := by kernel_rfl
theorem R3_13_l : List.range (regOf Try.f3 13).size = [0, 1] := by kernel_rfl
theorem R3_14_l : List.range (regOf Try.f3 14).size = [0, 1, 2, 3, 4, 5] := by kernel_rfl
theorem R3_15_l : List.range (regOf Try.f3 15).size = [0, 1, 2, 3, 4, 5, 6, 7, 8, 9, 10, 11, 12, 13, 14, 15, 16, 17, 18, 19, 20, 21, 22] := by kernel_rfl
theorem R3_17_l : List.range (regOf Try.f3 17).size = [0, 1, 2, 3, 4] := by kernel_rfl
theorem R3_8_l : List.range (regOf Try.f3 8).size = [0, 1, 2] := by kernel_rfl
theorem R3_19_l : List.range (regOf Try.f3 19).size = [0, 1, 2, 3, 4, 5] := by kernel_rfl
theorem body3 : Try.f3.body = some (.seq (.region 0 (regOf Try.f3 0) false) (.seq (.region 1 (regOf Try.f3 1) false) (.seq (.region 2 (regOf Try.f3 2) false) (.seq (.seq (.region 3 (regOf Try.f3 3) false) (.cond (Operand.tmp 26) (.seq (.region 4 (regOf Try.f3 4) false) (.ret)) (.skip))) (.seq (.region 5 (regOf Try.f3 5) false) (.seq (.seq (.region 6 (regOf Try.f3 6) false) (.block 0 (.loop (.seq (.seq (.region 7 (regOf Try.f3 7) false) (.cond (Operand.tmp 34) (.skip) (.exit 0))) (.seq (.block 1 (.seq (.region 9 (regOf Try.f3 9) false) (.seq (.seq (.region 10 (regOf Try.f3 10) true) (.cond (Operand.tmp 50) (.region 11 (regOf Try.f3 11) false) (.skip))) (.seq (.region 12 (regOf Try.f3 12) false) (.seq (.seq (.region 13 (regOf Try.f3 13) false) (.cond (Operand.tmp 68) (.seq (.region 14 (regOf Try.f3 14) false) (.ret)) (.skip))) (.seq (.seq (.region 15 (regOf Try.f3 15) false) (.cond (Operand.tmp 96) (.seq (.region 16 (regOf Try.f3 16) false) (.ret)) (.skip))) (.region 17 (regOf Try.f3 17) false))))))) (.region 8 (regOf Try.f3 8) false)))))) (.seq (.region 18 (regOf Try.f3 18) true) (.seq (.region 19 (regOf Try.f3 19) false) (.ret))))))))) := by kernel_rfl
theorem p3_0_0 : pj (regOf Try.f3 0) 0 = some (some 4, .assign (.const (.bool false)), 4, none) := by kernel_rfl
theorem P3_1 : (List.range (regOf Try.f3 1).size).map (pj (regOf Try.f3 1)) = [zz 15 (.move (.tmp 1)) 3, zz 16 (.convert 3 23 (.tmp 15)) 23, zz 17 (.binOp .rem 23 (.tmp 16) (.const (.int .u64 65535)) 23) 23, zz 18 (.convert 23 3 (.tmp 17)) 3, zz 19 (.binOp .add 3 (.const (.int .i64 1)) (.tmp 18) 3) 3, zz 1 (.assign (.tmp 19)) 3] := by kernel_rfl
theorem P3_2 : (List.range (regOf Try.f3 2).size).map (pj (regOf Try.f3 2)) = [zz 21 (.build 41 #[(0, .const (.int .i64 63)), (1, .const (.int .i64 0))]) 41, zz 22 (.call { callee := .value (.func 6), args := #[.tmp 21, .const (.int .i64 62), .const (.int .i64 0), .const (.int .i64 65535), .const (.int .i64 1), .const (.slice none 0 0)], argTypes := #[41, 3, 3, 3, 3, 86] }) 37, zz 20 (.move (.tmp 22)) 37, zz 23 (.extract (.tmp 20) 0) 35, zz 24 (.extract (.tmp 20) 1) 36, zz 5 (.alloc 35) 0, some (none, .store 35 (.tmp 5) (.tmp 23), 0, none), zz 6 (.assign (.tmp 24)) 36] := by kernel_rfl
theorem cl6 : callable Try.f6 = true := by kernel_rfl
theorem tZ35 : (Try.prog.info? 35).bind (·.zero) = some (Value.agg (([Value.int .i64 0, Value.int .i64 0, Value.int .i64 0, Value.int .i64 0, Value.int .i64 0] ++ b16 (fun _ => 0) ++ b16 (fun _ => 0) ++ [Value.bool false, Value.int .i64 0, Value.int .i64 0, Value.int .i64 0, Value.int .i64 0, Value.int .i64 0, Value.int .i64 0, Value.int .i64 0, Value.int .i64 0, Value.int .i64 0, Value.bool false, Value.bool false] ++ b16 (fun _ => 0) ++ [Value.slice none 0 0, Value.bool false, Value.bool false, Value.bool false, Value.int .i64 0, Value.int .i64 0, Value.int .i64 0, Value.slice none 0 0])).toArray) := by kernel_rfl
theorem tS35 : (Try.prog.info? 35).map (·.size) = some 73 := by kernel_rfl
theorem P3_3 : (List.range (regOf Try.f3 3).size).map (pj (regOf Try.f3 3)) = [zz 25 (.move (.tmp 6)) 36, zz 26 (.binOp .neq 36 (.tmp 25) (.const (.int .i64 0)) 36) 4] := by kernel_rfl
theorem P3_5 : (List.range (regOf Try.f3 5).size).map (pj (regOf Try.f3 5)) = [zz 7 (.assign (.const (.int .i64 0))) 3, zz 8 (.assign (.const (.int .i64 65535))) 3] := by kernel_rfl
theorem p3_6_0 : pj (regOf Try.f3 6) 0 = some (some 9, .assign (.const (.int .i64 0)), 3, none) := by kernel_rfl
theorem P3_7 : (List.range (regOf Try.f3 7).size).map (pj (regOf Try.f3 7)) = [zz 27 (.move (.tmp 9)) 3, zz 28 (.move (.tmp 0)) 22, zz 29 (.call { callee := .builtin .len, args := #[.tmp 28], argTypes := #[22] }) 3, zz 30 (.binOp .lss 3 (.tmp 27) (.tmp 29) 3) 4, zz 31 (.move (.tmp 30)) 4, some (some 32, .move (.tmp 9), 3, some (4, true)), some (some 33, .binOp .lss 3 (.tmp 32) (.const (.int .i64 20)) 3, 4, some (4, true)), zz 34 (.pick (.tmp 31) (.tmp 33) (.const (.bool false))) 4] := by kernel_rfl
theorem g3_7_4 : dstOf (regOf Try.f3 7) 4 = some 31 := by kernel_rfl
theorem P3_9 : (List.range (regOf Try.f3 9).size).map (pj (regOf Try.f3 9)) = [zz 37 (.move (.tmp 0)) 22, zz 38 (.move (.tmp 9)) 3, zz 39 (.indexAddr 22 (.tmp 37) (.tmp 38)) 0, zz 40 (.load 3 (.tmp 39)) 3, zz 41 (.convert 3 23 (.tmp 40)) 23, zz 42 (.binOp .rem 23 (.tmp 41) (.const (.int .u64 65536)) 23) 23, zz 43 (.convert 23 3 (.tmp 42)) 3, zz 10 (.assign (.tmp 43)) 3] := by kernel_rfl
theorem tS3 : (Try.prog.info? 3).map (·.size) = some 1 := by kernel_rfl
theorem tA3 : (Try.prog.underlying 3).map aggD = some false := by kernel_rfl
theorem ns3_10 : Region.noSelect (regOf Try.f3 10) = true := by kernel_rfl
theorem p3_10_0 : pj (regOf Try.f3 10) 0 = some (some 44, .move (.tmp 8), 3, none) := by kernel_rfl
theorem p3_10_1 : pj (regOf Try.f3 10) 1 = some (some 45, .move (.tmp 1), 3, none) := by kernel_rfl
theorem p3_10_2 : pj (regOf Try.f3 10) 2 = some (some 46, .binOp .quo 3 (.tmp 44) (.tmp 45) 3, 3, none) := by kernel_rfl
theorem p3_10_3 : pj (regOf Try.f3 10) 3 = some (some 47, .move (.tmp 10), 3, none) := by kernel_rfl
theorem p3_10_4 : pj (regOf Try.f3 10) 4 = some (some 48, .move (.tmp 1), 3, none) := by kernel_rfl
theorem p3_10_5 : pj (regOf Try.f3 10) 5 = some (some 49, .binOp .quo 3 (.tmp 47) (.tmp 48) 3, 3, none) := by kernel_rfl
theorem p3_10_6 : pj (regOf Try.f3 10) 6 = some (some 50, .binOp .leq 3 (.tmp 46) (.tmp 49) 3, 4, none) := by kernel_rfl
theorem P3_11 : (List.range (regOf Try.f3 11).size).map (pj (regOf Try.f3 11)) = [zz 51 (.move (.tmp 7)) 3, zz 52 (.binOp .add 3 (.tmp 51) (.const (.int .i64 1)) 3) 3, zz 7 (.assign (.tmp 52)) 3] := by kernel_rfl
theorem P3_12 : (List.range (regOf Try.f3 12).size).map (pj (regOf Try.f3 12)) = [zz 54 (.load 35 (.tmp 5)) 35, zz 55 (.move (.tmp 9)) 3, zz 56 (.move (.tmp 9)) 3, zz 57 (.binOp .add 3 (.tmp 56) (.const (.int .i64 1)) 3) 3, zz 58 (.build 41 #[(0, .tmp 55), (1, .tmp 57)]) 41, zz 59 (.move (.tmp 9)) 3, zz 60 (.binOp .add 3 (.tmp 59) (.const (.int .i64 63)) 3) 3, zz 61 (.binOp .rem 3 (.tmp 60) (.const (.int .i64 64)) 3) 3, zz 62 (.move (.tmp 10)) 3, zz 63 (.move (.tmp 1)) 3, zz 64 (.call { callee := .value (.func 7), args := #[.tmp 54, .tmp 58, .tmp 61, .tmp 62, .tmp 63], argTypes := #[35, 41, 3, 3, 3] }) 44, zz 53 (.move (.tmp 64)) 44, zz 65 (.extract (.tmp 53) 0) 43, zz 66 (.extract (.tmp 53) 1) 36, zz 11 (.alloc 43) 0, some (none, .store 43 (.tmp 11) (.tmp 65), 0, none), zz 12 (.assign (.tmp 66)) 36] := by kernel_rfl
theorem tA35 : (Try.prog.underlying 35).map aggD = some true := by kernel_rfl
theorem cl7 : callable Try.f7 = true := by kernel_rfl
theorem tZ43 : (Try.prog.info? 43).bind (·.zero) = some (Value.agg (([Value.int .i64 0, Value.int .i64 0, Value.int .i64 0, Value.int .i64 0, Value.int .i64 0, Value.int .i64 0, Value.int .i64 0] ++ b16 (fun _ => 0) ++ b16 (fun _ => 0) ++ [Value.bool false, Value.int .i64 0, Value.int .i64 0, Value.int .i64 0, Value.int .i64 0, Value.int .i64 0, Value.int .i64 0, Value.int .i64 0, Value.int .i64 0, Value.int .i64 0, Value.bool false, Value.bool false] ++ b16 (fun _ => 0) ++ [Value.slice none 0 0, Value.bool false, Value.bool false, Value.bool false, Value.int .i64 0, Value.int .i64 0, Value.int .i64 0, Value.slice none 0 0, Value.bool false])).toArray) := by kernel_rfl
theorem tS43 : (Try.prog.info? 43).map (·.size) = some 76 := by kernel_rfl
theorem P3_13 : (List.range (regOf Try.f3 13).size).map (pj (regOf Try.f3 13)) = [zz 67 (.move (.tmp 7)) 3, zz 68 (.binOp .gtr 3 (.tmp 67) (.const (.int .i64 1)) 3) 4] := by kernel_rfl
theorem P3_14 : (List.range (regOf Try.f3 14).size).map (pj (regOf Try.f3 14)) = [zz 69 (.call { callee := .value (.func 8), args := #[], argTypes := #[] }) 4, zz 70 (.move (.tmp 69)) 4, some (some 71, .move (.tmp 12), 36, some (1, true)), some (some 72, .binOp .eql 36 (.tmp 71) (.const (.int .i64 11)) 36, 4, some (1, true)), zz 73 (.pick (.tmp 70) (.tmp 72) (.const (.bool false))) 4, zz 4 (.assign (.tmp 73)) 4] := by kernel_rfl
theorem cl8 : callable Try.f8 = true := by kernel_rfl
theorem g3_14_1 : dstOf (regOf Try.f3 14) 1 = some 70 := by kernel_rfl
theorem P3_15 : (List.range (regOf Try.f3 15).size).map (pj (regOf Try.f3 15)) = [zz 74 (.move (.tmp 12)) 36, zz 75 (.binOp .neq 36 (.tmp 74) (.const (.int .i64 0)) 36) 4, zz 76 (.move (.tmp 75)) 4, some (some 77, .fieldAddr 43 (.tmp 11) 0, 0, some (2, false)), some (some 78, .load 3 (.tmp 77), 3, some (2, false)), some (some 79, .binOp .neq 3 (.tmp 78) (.const (.int .i64 2)) 3, 4, some (2, false)), zz 80 (.pick (.tmp 76) (.const (.bool true)) (.tmp 79)) 4, zz 81 (.move (.tmp 80)) 4, some (some 82, .fieldAddr 43 (.tmp 11) 1, 0, some (7, false)), some (some 83, .load 3 (.tmp 82), 3, some (7, false)), some (some 84, .move (.tmp 9), 3, some (7, false)), some (some 85, .binOp .add 3 (.tmp 84) (.const (.int .i64 1)) 3, 3, some (7, false)), some (some 86, .binOp .neq 3 (.tmp 83) (.tmp 85) 3, 4, some (7, false)), zz 87 (.pick (.tmp 81) (.const (.bool true)) (.tmp 86)) 4, zz 88 (.move (.tmp 87)) 4, some (some 89, .fieldAddr 43 (.tmp 11) 2, 0, some (14, false)), some (some 90, .fieldAddr 35 (.tmp 89) 3, 0, some (14, false)), some (some 91, .fieldAddr 32 (.tmp 90) 1, 0, some (14, false)), some (some 92, .load 4 (.tmp 91), 4, some (14, false)), some (some 93, .move (.tmp 7), 3, some (14, false)), some (some 94, .binOp .eql 3 (.tmp 93) (.const (.int .i64 1)) 3, 4, some (14, false)), some (some 95, .binOp .neq 4 (.tmp 92) (.tmp 94) 4, 4, some (14, false)), zz 96 (.pick (.tmp 88) (.const (.bool true)) (.tmp 95)) 4] := by kernel_rfl
theorem g3_15_2 : dstOf (regOf Try.f3 15) 2 = some 76 := by kernel_rfl
theorem g3_15_7 : dstOf (regOf Try.f3 15) 7 = some 81 := by kernel_rfl
theorem g3_15_14 : dstOf (regOf Try.f3 15) 14 = some 88 := by kernel_rfl
theorem tS32 : (Try.prog.info? 32).map (·.size) = some 5 := by kernel_rfl
theorem tS4 : (Try.prog.info? 4).map (·.size) = some 1 := by kernel_rfl
theorem tA4 : (Try.prog.underlying 4).map aggD = some false := by kernel_rfl
theorem P3_17 : (List.range (regOf Try.f3 17).size).map (pj (regOf Try.f3 17)) = [zz 97 (.fieldAddr 43 (.tmp 11) 2) 0, zz 98 (.load 35 (.tmp 97)) 35, zz 99 (.move (.tmp 10)) 3, some (none, .store 35 (.tmp 5) (.tmp 98), 0, none), zz 8 (.assign (.tmp 99)) 3] := by kernel_rfl
theorem P3_8 : (List.range (regOf Try.f3 8).size).map (pj (regOf Try.f3 8)) = [zz 35 (.move (.tmp 9)) 3, zz 36 (.binOp .add 3 (.tmp 35) (.const (.int .i64 1)) 3) 3, zz 9 (.assign (.tmp 36)) 3] := by kernel_rfl
theorem ns3_18 : Region.noSelect (regOf Try.f3 18) = true := by kernel_rfl
theorem p3_18_2 : pj (regOf Try.f3 18) 2 = some (some 103, .fieldAddr 35 (.tmp 5) 2, 0, none) := by kernel_rfl
theorem tS30 : (Try.prog.info? 30).map (·.size) = some 28 := by kernel_rfl
theorem p3_18_3 : pj (regOf Try.f3 18) 3 = some (some 104, .load 30 (.tmp 103), 30, none) := by kernel_rfl
theorem tA30 : (Try.prog.underlying 30).map aggD = some true := by kernel_rfl
theorem p3_18_0 : pj (regOf Try.f3 18) 0 = some (some 101, .call { callee := .value (.func 11), args := #[], argTypes := #[] }, 25, none) := by kernel_rfl
theorem cl11 : callable Try.f11 = true := by kernel_rfl
theorem p3_18_1 : pj (regOf Try.f3 18) 1 = some (some 102, .call { callee := .value (.func 11), args := #[], argTypes := #[] }, 25, none) := by kernel_rfl
theorem p3_18_4 : pj (regOf Try.f3 18) 4 = some (some 105, .call { callee := .value (.func 10), args := #[.tmp 101, .tmp 102, .tmp 104], argTypes := #[25, 25, 30] }, 35, none) := by kernel_rfl
theorem cl10 : callable Try.f10 = true := by kernel_rfl
theorem p3_18_5 : pj (regOf Try.f3 18) 5 = some (some 106, .call { callee := .value (.func 9), args := #[.tmp 105], argTypes := #[35] }, 47, none) := by kernel_rfl
theorem cl9 : callable Try.f9 = true := by kernel_rfl
theorem p3_18_6 : pj (regOf Try.f3 18) 6 = some (some 100, .move (.tmp 106), 47, none) := by kernel_rfl
theorem p3_18_7 : pj (regOf Try.f3 18) 7 = some (some 107, .extract (.tmp 100) 0, 3, none) := by kernel_rfl
theorem p3_18_8 : pj (regOf Try.f3 18) 8 = some (some 108, .extract (.tmp 100) 1, 36, none) := by kernel_rfl
theorem p3_18_9 : pj (regOf Try.f3 18) 9 = some (some 13, .assign (.tmp 107), 3, none) := by kernel_rfl
theorem p3_18_10 : pj (regOf Try.f3 18) 10 = some (some 14, .assign (.tmp 108), 36, none) := by kernel_rfl
theorem P3_19 : (List.range (regOf Try.f3 19).size).map (pj (regOf Try.f3 19)) = [zz 109 (.call { callee := .value (.func 8), args := #[], argTypes := #[] }) 4, zz 110 (.move (.tmp 109)) 4, some (some 111, .move (.tmp 14), 36, some (1, true)), some (some 112, .binOp .eql 36 (.tmp 111) (.const (.int .i64 6)) 36, 4, some (1, true)), zz 113 (.pick (.tmp 110) (.tmp 112) (.const (.bool false))) 4, zz 4 (.assign (.tmp 113)) 4] := by kernel_rfl
theorem g3_19_1 : dstOf (regOf Try.f3 19) 1 = some 110 := by kernel_rfl
set_option maxHeartbeats 4000000 in
theorem walk (a0 : Option Addr) (cap0 : Nat) (z0 : List (Int)) (a1 : Int) (w : World) (w0 : Kd.C (Kd.int .i64) w a0 z0.length z0) (m0 : z0.length ≤ cap0) (o0 : (z0.length ≤ maxLen ∧ ∀ x0 ∈ z0, (Lit.int .i64 x0).wf = true)) (y0 : z0.length * Try.prog.bytesOf 3 ≤ 140737488351232) (c0 : cap0 ≤ maxLen ∧ (a0 = none → cap0 = 0)) (w1 : (Lit.int .i64 a1).wf = true) :
  Calls Try.prog 3 #[.slice a0 z0.length cap0, .int .i64 a1] w fun e w' => e = .returned (.bool true) ∧ Below w.heap.size w w' := by
 have K_0 := Kp.refl w (fun _ => False)
 have hzl := o0.1
 have hmx : maxLen ≤ 9223372036854775807 := by decide
 have ha1 : -9223372036854775808 ≤ a1 ∧ a1 ≤ 9223372036854775807 := by simpa [Lit.wf, IntKind.min, IntKind.max, IntKind.signed, IntKind.bits] using w1
 refine enter (args := [Value.slice a0 z0.length cap0, Value.int .i64 a1]) (n := 114) Try.func3 body3 rfl rfl rfl ?_
 intro a hE
 refine c_reg R3_0_l ?_
 refine q0 p3_0_0 hE (st_assign rfl) ?_; clear hE a; intro a hE
 refine p_nil (x_norm (c_reg R3_1_l ?_))
 refine qn hE (rc (pl P3_1 0) (st_move rfl) (rc (pl P3_1 1) (st_conv (z := (a1 % 18446744073709551616)) (by kernel_rfl) Try.underlying23 rfl (IntKind.wrap_u64 _)) (rc (pl P3_1 2) (st_rem (z := (a1 % 18446744073709551616) % 65535) rfl rfl (by decide) (Int.tmod_eq_emod_of_nonneg (by omega))) (rc (pl P3_1 3) (st_conv (z := ((a1 % 18446744073709551616) % 65535)) (by kernel_rfl) Try.underlying3 rfl (wr_i64 _ (by omega) (by omega))) (rc (pl P3_1 4) (st_add (z := 1 + ((a1 % 18446744073709551616) % 65535)) rfl rfl (wr_i64 _ (by omega) (by omega))) (rc (pl P3_1 5) (st_assign rfl) rn)))))) ?_; clear hE a; intro a hE
 refine p_nil (x_norm (c_reg R3_2_l ?_))
 obtain ⟨least, hgleast⟩ : ∃ y : Int, 1 + ((a1 % 18446744073709551616) % 65535) = y := ⟨_, rfl⟩
 rw [hgleast] at hE
 have hbleast : 1 ≤ least ∧ least < 65536 := by omega
 clear hgleast
 refine q0 (pl P3_2 0) hE (st_build (xs := [(0, Operand.const (Value.int IntKind.i64 63)), (1, Operand.const (Value.int IntKind.i64 0))]) (vs := [(0, Value.int .i64 63), (1, Value.int .i64 0)]) (cs := #[Value.int .i64 63, Value.int .i64 0, Value.bool false, Value.pointer none]) rfl (by kernel_rfl)) ?_; clear hE a; intro a hE
 refine p_cons (s_call (xs := [Operand.tmp 21, Operand.const (Value.int IntKind.i64 62), Operand.const (Value.int IntKind.i64 0), Operand.const (Value.int IntKind.i64 65535), Operand.const (Value.int IntKind.i64 1), Operand.const (Value.slice none 0 0)]) (args := [Value.agg #[Value.int .i64 63, Value.int .i64 0, Value.bool false, Value.pointer none], Value.int .i64 62, Value.int .i64 0, Value.int .i64 65535, Value.int .i64 1, Value.slice none 0 0]) (pl P3_2 1) hE wn_none rfl rfl Try.func6 cl6 (begin_ok 63 0 false (.pointer none) 62 0 65535 1 none 0 0 [] rfl (by decide +kernel) _ (fun W' hk => Kd.C_nil _ _) (by decide) (by decide) (by decide)) ?_)
 rintro e w3 ⟨A1, c2, rfl, _, hk⟩
 replace K_0 := K_0.then_ hk (fun _ h => h.elim)
 refine ⟨_, rfl, ?_⟩; clear hE a; intro a hE
 refine qn hE (rc (pl P3_2 2) (st_move rfl) (rc (pl P3_2 3) (st_extract rfl rfl) (rc (pl P3_2 4) (st_extract rfl rfl) rn))) ?_; clear hE a; intro a hE
 refine p_cons (s_alloc (pl P3_2 5) hE wn_none rfl tZ35 ?_)
 clear hE a; intro g4 w5 z6 B_g4 hk a hE
 replace B_g4 : w5.heap[g4]? = some (.cells (([Value.int .i64 0, Value.int .i64 0, Value.int .i64 0, Value.int .i64 0, Value.int .i64 0] ++ b16 (fun _ => 0) ++ b16 (fun _ => 0) ++ [Value.bool false, Value.int .i64 0, Value.int .i64 0, Value.int .i64 0, Value.int .i64 0, Value.int .i64 0, Value.int .i64 0, Value.int .i64 0, Value.int .i64 0, Value.int .i64 0, Value.bool false, Value.bool false] ++ b16 (fun _ => 0) ++ [Value.slice none 0 0, Value.bool false, Value.bool false, Value.bool false, Value.int .i64 0, Value.int .i64 0, Value.int .i64 0, Value.slice none 0 0])).toArray 35 (0, 0)) := B_g4
 have z_0_g4 := Nat.le_trans K_0.kept.1 z6
 replace K_0 := K_0.then_ hk (fun _ h => h.elim)
 clear hk
 refine p_cons (s_store (off := 0) (k := 73) (cs' := (PA 0 0 0 0 64 (linkF 63) (linkF 62) true zeroM false false false 0 65535 1 A1 0 c2).toArray) (pl P3_2 6) hE wn_none tS35 rfl rfl rfl (by exact ones_mv (a := ([Value.int .i64 0, Value.int .i64 0, Value.int .i64 0, Value.int .i64 0, Value.int .i64 64] ++ b16 (linkF 63) ++ b16 (linkF 62) ++ [Value.bool true])) (b := [Value.bool false, Value.bool false, Value.bool false, Value.int .i64 0, Value.int .i64 65535, Value.int .i64 1, Value.slice A1 0 c2]) hzeroM rfl rfl) B_g4 (Nat.le_of_ble_eq_true rfl) rfl ?_)
 intro w7 B_g4' hk
 replace K_0 := K_0.then_ hk (fun k h => by rw [show k = g4 from h]; exact Or.inr z_0_g4)
 replace B_g4 := B_g4'
 clear hk
 refine q0 (pl P3_2 7) hE (st_assign rfl) ?_; clear hE a; intro a hE
 refine p_nil (x_norm (wp_seq (c_reg R3_3_l ?_)))
 refine qn hE (rc (pl P3_3 0) (st_move rfl) (rc (pl P3_3 1) (st_neq (b := false) rfl rfl (by decide)) rn)) ?_; clear hE a; intro a hE
 refine p_nil (x_norm ?_)
 refine c_cond (t := false) hE rfl ?_
 refine wp_skip (x_norm (c_reg R3_5_l ?_))
 refine qn hE (rc (pl P3_5 0) (st_assign rfl) (rc (pl P3_5 1) (st_assign rfl) rn)) ?_; clear hE a; intro a hE
 refine p_nil (x_norm (wp_seq (c_reg R3_6_l ?_)))
 refine q0 p3_6_0 hE (st_assign rfl) ?_; clear hE a; intro a hE
 refine p_nil (x_norm (wp_block ?_))
 refine c_loop (α := Nat) (fun i a W => ∃ (b : Bool), ∃ (last : Int), ∃ (T : Option Addr), ∃ (cT : Nat), En 114 a [(0, Value.slice a0 z0.length cap0), (1, Value.int .i64 least), (5, Value.pointer (some ⟨g4, 0, none⟩)), (6, Value.int .i64 0), (26, Value.bool false), (7, Value.int .i64 (bif b then 1 else 0)), (8, Value.int .i64 last), (9, Value.int .i64 (i : Int))] ∧ i ≤ 20 ∧ (0 ≤ last ∧ last < 65536) ∧ W.heap[g4]? = some (.cells (PA 0 0 0 0 (64 - (i : Int)) (linkF 63) (linkF 62) true zeroM false b false 0 last 1 T 0 cT).toArray 35 (0, 0)) ∧ Kp w W (fun _ => False)) (fun i => 20 - i) (0) ?_ ?_
 ·
  exact ⟨false, 65535, A1, c2, En.sub hE ⟨rfl, rfl, rfl, rfl, rfl, rfl, rfl, rfl, trivial⟩, by decide, by decide, B_g4, K_0⟩
 ·
  clear hE a
  rintro i a w8 ⟨b, last, T, cT, hE, hi20, hlast, B_g4, K_0⟩
  refine wp_seq (c_reg R3_7_l ?_)
  refine qn hE (rc (pl P3_7 0) (st_move rfl) (rc (pl P3_7 1) (st_move rfl) (rc (pl P3_7 2) (st_len Try.underlying22 rfl) rn))) ?_; clear hE a; intro a hE
  rcases Decidable.em ((i : Int) < (z0.length : Int)) with hc9 | hc9
  ·
   refine qn hE (rg (v := Value.bool true) (pl P3_7 3) wn_none (st_lss rfl rfl (decide_eq_true hc9)) (rc (pl P3_7 4) (st_move rfl) (rg (pl P3_7 5) (wn_some g3_7_4 rfl rfl) (st_move rfl) rn))) ?_; clear hE a; intro a hE
   rcases Decidable.em ((i : Int) < 20) with hc10 | hc10
   ·
    refine qn hE (rg (v := Value.bool true) (pl P3_7 6) (wn_some g3_7_4 rfl rfl) (st_lss rfl rfl (decide_eq_true hc10)) (rc (pl P3_7 7) (st_pick rfl rfl) rn)) ?_; clear hE a; intro a hE
    refine p_nil (x_norm ?_)
    refine c_cond (t := true) hE rfl ?_
    refine wp_skip (x_norm (wp_seq (wp_block ?_)))
    rcases Decidable.em (b = true) with hBB | hBB
    ·
     have hb9 : b = true := by simpa using hBB
     subst hb9
     rw [show (bif true then (1 : Int) else 0) = 1 from rfl] at hE
     refine c_reg R3_9_l ?_
     refine qn hE (rc (pl P3_9 0) (st_move rfl) (rc (pl P3_9 1) (st_move rfl) (rc (pl P3_9 2) (st_indexAddrC (i := i) Try.underlying22 tS3 (C_to w0 K_0) rfl rfl (by omega)) (rc (v := Value.int .i64 (rd z0 (i : Int))) (pl P3_9 3) (st_loadC (i := i) tA3 (C_to w0 K_0) (by omega) rfl) (rc (pl P3_9 4) (st_conv (z := ((rd z0 (i : Int)) % 18446744073709551616)) (by kernel_rfl) Try.underlying23 rfl (IntKind.wrap_u64 _)) (rc (pl P3_9 5) (st_rem (z := ((rd z0 (i : Int)) % 18446744073709551616) % 65536) rfl rfl (by decide) (Int.tmod_eq_emod_of_nonneg (by omega))) (rc (pl P3_9 6) (st_conv (z := (((rd z0 (i : Int)) % 18446744073709551616) % 65536)) (by kernel_rfl) Try.underlying3 rfl (wr_i64 _ (by omega) (by omega))) (rc (pl P3_9 7) (st_assign rfl) rn)))))))) ?_; clear hE a; intro a hE
     refine p_nil (x_norm (wp_seq ?_))
     obtain ⟨own, hgown⟩ : ∃ y : Int, (((rd z0 (i : Int)) % 18446744073709551616) % 65536) = y := ⟨_, rfl⟩
     rw [hgown] at hE
     have hbown : 0 ≤ own ∧ own < 65536 := by omega
     clear hgown
     rcases Decidable.em (last / least ≤ own / least) with hLE | hLE
     ·
      refine c_drawS (S := fun W => W.heap[g4]? = some (.cells (PA 0 0 0 0 (64 - (i : Int)) (linkF 63) (linkF 62) true zeroM false true false 0 last 1 T 0 cT).toArray 35 (0, 0)) ∧ True) rfl rfl (listed := #[ι, ι, ι, ι, ι, ι, ι]) rfl ?_
      intro w11 hh hk
      replace B_g4 := kp_blk B_g4 hk (fun h => h)
      replace K_0 := K_0.then_ hk (fun _ h => h.elim)
      clear hh hk
      refine Rv.dm ns3_10 hE ⟨B_g4, trivial⟩ (Rv.dc p3_10_0 (fun W hS => (st_move rfl)) rfl (Rv.dc p3_10_1 (fun W hS => (st_move rfl)) rfl (Rv.dc (v := Value.int .i64 (last / least)) p3_10_2 (fun W hS => (st_quo (z := last / least) rfl rfl (by omega) (quoI (by omega) (by omega) (by omega)))) rfl (Rv.dc p3_10_3 (fun W hS => (st_move rfl)) rfl (Rv.dc p3_10_4 (fun W hS => (st_move rfl)) rfl (Rv.dc (v := Value.int .i64 (own / least)) p3_10_5 (fun W hS => (st_quo (z := own / least) rfl rfl (by omega) (quoI (by omega) (by omega) (by omega)))) rfl (Rv.dc (v := Value.bool true) p3_10_6 (fun W hS => (st_leq (b := true) rfl rfl (decide_eq_true hLE))) rfl Rv.dn))))))) ?_; clear hE a; intro a hE
      refine d_end (by kernel_rfl) ?_
      refine x_norm ?_
      refine c_cond (t := true) hE rfl ?_
      refine c_regL R3_11_l ?_
      refine qn hE (rc (pl P3_11 0) (st_move rfl) (rc (pl P3_11 1) (st_add (z := 2) rfl rfl (by decide)) (rc (pl P3_11 2) (st_assign rfl) rn))) ?_; clear hE a; intro a hE
      refine p_nil (x_norm (c_reg R3_12_l ?_))
      refine qn hE (rc (pl P3_12 0) (st_loadN (off := 0) (k := 73) (vs := (PA 0 0 0 0 (64 - (i : Int)) (linkF 63) (linkF 62) true zeroM false true false 0 last 1 T 0 cT)) tA35 tS35 rfl B_g4 rfl rfl) (rc (pl P3_12 1) (st_move rfl) (rc (pl P3_12 2) (st_move rfl) (rc (pl P3_12 3) (st_add (z := (i : Int) + 1) rfl rfl (wr_i64 _ (by omega) (by omega))) (rc (pl P3_12 4) (st_build (xs := [(0, Operand.tmp 55), (1, Operand.tmp 57)]) (vs := [(0, Value.int .i64 (i : Int)), (1, Value.int .i64 ((i : Int) + 1))]) (cs := #[Value.int .i64 (i : Int), Value.int .i64 ((i : Int) + 1), Value.bool false, Value.pointer none]) rfl (by kernel_rfl)) (rc (pl P3_12 5) (st_move rfl) (rc (pl P3_12 6) (st_add (z := (i : Int) + 63) rfl rfl (wr_i64 _ (by omega) (by omega))) (rc (pl P3_12 7) (st_rem (z := ((i : Int) + 63) % 64) rfl rfl (by decide) (Int.tmod_eq_emod_of_nonneg (by omega))) (rc (pl P3_12 8) (st_move rfl) (rc (pl P3_12 9) (st_move rfl) rn)))))))))) ?_; clear hE a; intro a hE
      refine p_cons (s_call (xs := [Operand.tmp 54, Operand.tmp 58, Operand.tmp 61, Operand.tmp 62, Operand.tmp 63]) (args := [Value.agg (PA 0 0 0 0 (64 - (i : Int)) (linkF 63) (linkF 62) true zeroM false true false 0 last 1 T 0 cT).toArray, Value.agg #[Value.int .i64 (i : Int), Value.int .i64 ((i : Int) + 1), Value.bool false, Value.pointer none], Value.int .i64 (((i : Int) + 63) % 64), Value.int .i64 own, Value.int .i64 least]) (pl P3_12 10) hE wn_none rfl rfl Try.func7 cl7 (handle_err 0 0 0 0 (64 - (i : Int)) (linkF 63) (linkF 62) zeroM false true false 0 last 1 T cT [] (i : Int) ((i : Int) + 1) false (.pointer none) (fun _ => -1) (fun _ => (0, 0, 0)) 13 (((i : Int) + 63) % 64) own least hzeroM (link_bd (by decide) (by decide)) 11 (tw_err i (by omega) hlast hbown hbleast hLE) (by decide) _ (tb_nil _ _) (fun W' hk => C_len0) (by decide)) ?_)
      rintro e w12 ⟨rfl, hk⟩
      replace B_g4 := kp_blk B_g4 hk (fun h => h)
      replace K_0 := K_0.then_ hk (fun _ h => h.elim)
      refine ⟨_, rfl, ?_⟩; clear hE a; intro a hE
      refine qn hE (rc (pl P3_12 11) (st_move rfl) (rc (pl P3_12 12) (st_extract rfl rfl) (rc (pl P3_12 13) (st_extract rfl rfl) rn))) ?_; clear hE a; intro a hE
      refine p_cons (s_alloc (pl P3_12 14) hE wn_none rfl tZ43 ?_)
      clear hE a; intro g13 w14 z15 B_g13 hk a hE
      replace B_g13 : w14.heap[g13]? = some (.cells (([Value.int .i64 0, Value.int .i64 0, Value.int .i64 0, Value.int .i64 0, Value.int .i64 0, Value.int .i64 0, Value.int .i64 0] ++ b16 (fun _ => 0) ++ b16 (fun _ => 0) ++ [Value.bool false, Value.int .i64 0, Value.int .i64 0, Value.int .i64 0, Value.int .i64 0, Value.int .i64 0, Value.int .i64 0, Value.int .i64 0, Value.int .i64 0, Value.int .i64 0, Value.bool false, Value.bool false] ++ b16 (fun _ => 0) ++ [Value.slice none 0 0, Value.bool false, Value.bool false, Value.bool false, Value.int .i64 0, Value.int .i64 0, Value.int .i64 0, Value.slice none 0 0, Value.bool false])).toArray 43 (0, 0)) := B_g13
      have n_g4_g13 : g4 ≠ g13 := ne_new B_g4 z15
      have z_0_g13 := Nat.le_trans K_0.kept.1 z15
      replace B_g4 := kp_blk B_g4 hk (fun h => h)
      replace K_0 := K_0.then_ hk (fun _ h => h.elim)
      clear hk
      refine p_cons (s_store (off := 0) (k := 76) (cs' := (([Value.int .i64 0, Value.int .i64 0, Value.int .i64 0, Value.int .i64 0, Value.int .i64 0, Value.int .i64 0, Value.int .i64 0] ++ b16 (fun _ => 0) ++ b16 (fun _ => 0) ++ [Value.bool false, Value.int .i64 0, Value.int .i64 0, Value.int .i64 0, Value.int .i64 0, Value.int .i64 0, Value.int .i64 0, Value.int .i64 0, Value.int .i64 0, Value.int .i64 0, Value.bool false, Value.bool false] ++ b16 (fun _ => 0) ++ [Value.slice none 0 0, Value.bool false, Value.bool false, Value.bool false, Value.int .i64 0, Value.int .i64 0, Value.int .i64 0, Value.slice none 0 0, Value.bool false])).toArray) (pl P3_12 15) hE wn_none tS43 rfl rfl rfl rfl B_g13 (Nat.le_of_ble_eq_true rfl) rfl ?_)
      intro w16 B_g13' hk
      replace B_g4 := kp_blk B_g4 hk n_g4_g13
      replace K_0 := K_0.then_ hk (fun k h => by rw [show k = g13 from h]; exact Or.inr z_0_g13)
      replace B_g13 := B_g13'
      clear hk
      refine q0 (pl P3_12 16) hE (st_assign rfl) ?_; clear hE a; intro a hE
      refine p_nil (x_norm (wp_seq (c_reg R3_13_l ?_)))
      refine qn hE (rc (pl P3_13 0) (st_move rfl) (rc (pl P3_13 1) (st_gtr (b := true) rfl rfl (by decide)) rn)) ?_; clear hE a; intro a hE
      refine p_nil (x_norm ?_)
      refine c_cond (t := true) hE rfl ?_
      refine c_reg R3_14_l ?_
      refine p_cons (s_call (xs := []) (args := []) (pl P3_14 0) hE wn_none rfl rfl Try.func8 cl8 (kn22  _) ?_)
      rintro e w17 ⟨rfl, hk⟩
      replace B_g4 := kp_blk B_g4 hk (fun h => h)
      replace B_g13 := kp_blk B_g13 hk (fun h => h)
      replace K_0 := K_0.then_ hk (fun _ h => h.elim)
      refine ⟨_, rfl, ?_⟩; clear hE a; intro a hE
      refine qn hE (rc (pl P3_14 1) (st_move rfl) (rg (pl P3_14 2) (wn_some g3_14_1 rfl rfl) (st_move rfl) (rg (pl P3_14 3) (wn_some g3_14_1 rfl rfl) (st_eql (b := true) rfl rfl (by decide)) (rc (pl P3_14 4) (st_pick rfl rfl) (rc (pl P3_14 5) (st_assign rfl) rn))))) ?_; clear hE a; intro a hE
      refine p_nil (x_norm (wp_ret (x_ret (x_retB (x_ret (x_ret (x_retB (x_ret ?_))))))))
      refine ret_one (v := Value.bool true) rfl hE (.tmp rfl .nil) ?_
      exact ⟨rfl, K_0.to (Nat.le_refl _) (fun _ h => h.elim)⟩
     ·
      refine c_drawS (S := fun W => W.heap[g4]? = some (.cells (PA 0 0 0 0 (64 - (i : Int)) (linkF 63) (linkF 62) true zeroM false true false 0 last 1 T 0 cT).toArray 35 (0, 0)) ∧ True) rfl rfl (listed := #[ι, ι, ι, ι, ι, ι, ι]) rfl ?_
      intro w18 hh hk
      replace B_g4 := kp_blk B_g4 hk (fun h => h)
      replace K_0 := K_0.then_ hk (fun _ h => h.elim)
      clear hh hk
      refine Rv.dm ns3_10 hE ⟨B_g4, trivial⟩ (Rv.dc p3_10_0 (fun W hS => (st_move rfl)) rfl (Rv.dc p3_10_1 (fun W hS => (st_move rfl)) rfl (Rv.dc (v := Value.int .i64 (last / least)) p3_10_2 (fun W hS => (st_quo (z := last / least) rfl rfl (by omega) (quoI (by omega) (by omega) (by omega)))) rfl (Rv.dc p3_10_3 (fun W hS => (st_move rfl)) rfl (Rv.dc p3_10_4 (fun W hS => (st_move rfl)) rfl (Rv.dc (v := Value.int .i64 (own / least)) p3_10_5 (fun W hS => (st_quo (z := own / least) rfl rfl (by omega) (quoI (by omega) (by omega) (by omega)))) rfl (Rv.dc (v := Value.bool false) p3_10_6 (fun W hS => (st_leq (b := false) rfl rfl (decide_eq_false hLE))) rfl Rv.dn))))))) ?_; clear hE a; intro a hE
      refine d_end (by kernel_rfl) ?_
      refine x_norm ?_
      refine c_cond (t := false) hE rfl ?_
      refine wp_skip (x_norm (c_reg R3_12_l ?_))
      refine qn hE (rc (pl P3_12 0) (st_loadN (off := 0) (k := 73) (vs := (PA 0 0 0 0 (64 - (i : Int)) (linkF 63) (linkF 62) true zeroM false true false 0 last 1 T 0 cT)) tA35 tS35 rfl B_g4 rfl rfl) (rc (pl P3_12 1) (st_move rfl) (rc (pl P3_12 2) (st_move rfl) (rc (pl P3_12 3) (st_add (z := (i : Int) + 1) rfl rfl (wr_i64 _ (by omega) (by omega))) (rc (pl P3_12 4) (st_build (xs := [(0, Operand.tmp 55), (1, Operand.tmp 57)]) (vs := [(0, Value.int .i64 (i : Int)), (1, Value.int .i64 ((i : Int) + 1))]) (cs := #[Value.int .i64 (i : Int), Value.int .i64 ((i : Int) + 1), Value.bool false, Value.pointer none]) rfl (by kernel_rfl)) (rc (pl P3_12 5) (st_move rfl) (rc (pl P3_12 6) (st_add (z := (i : Int) + 63) rfl rfl (wr_i64 _ (by omega) (by omega))) (rc (pl P3_12 7) (st_rem (z := ((i : Int) + 63) % 64) rfl rfl (by decide) (Int.tmod_eq_emod_of_nonneg (by omega))) (rc (pl P3_12 8) (st_move rfl) (rc (pl P3_12 9) (st_move rfl) rn)))))))))) ?_; clear hE a; intro a hE
      refine p_cons (s_call (xs := [Operand.tmp 54, Operand.tmp 58, Operand.tmp 61, Operand.tmp 62, Operand.tmp 63]) (args := [Value.agg (PA 0 0 0 0 (64 - (i : Int)) (linkF 63) (linkF 62) true zeroM false true false 0 last 1 T 0 cT).toArray, Value.agg #[Value.int .i64 (i : Int), Value.int .i64 ((i : Int) + 1), Value.bool false, Value.pointer none], Value.int .i64 (((i : Int) + 63) % 64), Value.int .i64 own, Value.int .i64 least]) (pl P3_12 10) hE wn_none rfl rfl Try.func7 cl7 (handle_ok 0 0 0 0 (64 - (i : Int)) (linkF 63) (linkF 62) zeroM false true false 0 last 1 T cT [] (i : Int) ((i : Int) + 1) false (.pointer none) (fun _ => -1) (fun _ => (0, 0, 0)) 13 (((i : Int) + 63) % 64) own least hzeroM (link_bd (by decide) (by decide)) 2 ((i : Int) + 1) false (64 - (i : Int) - 1) false (true || false) false own (tw_ok i (by omega) true hlast hbown hbleast false (decide_eq_false hLE) rfl) _ (tb_nil _ _) (fun W' hk => C_len0) (by decide)) ?_)
      rintro e w21 ⟨A19, c20, rfl, _, hk⟩
      replace B_g4 := kp_blk B_g4 hk (fun h => h)
      replace K_0 := K_0.then_ hk (fun _ h => h.elim)
      refine ⟨_, rfl, ?_⟩; clear hE a; intro a hE
      refine qn hE (rc (pl P3_12 11) (st_move rfl) (rc (pl P3_12 12) (st_extract rfl rfl) (rc (pl P3_12 13) (st_extract rfl rfl) rn))) ?_; clear hE a; intro a hE
      refine p_cons (s_alloc (pl P3_12 14) hE wn_none rfl tZ43 ?_)
      clear hE a; intro g22 w23 z24 B_g22 hk a hE
      replace B_g22 : w23.heap[g22]? = some (.cells (([Value.int .i64 0, Value.int .i64 0, Value.int .i64 0, Value.int .i64 0, Value.int .i64 0, Value.int .i64 0, Value.int .i64 0] ++ b16 (fun _ => 0) ++ b16 (fun _ => 0) ++ [Value.bool false, Value.int .i64 0, Value.int .i64 0, Value.int .i64 0, Value.int .i64 0, Value.int .i64 0, Value.int .i64 0, Value.int .i64 0, Value.int .i64 0, Value.int .i64 0, Value.bool false, Value.bool false] ++ b16 (fun _ => 0) ++ [Value.slice none 0 0, Value.bool false, Value.bool false, Value.bool false, Value.int .i64 0, Value.int .i64 0, Value.int .i64 0, Value.slice none 0 0, Value.bool false])).toArray 43 (0, 0)) := B_g22
      have n_g4_g22 : g4 ≠ g22 := ne_new B_g4 z24
      have z_0_g22 := Nat.le_trans K_0.kept.1 z24
      replace B_g4 := kp_blk B_g4 hk (fun h => h)
      replace K_0 := K_0.then_ hk (fun _ h => h.elim)
      clear hk
      refine p_cons (s_store (off := 0) (k := 76) (cs' := (RA 2 ((i : Int) + 1) 0 0 0 0 (64 - (i : Int) - 1) (linkF 63) (linkF 62) true zeroM false true false 0 own 1 A19 0 c20 false).toArray) (pl P3_12 15) hE wn_none tS43 rfl rfl rfl (by exact ones_mv (a := ([Value.int .i64 2, Value.int .i64 ((i : Int) + 1), Value.int .i64 0, Value.int .i64 0, Value.int .i64 0, Value.int .i64 0, Value.int .i64 (64 - (i : Int) - 1)] ++ b16 (linkF 63) ++ b16 (linkF 62) ++ [Value.bool true])) (b := [Value.bool false, Value.bool true, Value.bool false, Value.int .i64 0, Value.int .i64 own, Value.int .i64 1, Value.slice A19 0 c20, Value.bool false]) hzeroM rfl rfl) B_g22 (Nat.le_of_ble_eq_true rfl) rfl ?_)
      intro w25 B_g22' hk
      replace B_g4 := kp_blk B_g4 hk n_g4_g22
      replace K_0 := K_0.then_ hk (fun k h => by rw [show k = g22 from h]; exact Or.inr z_0_g22)
      replace B_g22 := B_g22'
      clear hk
      refine q0 (pl P3_12 16) hE (st_assign rfl) ?_; clear hE a; intro a hE
      refine p_nil (x_norm (wp_seq (c_reg R3_13_l ?_)))
      refine qn hE (rc (pl P3_13 0) (st_move rfl) (rc (pl P3_13 1) (st_gtr (b := false) rfl rfl (by decide)) rn)) ?_; clear hE a; intro a hE
      refine p_nil (x_norm ?_)
      refine c_cond (t := false) hE rfl ?_
      refine wp_skip (x_norm (wp_seq (c_reg R3_15_l ?_)))
      refine qn hE (rc (pl P3_15 0) (st_move rfl) (rc (pl P3_15 1) (st_neq (b := false) rfl rfl (by decide)) (rc (pl P3_15 2) (st_move rfl) (rg (pl P3_15 3) (wn_some g3_15_2 rfl rfl) (st_fieldAddr Try.underlying43 rfl tS3 rfl rfl) (rg (pl P3_15 4) (wn_some g3_15_2 rfl rfl) (st_load1 tA3 rfl ((blk_cell B_g22 0).trans rfl)) (rg (pl P3_15 5) (wn_some g3_15_2 rfl rfl) (st_neq (b := false) rfl rfl (by decide)) (rc (pl P3_15 6) (st_pick rfl rfl) (rc (pl P3_15 7) (st_move rfl) (rg (pl P3_15 8) (wn_some g3_15_7 rfl rfl) (st_fieldAddr Try.underlying43 rfl tS3 rfl rfl) (rg (pl P3_15 9) (wn_some g3_15_7 rfl rfl) (st_load1 tA3 rfl ((blk_cell B_g22 1).trans rfl)) (rg (pl P3_15 10) (wn_some g3_15_7 rfl rfl) (st_move rfl) (rg (pl P3_15 11) (wn_some g3_15_7 rfl rfl) (st_add (z := (i : Int) + 1) rfl rfl (wr_i64 _ (by omega) (by omega))) (rg (pl P3_15 12) (wn_some g3_15_7 rfl rfl) (st_neq (b := false) rfl rfl (by simp)) (rc (pl P3_15 13) (st_pick rfl rfl) (rc (pl P3_15 14) (st_move rfl) (rg (pl P3_15 15) (wn_some g3_15_14 rfl rfl) (st_fieldAddr Try.underlying43 rfl tS35 rfl rfl) (rg (pl P3_15 16) (wn_some g3_15_14 rfl rfl) (st_fieldAddr Try.underlying35 rfl tS32 rfl rfl) (rg (pl P3_15 17) (wn_some g3_15_14 rfl rfl) (st_fieldAddr Try.underlying32 rfl tS4 rfl rfl) (rg (pl P3_15 18) (wn_some g3_15_14 rfl rfl) (st_load1 tA4 rfl ((blk_cell B_g22 69).trans rfl)) (rg (pl P3_15 19) (wn_some g3_15_14 rfl rfl) (st_move rfl) (rg (pl P3_15 20) (wn_some g3_15_14 rfl rfl) (st_eql (b := true) rfl rfl (by decide)) (rg (pl P3_15 21) (wn_some g3_15_14 rfl rfl) (st_neqB (b := false) Try.underlying4 rfl rfl rfl) (rc (pl P3_15 22) (st_pick rfl rfl) rn))))))))))))))))))))))) ?_; clear hE a; intro a hE
      refine p_nil (x_norm ?_)
      refine c_cond (t := false) hE rfl ?_
      refine wp_skip (x_norm (c_regL R3_17_l ?_))
      refine qn hE (rc (pl P3_17 0) (st_fieldAddr Try.underlying43 rfl tS35 rfl rfl) (rc (pl P3_17 1) (st_loadN (off := 2) (k := 73) (vs := (PA 0 0 0 0 (64 - (i : Int) - 1) (linkF 63) (linkF 62) true zeroM false true false 0 own 1 A19 0 c20)) tA35 tS35 rfl B_g22 rfl rfl) (rc (pl P3_17 2) (st_move rfl) rn))) ?_; clear hE a; intro a hE
      refine p_cons (s_store (off := 0) (k := 73) (cs' := (PA 0 0 0 0 (64 - (i : Int) - 1) (linkF 63) (linkF 62) true zeroM false true false 0 own 1 A19 0 c20).toArray) (pl P3_17 3) hE wn_none tS35 rfl rfl rfl (by exact ones_mv (a := ([Value.int .i64 0, Value.int .i64 0, Value.int .i64 0, Value.int .i64 0, Value.int .i64 (64 - (i : Int) - 1)] ++ b16 (linkF 63) ++ b16 (linkF 62) ++ [Value.bool true])) (b := [Value.bool false, Value.bool true, Value.bool false, Value.int .i64 0, Value.int .i64 own, Value.int .i64 1, Value.slice A19 0 c20]) hzeroM rfl rfl) B_g4 (Nat.le_of_ble_eq_true rfl) rfl ?_)
      intro w26 B_g4' hk
      replace B_g22 := kp_blk B_g22 hk (Ne.symm n_g4_g22)
      replace K_0 := K_0.then_ hk (fun k h => by rw [show k = g4 from h]; exact Or.inr z_0_g4)
      replace B_g4 := B_g4'
      clear hk
      refine q0 (pl P3_17 4) hE (st_assign rfl) ?_; clear hE a; intro a hE
      refine p_nil (x_normB (x_norm (c_regL R3_8_l ?_)))
      refine qn hE (rc (pl P3_8 0) (st_move rfl) (rc (pl P3_8 1) (st_add (z := (i : Int) + 1) rfl rfl (wr_i64 _ (by omega) (by omega))) (rc (pl P3_8 2) (st_assign rfl) rn))) ?_; clear hE a; intro a hE
      refine p_nil (x_norm ?_)
      rw [show 64 - (i : Int) - 1 = 64 - ((i + 1 : Nat) : Int) by omega] at B_g4
      exact ⟨i + 1, by omega, true, own, A19, c20, En.sub hE ⟨rfl, rfl, rfl, rfl, rfl, rfl, rfl, rfl, trivial⟩, by omega, hbown, B_g4, K_0⟩
    ·
     have hb9 : b = false := by simpa using hBB
     subst hb9
     rw [show (bif false then (1 : Int) else 0) = 0 from rfl] at hE
     refine c_reg R3_9_l ?_
     refine qn hE (rc (pl P3_9 0) (st_move rfl) (rc (pl P3_9 1) (st_move rfl) (rc (pl P3_9 2) (st_indexAddrC (i := i) Try.underlying22 tS3 (C_to w0 K_0) rfl rfl (by omega)) (rc (v := Value.int .i64 (rd z0 (i : Int))) (pl P3_9 3) (st_loadC (i := i) tA3 (C_to w0 K_0) (by omega) rfl) (rc (pl P3_9 4) (st_conv (z := ((rd z0 (i : Int)) % 18446744073709551616)) (by kernel_rfl) Try.underlying23 rfl (IntKind.wrap_u64 _)) (rc (pl P3_9 5) (st_rem (z := ((rd z0 (i : Int)) % 18446744073709551616) % 65536) rfl rfl (by decide) (Int.tmod_eq_emod_of_nonneg (by omega))) (rc (pl P3_9 6) (st_conv (z := (((rd z0 (i : Int)) % 18446744073709551616) % 65536)) (by kernel_rfl) Try.underlying3 rfl (wr_i64 _ (by omega) (by omega))) (rc (pl P3_9 7) (st_assign rfl) rn)))))))) ?_; clear hE a; intro a hE
     refine p_nil (x_norm (wp_seq ?_))
     obtain ⟨own, hgown⟩ : ∃ y : Int, (((rd z0 (i : Int)) % 18446744073709551616) % 65536) = y := ⟨_, rfl⟩
     rw [hgown] at hE
     have hbown : 0 ≤ own ∧ own < 65536 := by omega
     clear hgown
     rcases Decidable.em (last / least ≤ own / least) with hLE | hLE
     ·
      refine c_drawS (S := fun W => W.heap[g4]? = some (.cells (PA 0 0 0 0 (64 - (i : Int)) (linkF 63) (linkF 62) true zeroM false false false 0 last 1 T 0 cT).toArray 35 (0, 0)) ∧ True) rfl rfl (listed := #[ι, ι, ι, ι, ι, ι, ι]) rfl ?_
      intro w27 hh hk
      replace B_g4 := kp_blk B_g4 hk (fun h => h)
      replace K_0 := K_0.then_ hk (fun _ h => h.elim)
      clear hh hk
      refine Rv.dm ns3_10 hE ⟨B_g4, trivial⟩ (Rv.dc p3_10_0 (fun W hS => (st_move rfl)) rfl (Rv.dc p3_10_1 (fun W hS => (st_move rfl)) rfl (Rv.dc (v := Value.int .i64 (last / least)) p3_10_2 (fun W hS => (st_quo (z := last / least) rfl rfl (by omega) (quoI (by omega) (by omega) (by omega)))) rfl (Rv.dc p3_10_3 (fun W hS => (st_move rfl)) rfl (Rv.dc p3_10_4 (fun W hS => (st_move rfl)) rfl (Rv.dc (v := Value.int .i64 (own / least)) p3_10_5 (fun W hS => (st_quo (z := own / least) rfl rfl (by omega) (quoI (by omega) (by omega) (by omega)))) rfl (Rv.dc (v := Value.bool true) p3_10_6 (fun W hS => (st_leq (b := true) rfl rfl (decide_eq_true hLE))) rfl Rv.dn))))))) ?_; clear hE a; intro a hE
      refine d_end (by kernel_rfl) ?_
      refine x_norm ?_
      refine c_cond (t := true) hE rfl ?_
      refine c_regL R3_11_l ?_
      refine qn hE (rc (pl P3_11 0) (st_move rfl) (rc (pl P3_11 1) (st_add (z := 1) rfl rfl (by decide)) (rc (pl P3_11 2) (st_assign rfl) rn))) ?_; clear hE a; intro a hE
      refine p_nil (x_norm (c_reg R3_12_l ?_))
      refine qn hE (rc (pl P3_12 0) (st_loadN (off := 0) (k := 73) (vs := (PA 0 0 0 0 (64 - (i : Int)) (linkF 63) (linkF 62) true zeroM false false false 0 last 1 T 0 cT)) tA35 tS35 rfl B_g4 rfl rfl) (rc (pl P3_12 1) (st_move rfl) (rc (pl P3_12 2) (st_move rfl) (rc (pl P3_12 3) (st_add (z := (i : Int) + 1) rfl rfl (wr_i64 _ (by omega) (by omega))) (rc (pl P3_12 4) (st_build (xs := [(0, Operand.tmp 55), (1, Operand.tmp 57)]) (vs := [(0, Value.int .i64 (i : Int)), (1, Value.int .i64 ((i : Int) + 1))]) (cs := #[Value.int .i64 (i : Int), Value.int .i64 ((i : Int) + 1), Value.bool false, Value.pointer none]) rfl (by kernel_rfl)) (rc (pl P3_12 5) (st_move rfl) (rc (pl P3_12 6) (st_add (z := (i : Int) + 63) rfl rfl (wr_i64 _ (by omega) (by omega))) (rc (pl P3_12 7) (st_rem (z := ((i : Int) + 63) % 64) rfl rfl (by decide) (Int.tmod_eq_emod_of_nonneg (by omega))) (rc (pl P3_12 8) (st_move rfl) (rc (pl P3_12 9) (st_move rfl) rn)))))))))) ?_; clear hE a; intro a hE
      refine p_cons (s_call (xs := [Operand.tmp 54, Operand.tmp 58, Operand.tmp 61, Operand.tmp 62, Operand.tmp 63]) (args := [Value.agg (PA 0 0 0 0 (64 - (i : Int)) (linkF 63) (linkF 62) true zeroM false false false 0 last 1 T 0 cT).toArray, Value.agg #[Value.int .i64 (i : Int), Value.int .i64 ((i : Int) + 1), Value.bool false, Value.pointer none], Value.int .i64 (((i : Int) + 63) % 64), Value.int .i64 own, Value.int .i64 least]) (pl P3_12 10) hE wn_none rfl rfl Try.func7 cl7 (handle_ok 0 0 0 0 (64 - (i : Int)) (linkF 63) (linkF 62) zeroM false false false 0 last 1 T cT [] (i : Int) ((i : Int) + 1) false (.pointer none) (fun _ => -1) (fun _ => (0, 0, 0)) 13 (((i : Int) + 63) % 64) own least hzeroM (link_bd (by decide) (by decide)) 2 ((i : Int) + 1) true (64 - (i : Int) - 1) false (false || true) false own (tw_ok i (by omega) false hlast hbown hbleast true (decide_eq_true hLE) rfl) _ (tb_nil _ _) (fun W' hk => C_len0) (by decide)) ?_)
      rintro e w30 ⟨A28, c29, rfl, _, hk⟩
      replace B_g4 := kp_blk B_g4 hk (fun h => h)
      replace K_0 := K_0.then_ hk (fun _ h => h.elim)
      refine ⟨_, rfl, ?_⟩; clear hE a; intro a hE
      refine qn hE (rc (pl P3_12 11) (st_move rfl) (rc (pl P3_12 12) (st_extract rfl rfl) (rc (pl P3_12 13) (st_extract rfl rfl) rn))) ?_; clear hE a; intro a hE
      refine p_cons (s_alloc (pl P3_12 14) hE wn_none rfl tZ43 ?_)
      clear hE a; intro g31 w32 z33 B_g31 hk a hE
      replace B_g31 : w32.heap[g31]? = some (.cells (([Value.int .i64 0, Value.int .i64 0, Value.int .i64 0, Value.int .i64 0, Value.int .i64 0, Value.int .i64 0, Value.int .i64 0] ++ b16 (fun _ => 0) ++ b16 (fun _ => 0) ++ [Value.bool false, Value.int .i64 0, Value.int .i64 0, Value.int .i64 0, Value.int .i64 0, Value.int .i64 0, Value.int .i64 0, Value.int .i64 0, Value.int .i64 0, Value.int .i64 0, Value.bool false, Value.bool false] ++ b16 (fun _ => 0) ++ [Value.slice none 0 0, Value.bool false, Value.bool false, Value.bool false, Value.int .i64 0, Value.int .i64 0, Value.int .i64 0, Value.slice none 0 0, Value.bool false])).toArray 43 (0, 0)) := B_g31
      have n_g4_g31 : g4 ≠ g31 := ne_new B_g4 z33
      have z_0_g31 := Nat.le_trans K_0.kept.1 z33
      replace B_g4 := kp_blk B_g4 hk (fun h => h)
      replace K_0 := K_0.then_ hk (fun _ h => h.elim)
      clear hk
      refine p_cons (s_store (off := 0) (k := 76) (cs' := (RA 2 ((i : Int) + 1) 0 0 0 0 (64 - (i : Int) - 1) (linkF 63) (linkF 62) true zeroM false true false 0 own 1 A28 0 c29 true).toArray) (pl P3_12 15) hE wn_none tS43 rfl rfl rfl (by exact ones_mv (a := ([Value.int .i64 2, Value.int .i64 ((i : Int) + 1), Value.int .i64 0, Value.int .i64 0, Value.int .i64 0, Value.int .i64 0, Value.int .i64 (64 - (i : Int) - 1)] ++ b16 (linkF 63) ++ b16 (linkF 62) ++ [Value.bool true])) (b := [Value.bool false, Value.bool true, Value.bool false, Value.int .i64 0, Value.int .i64 own, Value.int .i64 1, Value.slice A28 0 c29, Value.bool true]) hzeroM rfl rfl) B_g31 (Nat.le_of_ble_eq_true rfl) rfl ?_)
      intro w34 B_g31' hk
      replace B_g4 := kp_blk B_g4 hk n_g4_g31
      replace K_0 := K_0.then_ hk (fun k h => by rw [show k = g31 from h]; exact Or.inr z_0_g31)
      replace B_g31 := B_g31'
      clear hk
      refine q0 (pl P3_12 16) hE (st_assign rfl) ?_; clear hE a; intro a hE
      refine p_nil (x_norm (wp_seq (c_reg R3_13_l ?_)))
      refine qn hE (rc (pl P3_13 0) (st_move rfl) (rc (pl P3_13 1) (st_gtr (b := false) rfl rfl (by decide)) rn)) ?_; clear hE a; intro a hE
      refine p_nil (x_norm ?_)
      refine c_cond (t := false) hE rfl ?_
      refine wp_skip (x_norm (wp_seq (c_reg R3_15_l ?_)))
      refine qn hE (rc (pl P3_15 0) (st_move rfl) (rc (pl P3_15 1) (st_neq (b := false) rfl rfl (by decide)) (rc (pl P3_15 2) (st_move rfl) (rg (pl P3_15 3) (wn_some g3_15_2 rfl rfl) (st_fieldAddr Try.underlying43 rfl tS3 rfl rfl) (rg (pl P3_15 4) (wn_some g3_15_2 rfl rfl) (st_load1 tA3 rfl ((blk_cell B_g31 0).trans rfl)) (rg (pl P3_15 5) (wn_some g3_15_2 rfl rfl) (st_neq (b := false) rfl rfl (by decide)) (rc (pl P3_15 6) (st_pick rfl rfl) (rc (pl P3_15 7) (st_move rfl) (rg (pl P3_15 8) (wn_some g3_15_7 rfl rfl) (st_fieldAddr Try.underlying43 rfl tS3 rfl rfl) (rg (pl P3_15 9) (wn_some g3_15_7 rfl rfl) (st_load1 tA3 rfl ((blk_cell B_g31 1).trans rfl)) (rg (pl P3_15 10) (wn_some g3_15_7 rfl rfl) (st_move rfl) (rg (pl P3_15 11) (wn_some g3_15_7 rfl rfl) (st_add (z := (i : Int) + 1) rfl rfl (wr_i64 _ (by omega) (by omega))) (rg (pl P3_15 12) (wn_some g3_15_7 rfl rfl) (st_neq (b := false) rfl rfl (by simp)) (rc (pl P3_15 13) (st_pick rfl rfl) (rc (pl P3_15 14) (st_move rfl) (rg (pl P3_15 15) (wn_some g3_15_14 rfl rfl) (st_fieldAddr Try.underlying43 rfl tS35 rfl rfl) (rg (pl P3_15 16) (wn_some g3_15_14 rfl rfl) (st_fieldAddr Try.underlying35 rfl tS32 rfl rfl) (rg (pl P3_15 17) (wn_some g3_15_14 rfl rfl) (st_fieldAddr Try.underlying32 rfl tS4 rfl rfl) (rg (pl P3_15 18) (wn_some g3_15_14 rfl rfl) (st_load1 tA4 rfl ((blk_cell B_g31 69).trans rfl)) (rg (pl P3_15 19) (wn_some g3_15_14 rfl rfl) (st_move rfl) (rg (pl P3_15 20) (wn_some g3_15_14 rfl rfl) (st_eql (b := true) rfl rfl (by decide)) (rg (pl P3_15 21) (wn_some g3_15_14 rfl rfl) (st_neqB (b := false) Try.underlying4 rfl rfl rfl) (rc (pl P3_15 22) (st_pick rfl rfl) rn))))))))))))))))))))))) ?_; clear hE a; intro a hE
      refine p_nil (x_norm ?_)
      refine c_cond (t := false) hE rfl ?_
      refine wp_skip (x_norm (c_regL R3_17_l ?_))
      refine qn hE (rc (pl P3_17 0) (st_fieldAddr Try.underlying43 rfl tS35 rfl rfl) (rc (pl P3_17 1) (st_loadN (off := 2) (k := 73) (vs := (PA 0 0 0 0 (64 - (i : Int) - 1) (linkF 63) (linkF 62) true zeroM false true false 0 own 1 A28 0 c29)) tA35 tS35 rfl B_g31 rfl rfl) (rc (pl P3_17 2) (st_move rfl) rn))) ?_; clear hE a; intro a hE
      refine p_cons (s_store (off := 0) (k := 73) (cs' := (PA 0 0 0 0 (64 - (i : Int) - 1) (linkF 63) (linkF 62) true zeroM false true false 0 own 1 A28 0 c29).toArray) (pl P3_17 3) hE wn_none tS35 rfl rfl rfl (by exact ones_mv (a := ([Value.int .i64 0, Value.int .i64 0, Value.int .i64 0, Value.int .i64 0, Value.int .i64 (64 - (i : Int) - 1)] ++ b16 (linkF 63) ++ b16 (linkF 62) ++ [Value.bool true])) (b := [Value.bool false, Value.bool true, Value.bool false, Value.int .i64 0, Value.int .i64 own, Value.int .i64 1, Value.slice A28 0 c29]) hzeroM rfl rfl) B_g4 (Nat.le_of_ble_eq_true rfl) rfl ?_)
      intro w35 B_g4' hk
      replace B_g31 := kp_blk B_g31 hk (Ne.symm n_g4_g31)
      replace K_0 := K_0.then_ hk (fun k h => by rw [show k = g4 from h]; exact Or.inr z_0_g4)
      replace B_g4 := B_g4'
      clear hk
      refine q0 (pl P3_17 4) hE (st_assign rfl) ?_; clear hE a; intro a hE
      refine p_nil (x_normB (x_norm (c_regL R3_8_l ?_)))
      refine qn hE (rc (pl P3_8 0) (st_move rfl) (rc (pl P3_8 1) (st_add (z := (i : Int) + 1) rfl rfl (wr_i64 _ (by omega) (by omega))) (rc (pl P3_8 2) (st_assign rfl) rn))) ?_; clear hE a; intro a hE
      refine p_nil (x_norm ?_)
      rw [show 64 - (i : Int) - 1 = 64 - ((i + 1 : Nat) : Int) by omega] at B_g4
      exact ⟨i + 1, by omega, true, own, A28, c29, En.sub hE ⟨rfl, rfl, rfl, rfl, rfl, rfl, rfl, rfl, trivial⟩, by omega, hbown, B_g4, K_0⟩
     ·
      refine c_drawS (S := fun W => W.heap[g4]? = some (.cells (PA 0 0 0 0 (64 - (i : Int)) (linkF 63) (linkF 62) true zeroM false false false 0 last 1 T 0 cT).toArray 35 (0, 0)) ∧ True) rfl rfl (listed := #[ι, ι, ι, ι, ι, ι, ι]) rfl ?_
      intro w36 hh hk
      replace B_g4 := kp_blk B_g4 hk (fun h => h)
      replace K_0 := K_0.then_ hk (fun _ h => h.elim)
      clear hh hk
      refine Rv.dm ns3_10 hE ⟨B_g4, trivial⟩ (Rv.dc p3_10_0 (fun W hS => (st_move rfl)) rfl (Rv.dc p3_10_1 (fun W hS => (st_move rfl)) rfl (Rv.dc (v := Value.int .i64 (last / least)) p3_10_2 (fun W hS => (st_quo (z := last / least) rfl rfl (by omega) (quoI (by omega) (by omega) (by omega)))) rfl (Rv.dc p3_10_3 (fun W hS => (st_move rfl)) rfl (Rv.dc p3_10_4 (fun W hS => (st_move rfl)) rfl (Rv.dc (v := Value.int .i64 (own / least)) p3_10_5 (fun W hS => (st_quo (z := own / least) rfl rfl (by omega) (quoI (by omega) (by omega) (by omega)))) rfl (Rv.dc (v := Value.bool false) p3_10_6 (fun W hS => (st_leq (b := false) rfl rfl (decide_eq_false hLE))) rfl Rv.dn))))))) ?_; clear hE a; intro a hE
      refine d_end (by kernel_rfl) ?_
      refine x_norm ?_
      refine c_cond (t := false) hE rfl ?_
      refine wp_skip (x_norm (c_reg R3_12_l ?_))
      refine qn hE (rc (pl P3_12 0) (st_loadN (off := 0) (k := 73) (vs := (PA 0 0 0 0 (64 - (i : Int)) (linkF 63) (linkF 62) true zeroM false false false 0 last 1 T 0 cT)) tA35 tS35 rfl B_g4 rfl rfl) (rc (pl P3_12 1) (st_move rfl) (rc (pl P3_12 2) (st_move rfl) (rc (pl P3_12 3) (st_add (z := (i : Int) + 1) rfl rfl (wr_i64 _ (by omega) (by omega))) (rc (pl P3_12 4) (st_build (xs := [(0, Operand.tmp 55), (1, Operand.tmp 57)]) (vs := [(0, Value.int .i64 (i : Int)), (1, Value.int .i64 ((i : Int) + 1))]) (cs := #[Value.int .i64 (i : Int), Value.int .i64 ((i : Int) + 1), Value.bool false, Value.pointer none]) rfl (by kernel_rfl)) (rc (pl P3_12 5) (st_move rfl) (rc (pl P3_12 6) (st_add (z := (i : Int) + 63) rfl rfl (wr_i64 _ (by omega) (by omega))) (rc (pl P3_12 7) (st_rem (z := ((i : Int) + 63) % 64) rfl rfl (by decide) (Int.tmod_eq_emod_of_nonneg (by omega))) (rc (pl P3_12 8) (st_move rfl) (rc (pl P3_12 9) (st_move rfl) rn)))))))))) ?_; clear hE a; intro a hE
      refine p_cons (s_call (xs := [Operand.tmp 54, Operand.tmp 58, Operand.tmp 61, Operand.tmp 62, Operand.tmp 63]) (args := [Value.agg (PA 0 0 0 0 (64 - (i : Int)) (linkF 63) (linkF 62) true zeroM false false false 0 last 1 T 0 cT).toArray, Value.agg #[Value.int .i64 (i : Int), Value.int .i64 ((i : Int) + 1), Value.bool false, Value.pointer none], Value.int .i64 (((i : Int) + 63) % 64), Value.int .i64 own, Value.int .i64 least]) (pl P3_12 10) hE wn_none rfl rfl Try.func7 cl7 (handle_ok 0 0 0 0 (64 - (i : Int)) (linkF 63) (linkF 62) zeroM false false false 0 last 1 T cT [] (i : Int) ((i : Int) + 1) false (.pointer none) (fun _ => -1) (fun _ => (0, 0, 0)) 13 (((i : Int) + 63) % 64) own least hzeroM (link_bd (by decide) (by decide)) 2 ((i : Int) + 1) false (64 - (i : Int) - 1) false (false || false) false own (tw_ok i (by omega) false hlast hbown hbleast false (decide_eq_false hLE) rfl) _ (tb_nil _ _) (fun W' hk => C_len0) (by decide)) ?_)
      rintro e w39 ⟨A37, c38, rfl, _, hk⟩
      replace B_g4 := kp_blk B_g4 hk (fun h => h)
      replace K_0 := K_0.then_ hk (fun _ h => h.elim)
      refine ⟨_, rfl, ?_⟩; clear hE a; intro a hE
      refine qn hE (rc (pl P3_12 11) (st_move rfl) (rc (pl P3_12 12) (st_extract rfl rfl) (rc (pl P3_12 13) (st_extract rfl rfl) rn))) ?_; clear hE a; intro a hE
      refine p_cons (s_alloc (pl P3_12 14) hE wn_none rfl tZ43 ?_)
      clear hE a; intro g40 w41 z42 B_g40 hk a hE
      replace B_g40 : w41.heap[g40]? = some (.cells (([Value.int .i64 0, Value.int .i64 0, Value.int .i64 0, Value.int .i64 0, Value.int .i64 0, Value.int .i64 0, Value.int .i64 0] ++ b16 (fun _ => 0) ++ b16 (fun _ => 0) ++ [Value.bool false, Value.int .i64 0, Value.int .i64 0, Value.int .i64 0, Value.int .i64 0, Value.int .i64 0, Value.int .i64 0, Value.int .i64 0, Value.int .i64 0, Value.int .i64 0, Value.bool false, Value.bool false] ++ b16 (fun _ => 0) ++ [Value.slice none 0 0, Value.bool false, Value.bool false, Value.bool false, Value.int .i64 0, Value.int .i64 0, Value.int .i64 0, Value.slice none 0 0, Value.bool false])).toArray 43 (0, 0)) := B_g40
      have n_g4_g40 : g4 ≠ g40 := ne_new B_g4 z42
      have z_0_g40 := Nat.le_trans K_0.kept.1 z42
      replace B_g4 := kp_blk B_g4 hk (fun h => h)
      replace K_0 := K_0.then_ hk (fun _ h => h.elim)
      clear hk
      refine p_cons (s_store (off := 0) (k := 76) (cs' := (RA 2 ((i : Int) + 1) 0 0 0 0 (64 - (i : Int) - 1) (linkF 63) (linkF 62) true zeroM false false false 0 own 1 A37 0 c38 false).toArray) (pl P3_12 15) hE wn_none tS43 rfl rfl rfl (by exact ones_mv (a := ([Value.int .i64 2, Value.int .i64 ((i : Int) + 1), Value.int .i64 0, Value.int .i64 0, Value.int .i64 0, Value.int .i64 0, Value.int .i64 (64 - (i : Int) - 1)] ++ b16 (linkF 63) ++ b16 (linkF 62) ++ [Value.bool true])) (b := [Value.bool false, Value.bool false, Value.bool false, Value.int .i64 0, Value.int .i64 own, Value.int .i64 1, Value.slice A37 0 c38, Value.bool false]) hzeroM rfl rfl) B_g40 (Nat.le_of_ble_eq_true rfl) rfl ?_)
      intro w43 B_g40' hk
      replace B_g4 := kp_blk B_g4 hk n_g4_g40
      replace K_0 := K_0.then_ hk (fun k h => by rw [show k = g40 from h]; exact Or.inr z_0_g40)
      replace B_g40 := B_g40'
      clear hk
      refine q0 (pl P3_12 16) hE (st_assign rfl) ?_; clear hE a; intro a hE
      refine p_nil (x_norm (wp_seq (c_reg R3_13_l ?_)))
      refine qn hE (rc (pl P3_13 0) (st_move rfl) (rc (pl P3_13 1) (st_gtr (b := false) rfl rfl (by decide)) rn)) ?_; clear hE a; intro a hE
      refine p_nil (x_norm ?_)
      refine c_cond (t := false) hE rfl ?_
      refine wp_skip (x_norm (wp_seq (c_reg R3_15_l ?_)))
      refine qn hE (rc (pl P3_15 0) (st_move rfl) (rc (pl P3_15 1) (st_neq (b := false) rfl rfl (by decide)) (rc (pl P3_15 2) (st_move rfl) (rg (pl P3_15 3) (wn_some g3_15_2 rfl rfl) (st_fieldAddr Try.underlying43 rfl tS3 rfl rfl) (rg (pl P3_15 4) (wn_some g3_15_2 rfl rfl) (st_load1 tA3 rfl ((blk_cell B_g40 0).trans rfl)) (rg (pl P3_15 5) (wn_some g3_15_2 rfl rfl) (st_neq (b := false) rfl rfl (by decide)) (rc (pl P3_15 6) (st_pick rfl rfl) (rc (pl P3_15 7) (st_move rfl) (rg (pl P3_15 8) (wn_some g3_15_7 rfl rfl) (st_fieldAddr Try.underlying43 rfl tS3 rfl rfl) (rg (pl P3_15 9) (wn_some g3_15_7 rfl rfl) (st_load1 tA3 rfl ((blk_cell B_g40 1).trans rfl)) (rg (pl P3_15 10) (wn_some g3_15_7 rfl rfl) (st_move rfl) (rg (pl P3_15 11) (wn_some g3_15_7 rfl rfl) (st_add (z := (i : Int) + 1) rfl rfl (wr_i64 _ (by omega) (by omega))) (rg (pl P3_15 12) (wn_some g3_15_7 rfl rfl) (st_neq (b := false) rfl rfl (by simp)) (rc (pl P3_15 13) (st_pick rfl rfl) (rc (pl P3_15 14) (st_move rfl) (rg (pl P3_15 15) (wn_some g3_15_14 rfl rfl) (st_fieldAddr Try.underlying43 rfl tS35 rfl rfl) (rg (pl P3_15 16) (wn_some g3_15_14 rfl rfl) (st_fieldAddr Try.underlying35 rfl tS32 rfl rfl) (rg (pl P3_15 17) (wn_some g3_15_14 rfl rfl) (st_fieldAddr Try.underlying32 rfl tS4 rfl rfl) (rg (pl P3_15 18) (wn_some g3_15_14 rfl rfl) (st_load1 tA4 rfl ((blk_cell B_g40 69).trans rfl)) (rg (pl P3_15 19) (wn_some g3_15_14 rfl rfl) (st_move rfl) (rg (pl P3_15 20) (wn_some g3_15_14 rfl rfl) (st_eql (b := false) rfl rfl (by decide)) (rg (pl P3_15 21) (wn_some g3_15_14 rfl rfl) (st_neqB (b := false) Try.underlying4 rfl rfl rfl) (rc (pl P3_15 22) (st_pick rfl rfl) rn))))))))))))))))))))))) ?_; clear hE a; intro a hE
      refine p_nil (x_norm ?_)
      refine c_cond (t := false) hE rfl ?_
      refine wp_skip (x_norm (c_regL R3_17_l ?_))
      refine qn hE (rc (pl P3_17 0) (st_fieldAddr Try.underlying43 rfl tS35 rfl rfl) (rc (pl P3_17 1) (st_loadN (off := 2) (k := 73) (vs := (PA 0 0 0 0 (64 - (i : Int) - 1) (linkF 63) (linkF 62) true zeroM false false false 0 own 1 A37 0 c38)) tA35 tS35 rfl B_g40 rfl rfl) (rc (pl P3_17 2) (st_move rfl) rn))) ?_; clear hE a; intro a hE
      refine p_cons (s_store (off := 0) (k := 73) (cs' := (PA 0 0 0 0 (64 - (i : Int) - 1) (linkF 63) (linkF 62) true zeroM false false false 0 own 1 A37 0 c38).toArray) (pl P3_17 3) hE wn_none tS35 rfl rfl rfl (by exact ones_mv (a := ([Value.int .i64 0, Value.int .i64 0, Value.int .i64 0, Value.int .i64 0, Value.int .i64 (64 - (i : Int) - 1)] ++ b16 (linkF 63) ++ b16 (linkF 62) ++ [Value.bool true])) (b := [Value.bool false, Value.bool false, Value.bool false, Value.int .i64 0, Value.int .i64 own, Value.int .i64 1, Value.slice A37 0 c38]) hzeroM rfl rfl) B_g4 (Nat.le_of_ble_eq_true rfl) rfl ?_)
      intro w44 B_g4' hk
      replace B_g40 := kp_blk B_g40 hk (Ne.symm n_g4_g40)
      replace K_0 := K_0.then_ hk (fun k h => by rw [show k = g4 from h]; exact Or.inr z_0_g4)
      replace B_g4 := B_g4'
      clear hk
      refine q0 (pl P3_17 4) hE (st_assign rfl) ?_; clear hE a; intro a hE
      refine p_nil (x_normB (x_norm (c_regL R3_8_l ?_)))
      refine qn hE (rc (pl P3_8 0) (st_move rfl) (rc (pl P3_8 1) (st_add (z := (i : Int) + 1) rfl rfl (wr_i64 _ (by omega) (by omega))) (rc (pl P3_8 2) (st_assign rfl) rn))) ?_; clear hE a; intro a hE
      refine p_nil (x_norm ?_)
      rw [show 64 - (i : Int) - 1 = 64 - ((i + 1 : Nat) : Int) by omega] at B_g4
      exact ⟨i + 1, by omega, false, own, A37, c38, En.sub hE ⟨rfl, rfl, rfl, rfl, rfl, rfl, rfl, rfl, trivial⟩, by omega, hbown, B_g4, K_0⟩
   ·
    refine qn hE (rg (v := Value.bool false) (pl P3_7 6) (wn_some g3_7_4 rfl rfl) (st_lss rfl rfl (decide_eq_false hc10)) (rc (pl P3_7 7) (st_pick rfl rfl) rn)) ?_; clear hE a; intro a hE
    refine p_nil (x_norm ?_)
    refine c_cond (t := false) hE rfl ?_
    refine wp_exit (x_exit (x_exit (x_in (x_norm ?_))))
    refine c_drawS (S := fun W => W.heap[g4]? = some (.cells (PA 0 0 0 0 (64 - (i : Int)) (linkF 63) (linkF 62) true zeroM false b false 0 last 1 T 0 cT).toArray 35 (0, 0)) ∧ True) rfl rfl (listed := #[ι, ι, ι, ι, ι, ι, ι, ι, ι, ι, ι]) rfl ?_
    intro w45 hh hk
    replace B_g4 := kp_blk B_g4 hk (fun h => h)
    replace K_0 := K_0.then_ hk (fun _ h => h.elim)
    clear hh hk
    refine Rv.dm ns3_18 hE ⟨B_g4, trivial⟩ (Rv.dc (v := Value.pointer (some ⟨g4, 38, none⟩)) p3_18_2 (fun W hS => (st_fieldAddr Try.underlying35 rfl tS30 rfl rfl)) rfl (Rv.dc (v := Value.agg (rN zeroM).toArray) p3_18_3 (fun W hS => (st_loadN (off := 38) (k := 28) (vs := rN zeroM) tA30 tS30 rfl hS.1 rfl rfl)) rfl Rv.dn)) ?_; clear hE a; intro a hE
    refine d_one (by kernel_rfl) rfl (s_call (xs := []) (args := []) p3_18_0 hE wn_none rfl rfl Try.func11 cl11 (all_any  _) ?_)
    rintro e w46 ⟨rfl, hk⟩
    replace B_g4 := kp_blk B_g4 hk (fun h => h)
    replace K_0 := K_0.then_ hk (fun _ h => h.elim)
    refine ⟨_, rfl, ?_⟩; clear hE a; intro a hE
    refine ⟨⟨B_g4, trivial⟩, ?_⟩
    refine d_one (by kernel_rfl) rfl (s_call (xs := []) (args := []) p3_18_1 hE wn_none rfl rfl Try.func11 cl11 (all_any  _) ?_)
    rintro e w47 ⟨rfl, hk⟩
    replace B_g4 := kp_blk B_g4 hk (fun h => h)
    replace K_0 := K_0.then_ hk (fun _ h => h.elim)
    refine ⟨_, rfl, ?_⟩; clear hE a; intro a hE
    refine ⟨⟨B_g4, trivial⟩, ?_⟩
    refine d_one (by kernel_rfl) rfl (s_call (xs := [Operand.tmp 101, Operand.tmp 102, Operand.tmp 104]) (args := [Value.agg (b16 allF).toArray, Value.agg (b16 allF).toArray, Value.agg (rN zeroM).toArray]) p3_18_4 hE wn_none rfl rfl Try.func10 cl10 (ctrl_any allF allF zeroM hzeroM _) ?_)
    rintro e w48 ⟨rfl, hk⟩
    replace B_g4 := kp_blk B_g4 hk (fun h => h)
    replace K_0 := K_0.then_ hk (fun _ h => h.elim)
    refine ⟨_, rfl, ?_⟩; clear hE a; intro a hE
    refine ⟨⟨B_g4, trivial⟩, ?_⟩
    refine d_one (by kernel_rfl) rfl (s_call (xs := [Operand.tmp 105]) (args := [Value.agg (PA 0 0 0 0 255 allF allF false zeroM false false false 0 0 0 none 0 0).toArray]) p3_18_5 hE wn_none rfl rfl Try.func9 cl9 (targ_0 0 0 0 0 255 allF allF zeroM false false false 0 0 0 none 0 [] _) ?_)
    rintro e w49 ⟨rfl, hk⟩
    replace B_g4 := kp_blk B_g4 hk (fun h => h)
    replace K_0 := K_0.then_ hk (fun _ h => h.elim)
    refine ⟨_, rfl, ?_⟩; clear hE a; intro a hE
    refine ⟨⟨B_g4, trivial⟩, ?_⟩
    refine Rv.dm ns3_18 hE ⟨B_g4, trivial⟩ (Rv.dc p3_18_6 (fun W hS => (st_move rfl)) rfl (Rv.dc p3_18_7 (fun W hS => (st_extract rfl rfl)) rfl (Rv.dc p3_18_8 (fun W hS => (st_extract rfl rfl)) rfl (Rv.dc p3_18_9 (fun W hS => (st_assign rfl)) rfl (Rv.dc p3_18_10 (fun W hS => (st_assign rfl)) rfl Rv.dn))))) ?_; clear hE a; intro a hE
    refine d_end (by kernel_rfl) ?_
    refine x_norm (c_reg R3_19_l ?_)
    refine p_cons (s_call (xs := []) (args := []) (pl P3_19 0) hE wn_none rfl rfl Try.func8 cl8 (kn22  _) ?_)
    rintro e w50 ⟨rfl, hk⟩
    replace B_g4 := kp_blk B_g4 hk (fun h => h)
    replace K_0 := K_0.then_ hk (fun _ h => h.elim)
    refine ⟨_, rfl, ?_⟩; clear hE a; intro a hE
    refine qn hE (rc (pl P3_19 1) (st_move rfl) (rg (pl P3_19 2) (wn_some g3_19_1 rfl rfl) (st_move rfl) (rg (pl P3_19 3) (wn_some g3_19_1 rfl rfl) (st_eql (b := true) rfl rfl (by decide)) (rc (pl P3_19 4) (st_pick rfl rfl) (rc (pl P3_19 5) (st_assign rfl) rn))))) ?_; clear hE a; intro a hE
    refine p_nil (x_norm (wp_ret ?_))
    refine ret_one (v := Value.bool true) rfl hE (.tmp rfl .nil) ?_
    exact ⟨rfl, K_0.to (Nat.le_refl _) (fun _ h => h.elim)⟩
  ·
   refine qn hE (rg (v := Value.bool false) (pl P3_7 3) wn_none (st_lss rfl rfl (decide_eq_false hc9)) (rc (pl P3_7 4) (st_move rfl) (Ds.rk (pl P3_7 5) (wn_some g3_7_4 rfl rfl) (Ds.rk (pl P3_7 6) (wn_some g3_7_4 rfl rfl) (rc (pl P3_7 7) (st_pick rfl rfl) rn))))) ?_; clear hE a; intro a hE
   refine p_nil (x_norm ?_)
   refine c_cond (t := false) hE rfl ?_
   refine wp_exit (x_exit (x_exit (x_in (x_norm ?_))))
   refine c_drawS (S := fun W => W.heap[g4]? = some (.cells (PA 0 0 0 0 (64 - (i : Int)) (linkF 63) (linkF 62) true zeroM false b false 0 last 1 T 0 cT).toArray 35 (0, 0)) ∧ True) rfl rfl (listed := #[ι, ι, ι, ι, ι, ι, ι, ι, ι, ι, ι]) rfl ?_
   intro w51 hh hk
   replace B_g4 := kp_blk B_g4 hk (fun h => h)
   replace K_0 := K_0.then_ hk (fun _ h => h.elim)
   clear hh hk
   refine Rv.dm ns3_18 hE ⟨B_g4, trivial⟩ (Rv.dc (v := Value.pointer (some ⟨g4, 38, none⟩)) p3_18_2 (fun W hS => (st_fieldAddr Try.underlying35 rfl tS30 rfl rfl)) rfl (Rv.dc (v := Value.agg (rN zeroM).toArray) p3_18_3 (fun W hS => (st_loadN (off := 38) (k := 28) (vs := rN zeroM) tA30 tS30 rfl hS.1 rfl rfl)) rfl Rv.dn)) ?_; clear hE a; intro a hE
   refine d_one (by kernel_rfl) rfl (s_call (xs := []) (args := []) p3_18_0 hE wn_none rfl rfl Try.func11 cl11 (all_any  _) ?_)
   rintro e w52 ⟨rfl, hk⟩
   replace B_g4 := kp_blk B_g4 hk (fun h => h)
   replace K_0 := K_0.then_ hk (fun _ h => h.elim)
   refine ⟨_, rfl, ?_⟩; clear hE a; intro a hE
   refine ⟨⟨B_g4, trivial⟩, ?_⟩
   refine d_one (by kernel_rfl) rfl (s_call (xs := []) (args := []) p3_18_1 hE wn_none rfl rfl Try.func11 cl11 (all_any  _) ?_)
   rintro e w53 ⟨rfl, hk⟩
   replace B_g4 := kp_blk B_g4 hk (fun h => h)
   replace K_0 := K_0.then_ hk (fun _ h => h.elim)
   refine ⟨_, rfl, ?_⟩; clear hE a; intro a hE
   refine ⟨⟨B_g4, trivial⟩, ?_⟩
   refine d_one (by kernel_rfl) rfl (s_call (xs := [Operand.tmp 101, Operand.tmp 102, Operand.tmp 104]) (args := [Value.agg (b16 allF).toArray, Value.agg (b16 allF).toArray, Value.agg (rN zeroM).toArray]) p3_18_4 hE wn_none rfl rfl Try.func10 cl10 (ctrl_any allF allF zeroM hzeroM _) ?_)
   rintro e w54 ⟨rfl, hk⟩
   replace B_g4 := kp_blk B_g4 hk (fun h => h)
   replace K_0 := K_0.then_ hk (fun _ h => h.elim)
   refine ⟨_, rfl, ?_⟩; clear hE a; intro a hE
   refine ⟨⟨B_g4, trivial⟩, ?_⟩
   refine d_one (by kernel_rfl) rfl (s_call (xs := [Operand.tmp 105]) (args := [Value.agg (PA 0 0 0 0 255 allF allF false zeroM false false false 0 0 0 none 0 0).toArray]) p3_18_5 hE wn_none rfl rfl Try.func9 cl9 (targ_0 0 0 0 0 255 allF allF zeroM false false false 0 0 0 none 0 [] _) ?_)
   rintro e w55 ⟨rfl, hk⟩
   replace B_g4 := kp_blk B_g4 hk (fun h => h)
   replace K_0 := K_0.then_ hk (fun _ h => h.elim)
   refine ⟨_, rfl, ?_⟩; clear hE a; intro a hE
   refine ⟨⟨B_g4, trivial⟩, ?_⟩
   refine Rv.dm ns3_18 hE ⟨B_g4, trivial⟩ (Rv.dc p3_18_6 (fun W hS => (st_move rfl)) rfl (Rv.dc p3_18_7 (fun W hS => (st_extract rfl rfl)) rfl (Rv.dc p3_18_8 (fun W hS => (st_extract rfl rfl)) rfl (Rv.dc p3_18_9 (fun W hS => (st_assign rfl)) rfl (Rv.dc p3_18_10 (fun W hS => (st_assign rfl)) rfl Rv.dn))))) ?_; clear hE a; intro a hE
   refine d_end (by kernel_rfl) ?_
   refine x_norm (c_reg R3_19_l ?_)
   refine p_cons (s_call (xs := []) (args := []) (pl P3_19 0) hE wn_none rfl rfl Try.func8 cl8 (kn22  _) ?_)
   rintro e w56 ⟨rfl, hk⟩
   replace B_g4 := kp_blk B_g4 hk (fun h => h)
   replace K_0 := K_0.then_ hk (fun _ h => h.elim)
   refine ⟨_, rfl, ?_⟩; clear hE a; intro a hE
   refine qn hE (rc (pl P3_19 1) (st_move rfl) (rg (pl P3_19 2) (wn_some g3_19_1 rfl rfl) (st_move rfl) (rg (pl P3_19 3) (wn_some g3_19_1 rfl rfl) (st_eql (b := true) rfl rfl (by decide)) (rc (pl P3_19 4) (st_pick rfl rfl) (rc (pl P3_19 5) (st_assign rfl) rn))))) ?_; clear hE a; intro a hE
   refine p_nil (x_norm (wp_ret ?_))
   refine ret_one (v := Value.bool true) rfl hE (.tmp rfl .nil) ?_
   exact ⟨rfl, K_0.to (Nat.le_refl _) (fun _ h => h.elim)⟩
end Go.Proofs.Ytijfocnneccccaa.Tw
