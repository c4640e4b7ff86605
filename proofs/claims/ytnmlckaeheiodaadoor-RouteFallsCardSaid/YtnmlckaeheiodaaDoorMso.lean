/- A map's keys, sorted: slices.Sorted(maps.Keys(m)) over the shelf's contracts. -/
import Derived.Test.YtnmlckaeheiodaaDoorMi
import Derived.Test.YtnmlckaeheiodaaDoorShf
set_option maxRecDepth 100000
set_option linter.unusedVariables false
namespace Go.Proofs.YtnmlckaeheiodaaDoor.Ms
open Go.RowKit Go.Maps Go.Sort Go.Shelf
open Go.Proofs.YtnmlckaeheiodaaDoorW.PrintWords Go.Proofs.YtnmlckaeheiodaaDoor.Ds Go.Proofs.YtnmlckaeheiodaaDoor.Mi
open Go.Proofs.YtnmlckaeheiodaaDoor.Pk (Kp)
open Go.WideElems (Fit rd rg rd_mk)
section
variable {α : Type} {enc : α → Value} {es : Array MapEntry} {ck : Nat} {l : List (Int × α)}
/-- The keys, rising. -/
def ks (l : List (Int × α)) : List Int := (l.map (·.1)).mergeSort leI
theorem ks_len (l : List (Int × α)) : (ks l).length = l.length := by unfold ks; rw [List.length_mergeSort, List.length_map]
theorem ks_mem {l : List (Int × α)} {x : Int} : x ∈ ks l ↔ ∃ v, (x, v) ∈ l := by
 unfold ks
 rw [List.mem_mergeSort, List.mem_map]
 exact ⟨fun ⟨p, hp, e⟩ => ⟨p.2, by rw [← e]; exact hp⟩, fun ⟨v, h⟩ => ⟨_, h, rfl⟩⟩
/-- No value is read. -/
def RU : Value → Option (DataW Unit × List MemPlace) := fun _ => some (.nil, [])
def dI (P : Program) (k : TypeId) (es : Array MapEntry) : DataW Unit := .map ((es.toList.map (rg P k RU)).foldr DataW.insert [])
theorem rd_of {P : Program} {k : TypeId} (hk : P.underlying k = some (.int .i64)) (h : MapI enc es ck l) : ∀ x ∈ es.toList, ∃ a : Int, x.key = .int .i64 a ∧ rd P k RU x = some (.int .i64 a, .nil) := fun x hx => by
 have h1 : x.key ∈ es.toList.map (·.key) := List.mem_map.2 ⟨x, hx, rfl⟩
 rw [h.keys, List.mem_map] at h1
 obtain ⟨p, hp, e⟩ := h1
 have hw := h.wf p hp
 obtain ⟨key, val, born⟩ := x
 simp only at e
 subst e
 exact ⟨p.1, rfl, rd_mk (yv := (.nil, [])) (Maps.keyOf_int_mk hk hw) rfl⟩
theorem dI_keys {P : Program} {k : TypeId} (hk : P.underlying k = some (.int .i64)) (h : MapI enc es ck l) : (intKeys (dI P k es)).Perm (l.map (·.1)) := by
 show (((es.toList.map (rg P k RU)).foldr DataW.insert []).map fun p => Go.intOf p.1).Perm _
 refine ((Go.WideShapes.sorted_perm _).map _).trans ?_
 rw [List.map_map]
 have e1 : es.toList.map ((fun p : Lit × DataW Unit => Go.intOf p.1) ∘ rg P k RU) = es.toList.map (fun x => match x.key with | .int _ a => a | _ => 0) := by
  refine List.map_congr_left (fun x hx => ?_)
  obtain ⟨a, h1, h2⟩ := rd_of hk h x hx
  show Go.intOf (rg P k RU x).1 = _
  rw [Go.WideElems.rg_of h2, h1]
  rfl
 have e2 : es.toList.map (fun x => match x.key with | .int _ a => a | _ => 0) = (es.toList.map (·.key)).map (fun v => match v with | .int _ a => a | _ => 0) := by rw [List.map_map]; rfl
 rw [e1, e2, h.keys, List.map_map]
 exact List.Perm.refl _
theorem owns {P : Program} {k : TypeId} (hk : P.underlying k = some (.int .i64)) {w : World} {b : Nat} (hb : w.heap[b]? = some (.map es ck)) (h : MapI enc es ck l) (hl : l.length ≤ 1000000) : w.ownsMap P k RU b l.length (dI P k es) :=
 ⟨es, ck, hb, ⟨by rw [h.size]; unfold maxLen; omega, h.st, fun x hx => let ⟨_, _, h2⟩ := rd_of hk h x hx; ⟨_, h2⟩⟩, Nat.le_of_eq h.size, rfl⟩
theorem dI_size {P : Program} {k : TypeId} (hk : P.underlying k = some (.int .i64)) (h : MapI enc es ck l) : Maps.size (dI P k es) = l.length := by
 have := (dI_keys hk h).length_eq
 rw [List.length_map] at this
 rw [← this]
 show _ = (List.map _ _).length
 rw [List.length_map]
 rfl
theorem keys_any (mb : Option Nat) (w : World) : Calls Tryd.prog 27 #[.map mb] w fun e w' => ∃ g, w.heap.size ≤ g ∧ e = .returned (.func (.func 38) #[] #[.pointer (some ⟨g, 0, none⟩)]) ∧ w'.heap[g]? = some (.cells #[.map mb] 46 (0, 0)) ∧ Kp w w' (fun _ => False) := by
 refine ((callsIn_wide (n := 6)).1 (AnyZI.keys_in Tryd.keysA Fence.wide 6 trivial rfl mb w)).mono ?_
 rintro e w' ⟨rfl, rfl⟩
 exact ⟨_, Nat.le_refl _, rfl, Pk.blk_new _ _ _, kp_alloc _ _⟩
theorem sorts (m : Nat) : AnyZI.SortsIn Tryd.prog Tryd.sortedA_ren Fence.wide m :=
 ⟨fun blk off cap ss W hH hblk hsz => callsIn_wide.2 (AnyM.slices_Sort_int Tryd.sortA blk off cap ss W hH hblk hsz),
  fun p cap W => callsIn_wide.2 (AnyM.slices_Sort_int_none Tryd.sortA p cap W)⟩
set_option maxHeartbeats 1000000 in
theorem sorted_any {gm gk : Nat} (h : MapI enc es ck l) (hl : l.length ≤ 1000000) (w : World) (hm : w.heap[gm]? = some (.map es ck)) (hg : w.heap[gk]? = some (.cells #[.map (some gm)] 46 (0, 0))) :
  Calls Tryd.prog 26 #[.func (.func 38) #[] #[.pointer (some ⟨gk, 0, none⟩)]] w fun e w' => ∃ A c, e = .returned (.slice A l.length c) ∧ w'.ownsRow w.heap.size 3 1 (.slice A l.length c) l.length (encs (Value.int .i64) (ks l)) ∧ Kp w w' (fun _ => False) := by
 have hown := owns (P := Tryd.prog) (k := 3) Tryd.underlying3 hm h hl
 have hsz := dI_size (P := Tryd.prog) (k := 3) Tryd.underlying3 h
 have hseq : SeqGives Fence.wide 2 Tryd.prog 38 #[.pointer (some ⟨gk, 0, none⟩)] encZ (fun ss => ss.Perm (intKeys (dI Tryd.prog 3 es))) (Maps.size (dI Tryd.prog 3 es)) w :=
  AnyZI.keys_gives (ρ := Tryd.keysA_ren) { Tryd.keysA with } Fence.wide _ trivial rfl (by omega) gk gm _ _ _ (blk_lt hg) (by rw [cell_of_row w gk 0 _ _ _ hg]; rfl) hown
 have cS := AnyZI.sorted_in Tryd.sortedA Fence.wide 5 trivial trivial trivial trivial rfl (by omega) (sorts _) (enters_of Tryd.func37 (by kernel_rfl) rfl) 38 #[.pointer (some ⟨gk, 0, none⟩)] trivial (enters_of Tryd.func38 (by kernel_rfl) rfl) _ _ (by rw [hsz]; unfold maxLen; omega) (by rw [hsz]; omega) _ hseq
 refine ((callsIn_wide (n := 5)).1 cS).mono ?_
 rintro e w' ⟨v, ss, rfl, hS, hrow, hnil, hb⟩
 have hp := hS.trans (dI_keys (P := Tryd.prog) (k := 3) Tryd.underlying3 h)
 have hn : ss.length = l.length := by have := hp.length_eq; rwa [List.length_map] at this
 have e1 : (ss.mergeSort (fun x y => decide (x ≤ y))) = ks l := mergeSort_of_perm_i hp
 rw [e1, hn] at hrow
 obtain ⟨A, c, rfl⟩ := own_sl hrow
 exact ⟨A, c, rfl, hrow, Kp.of_below hb _⟩
end
end Go.Proofs.YtnmlckaeheiodaaDoor.Ms
