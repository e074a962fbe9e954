/- List; at whatever numbers. -/
import Derived.Test.YthclbckkfgmbaaaTl11
namespace Go.Proofs.Ythclbckkfgmbaaa.QTlbPlays
open Go.RowKit Go.Proofs.YthclbckkfgmbaaaW.PrintWords Go.Proofs.YthclbckkfgmbaaaW.PrintLast Go.Proofs.YthclbckkfgmbaaaW.PrintMore
set_option linter.unusedSimpArgs false
set_option linter.unusedVariables false
section
set_option maxHeartbeats 1000000
set_option maxRecDepth 100000
/-- All entries of the first k places. -/
def listTo (es : List (Option Ent)) (k : Nat) : List Ent := (es.take k).filterMap id
abbrev listOf (es : List (Option Ent)) : List Ent := es.filterMap id
theorem listTo_none {es : List (Option Ent)} {k : Nat} (hk : k < es.length) (h : es.getD k none = none) : listTo es (k + 1) = listTo es k := by
  unfold listTo
  rw [List.take_succ_eq_append_getElem hk, List.filterMap_append]
  simp [List.getD, hk] at h
  simp [h]
theorem listTo_some {es : List (Option Ent)} {k : Nat} (hk : k < es.length) {e : Ent} (h : es.getD k none = some e) : listTo es (k + 1) = listTo es k ++ [e] := by
  unfold listTo
  rw [List.take_succ_eq_append_getElem hk, List.filterMap_append]
  simp [List.getD, hk] at h
  simp [h]
theorem listTo_len (es : List (Option Ent)) (k : Nat) : (listTo es k).length ≤ k := by
  unfold listTo
  exact Nat.le_trans (List.length_filterMap_le _ _) (by simp; omega)
theorem tl_list {B w0 p r es W} (h : Tl B w0 p r es W) : Calls Try.prog 22 #[.pointer (some ⟨p, 0, none⟩)] W fun x W' => (∃ v0 : Value, x = .returned v0 ∧ Kd.R k26 26 W' W.heap.size (fun _ => True) v0 (listOf es)) ∧ W.grownBy W' none := by
  have hu := Try.underlying26
  have hu2 := Try.underlying24
  have HM := Aside0.mk h
  have hlen := h.len
  have hcell := h.cell
  have HB0 := Aside0.mk (Below.refl W.heap.size W)
  clear h
  go_enter Try.func22, Try.ntmps22
  go_wp2
  clear hcell
  go_loopw [3, 11] (fun v3 v11 wr => ∃ (k : Nat) (v : Value), v11 = .int .i64 k ∧ v3 = v ∧ k ≤ es.length ∧ Aside0 (Kd.R k26 26 wr W.heap.size (fun _ => True) v (listTo es k)) ∧ Aside0 (Below W.heap.size W wr)) (fun _ v11 _ => es.length - (intOf v11).toNat)
  case atStart => exact ⟨0, _, rfl, rfl, by omega, ⟨Kd.R_nil _ _ _ _ _⟩, HB0⟩
  case round =>
    obtain ⟨k, u3, rfl, rfl, hk, HO, HB⟩ := hrel
    by_cases hk2 : k < es.length
    · have hk2' : (k : Int) < (es.length : Int) := by omega
      have hk0 : (0 : Int) ≤ (k : Int) := by omega
      have hp := (HM.out.same (below_grown HB.out)).at k hk2
      cases hx : es.getD k none with
      | none =>
        have HS := Aside0.mk (listTo_none hk2 hx)
        rw [hx] at hp
        cases hp
        rename_i hc
        clear hx
        go_wp2
        go_roundw
        case rel => exact ⟨k + 1, _, by go_num, rfl, by omega, ⟨by rw [HS.out]; exact HO.out⟩, HB⟩
        case measure => simp [intOf]; omega
      | some e =>
        have HS := Aside0.mk (listTo_some hk2 hx)
        have hll := listTo_len es k
        rw [hx] at hp
        cases hp
        rename_i b hc hb
        obtain ⟨q0, q1, q2, q3, q4, q5, q6, q7, q8, q9, q10⟩ := cz11 hb
        clear hx hb
        generalize listTo es k = l at HO HS hll
        go_wp2_with (first | ((with_reducible refine gate_builtin (b := .append) (xs := #[.tmp 17, .tmp 21]) rfl ?_); at_builtin; refine Kd.R_append k26 (w0 := W) W.heap.size rfl (.tmp 17) (.tmp 21) 33 26 (.agg #[(.int .i64 0), (.int .i64 0), (.int .u64 0), (.int .u64 0), (.bool false), (.bool false), (.bool false), (.bool false), (.bool false), (.bool false), (.bool false)]) 40 rfl Try.underlying33 info26 rfl (by decide) (by omega) u3 l e [.int .i64 e.f0, .int .i64 e.f1, .int .u64 e.f2, .int .u64 e.f3, .bool e.f4.f0, .bool e.f4.f1, .bool e.f4.f2, .bool e.f4.f3, .bool e.f4.f4, .bool e.f4.f5, .bool e.f5] (fun _ => True) (fun _ => False) rfl rfl ?aP (fun _ hk => hk.elim) ?aF ?aO ?aB ?aS ?aL ?_; (case aP => exact k26_mkM _ _ _ e); (case aB => exact HB.out); (case aF => exact (fun _ _ => trivial)); (case aO => first | exact HO.out | exact Kd.R_alloc HO.out _); (case aS => first | exact below_size HB.out | exact below_size (below_alloc HB.out _)); (case aL => omega); intro v245 w7 ho hb hg hat; rw [← HS.out] at ho; have HB7 := Aside0.mk hb; have HO7 := Aside0.mk ho; clear ho hb hg hat))
        go_roundw
        case rel => exact ⟨k + 1, _, by go_num, rfl, by omega, HO7, HB7⟩
        case measure => simp [intOf]; omega
    · obtain rfl : k = es.length := by omega
      have HO2 := Aside0.mk (show Kd.R k26 26 wr W.heap.size (fun _ => True) u3 (listOf es) by have := HO.out; unfold listTo at this; rwa [List.take_length] at this)
      go_wp2
      go_ret
      exact ⟨⟨u3, rfl, HO2.out⟩, below_grown HB.out⟩
end
end Go.Proofs.Ythclbckkfgmbaaa.QTlbPlays
