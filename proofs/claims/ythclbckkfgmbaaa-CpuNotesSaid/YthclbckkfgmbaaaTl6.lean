/- Where an entry is to stand; the entries against one; functions over whole numbers; at whatever numbers. -/
import Derived.Test.YthclbckkfgmbaaaTl5
namespace Go.Proofs.Ythclbckkfgmbaaa.QTlbPlays
open Go.RowKit Go.Proofs.YthclbckkfgmbaaaW.PrintWords Go.Proofs.YthclbckkfgmbaaaW.PrintLast Go.Proofs.YthclbckkfgmbaaaW.PrintMore
set_option linter.unusedSimpArgs false
set_option linter.unusedVariables false
section
set_option maxHeartbeats 1000000
set_option maxRecDepth 100000
theorem idx_func {W : World} {base : Nat} {A : Option Addr} {c : Nat} {l : List Nat} (hr : IRow base A c l W) (hl : l.length ≤ 64) (fid : Nat) (caps : Array Value) (q : Nat → Bool) (hen : ∀ (args : Array Value) (w : World), (callFunc fid args).run Try.prog w = .ok (.enter fid args) w)
    (hq : ∀ (W' : World) (i : Nat), i ∈ l → W.grownBy W' none → Calls Try.prog fid (#[.int .i64 (i : Nat)] ++ caps) W' fun x W'' => x = .returned (.bool (q i)) ∧ W'.grownBy W'' none) :
    Calls Try.prog 89 #[.slice A l.length c, .func (.func fid) #[] caps] W fun x W' => ∃ k : Int, x = .returned (.int .i64 k) ∧ decide (0 ≤ k) = l.any q ∧ W.grownBy W' none := by
  have HR := Aside0.mk hr
  have HQ := Aside0.mk hq
  clear hr hq
  go_enter Try.func89, Try.ntmps89
  go_wp2
  go_loopw [8] (fun v8 wr => ∃ k : Nat, v8 = .int .i64 k ∧ k ≤ l.length ∧ Aside0 (∀ j, j < k → q (l.getD j 0) = false) ∧ Aside0 (W.grownBy wr none)) (fun v8 _ => l.length - (intOf v8).toNat)
  case atStart => exact ⟨0, rfl, by omega, ⟨fun j hj => by omega⟩, ⟨grown_refl _ _⟩⟩
  case round =>
    obtain ⟨k, rfl, hk, HN, HG⟩ := hrel
    by_cases hk2 : k < l.length
    · have hk2' : (k : Int) < (l.length : Int) := by omega
      have hk0 : (0 : Int) ≤ (k : Int) := by omega
      obtain ⟨g, rfl, hc⟩ := (HR.out.same HG.out).at k hk2
      have HME := Aside0.mk (show l.getD k 0 ∈ l by simp [List.getD, hk2])
      have HN2 := Aside0.mk (show q (l.getD k 0) = false → ∀ j, j < k + 1 → q (l.getD j 0) = false from fun hqe j hj => by
        by_cases e : j = k
        · subst e; exact hqe
        · exact HN.out j (by omega))
      generalize l.getD k 0 = i at HME HN2 hc
      cases hqe : q i with
      | true =>
        have HQe := Aside0.mk hqe
        have HA := Aside0.mk (show l.any q = true from List.any_eq_true.2 ⟨_, HME.out, hqe⟩)
        clear hqe HN2
        go_wp2_with fail
        refine (HQ.out _ _ HME.out HG.out).mono ?_
        rintro x w1 ⟨rfl, hg⟩
        rw [HQe.out]
        have HG1 := Aside0.mk (grown_two HG.out hg)
        clear hg
        go_wp2
        go_ret
        exact ⟨(k : Int), rfl, by rw [HA.out]; exact decide_eq_true (by omega), HG1.out⟩
      | false =>
        have HQe := Aside0.mk hqe
        have HN3 := Aside0.mk (HN2.out hqe)
        clear hqe HN2
        go_wp2_with fail
        refine (HQ.out _ _ HME.out HG.out).mono ?_
        rintro x w1 ⟨rfl, hg⟩
        rw [HQe.out]
        have HG1 := Aside0.mk (grown_two HG.out hg)
        clear hg
        go_wp2
        go_roundw
        case rel => exact ⟨k + 1, by go_num, by omega, HN3, HG1⟩
        case measure => simp [intOf]; omega
    · obtain rfl : k = l.length := by omega
      have HA := Aside0.mk (show l.any q = false from by
        rw [List.any_eq_false]
        intro x hx
        obtain ⟨j, hj, rfl⟩ := List.getElem_of_mem hx
        have := HN.out j hj
        simp [List.getD, hj] at this
        simp [this])
      go_wp2
      go_ret
      exact ⟨-1, rfl, by rw [HA.out]; rfl, HG.out⟩
theorem contains_func {W : World} {base : Nat} {A : Option Addr} {c : Nat} {l : List Nat} (hr : IRow base A c l W) (hl : l.length ≤ 64) (fid : Nat) (caps : Array Value) (q : Nat → Bool) (hen : ∀ (args : Array Value) (w : World), (callFunc fid args).run Try.prog w = .ok (.enter fid args) w)
    (hq : ∀ (W' : World) (i : Nat), i ∈ l → W.grownBy W' none → Calls Try.prog fid (#[.int .i64 (i : Nat)] ++ caps) W' fun x W'' => x = .returned (.bool (q i)) ∧ W'.grownBy W'' none) :
    Calls Try.prog 51 #[.slice A l.length c, .func (.func fid) #[] caps] W fun x W' => x = .returned (.bool (l.any q)) ∧ W.grownBy W' none := by
  have HP := Aside0.mk (idx_func hr hl fid caps q hen hq)
  clear hr hq hen
  go_enter Try.func51, Try.ntmps51
  go_wp2_with (go_at_call 89; refine HP.out.mono ?_; rintro x w1 ⟨k, rfl, hk, hg⟩; have HK := Aside0.mk hk; have HG := Aside0.mk hg; clear hk hg)
  go_ret
  exact ⟨by rw [← HK.out]; rfl, HG.out⟩
/-- The first empty place. -/
def noneAt (es : List (Option Ent)) : Option Nat := es.findIdx? (fun o => o.isNone)
theorem run_equalIn_nil_ptr {P : Program} (w : World) (d : Nat) (t : TypeId) (a : Addr) (h : P.underlying t = some (.pointer (P.pointee t))) : (Op.equalIn (d + 1) t (.pointer none) (.pointer (some a))).run P w = .ok false w := by
  simp [Op.equalIn, run_underlying h]
theorem run_equal_nil_ptr {P : Program} (w : World) (t : TypeId) (a : Addr) (h : P.underlying t = some (.pointer (P.pointee t))) : (Op.equal t (.pointer none) (.pointer (some a))).run P w = .ok false w := run_equalIn_nil_ptr w 9999 t a h
@[local go_sem] theorem run_eql_nil_ptr {P : Program} (w : World) (t : TypeId) (a : Addr) (h : P.underlying t = some (.pointer (P.pointee t))) : (binOp .eql t (.pointer none) (.pointer (some a))).run P w = .ok (.bool false) w := by
  simp only [binOp]
  simp [run_equal_nil_ptr w t a h]
def idxV (es : List (Option Ent)) : Int := match noneAt es with | some i => (i : Int) | none => -1
theorem tl_index {B w0 p r es W} (h : Tl B w0 p r es W) :
    Calls Try.prog 90 #[.slice (some ⟨r, 0, none⟩) es.length es.length, .pointer none] W fun x W' => x = .returned (.int .i64 (idxV es)) ∧ W.grownBy W' none := by
  have HM := Aside0.mk h
  have hlen := h.len
  clear h
  go_enter Try.func90, Try.ntmps90
  go_wp2
  go_loopw [8] (fun v8 wr => ∃ k : Nat, v8 = .int .i64 k ∧ k ≤ es.length ∧ Aside0 (∀ j, j < k → (es.getD j none).isNone = false) ∧ Aside0 (W.grownBy wr none)) (fun v8 _ => es.length - (intOf v8).toNat)
  case atStart => exact ⟨0, rfl, by omega, ⟨fun j hj => by omega⟩, ⟨grown_refl _ _⟩⟩
  case round =>
    obtain ⟨k, rfl, hk, HN, HG⟩ := hrel
    by_cases hk2 : k < es.length
    · have hk2' : (k : Int) < (es.length : Int) := by omega
      have hk0 : (0 : Int) ≤ (k : Int) := by omega
      have hp := (HM.out.same HG.out).at k hk2
      cases hx : es.getD k none with
      | none =>
        have HA := Aside0.mk (show idxV es = (k : Int) from by
          have hh : noneAt es = some k := by
           unfold noneAt
           rw [List.findIdx?_eq_some_iff_getElem]
           refine ⟨hk2, ?_, fun j hj => ?_⟩
           · simp [List.getD, hk2] at hx
             simp [hx]
           · have := HN.out j hj
             simp [List.getD, Nat.lt_trans hj hk2] at this
             intro hn
             have hn' := Option.isNone_iff_eq_none.1 hn
             rw [hn'] at this
             cases this
          unfold idxV; rw [hh])
        rw [hx] at hp
        cases hp
        rename_i hc
        clear hx
        go_wp2
        go_ret
        exact ⟨by rw [HA.out]; rfl, HG.out⟩
      | some e =>
        have HN2 := Aside0.mk (show ∀ j, j < k + 1 → (es.getD j none).isNone = false from fun j hj => by
          by_cases c : j = k
          · subst c; rw [hx]; rfl
          · exact HN.out j (by omega))
        rw [hx] at hp
        cases hp
        rename_i b hc hb
        clear hx hb
        go_wp2
        go_roundw
        case rel => exact ⟨k + 1, by go_num, by omega, HN2, HG⟩
        case measure => simp [intOf]; omega
    · obtain rfl : k = es.length := by omega
      have HA := Aside0.mk (show idxV es = -1 from by
        have hh : noneAt es = none := by
          unfold noneAt
          rw [List.findIdx?_eq_none_iff]
          intro x hx
          obtain ⟨j, hj, rfl⟩ := List.getElem_of_mem hx
          have := HN.out j hj
          simp [List.getD, hj] at this
          simp [this]
        unfold idxV; rw [hh])
      go_wp2
      go_ret
      exact ⟨by rw [HA.out]; rfl, HG.out⟩
end
end Go.Proofs.Ythclbckkfgmbaaa.QTlbPlays
