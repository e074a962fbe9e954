/- The closures of Insert and Put, the entries against one, where a new one goes, New; at whatever numbers. -/
import Derived.Test.YthclbckkfgmbaaaTl6
namespace Go.Proofs.Ythclbckkfgmbaaa.QTlbPlays
open Go.RowKit Go.Proofs.YthclbckkfgmbaaaW.PrintWords Go.Proofs.YthclbckkfgmbaaaW.PrintLast Go.Proofs.YthclbckkfgmbaaaW.PrintMore
set_option linter.unusedSimpArgs false
set_option linter.unusedVariables false
section
set_option maxHeartbeats 1000000
set_option maxRecDepth 100000
theorem wf_range {n : Int} (h : (Lit.int .i64 n).wf = true) : -9223372036854775808 ≤ n ∧ n ≤ 9223372036854775807 := by
  simp [Lit.wf, IntKind.min, IntKind.max, IntKind.signed, IntKind.bits] at h
  omega
def lockAt (es : List (Option Ent)) (i : Nat) : Bool := match es.getD i none with | some e => lockB e | none => false
theorem fn_ins {B w0 p r es W} (h : Tl B w0 p r es W) (i : Nat) (e : Ent) (hx : es.getD i none = some e) (b1 : Nat) (c1 : W.cell? ⟨b1, 0, none⟩ = some (.pointer (some ⟨p, 0, none⟩))) :
    Calls Try.prog 52 #[.int .i64 i, .pointer (some ⟨b1, 0, none⟩)] W fun x W' => x = .returned (.bool (lockB e)) ∧ W.grownBy W' none := by
  have hi : i < es.length := by
    by_cases c : i < es.length
    · exact c
    · simp [List.getD, c] at hx
  have hlen := h.len
  have hi' : (i : Int) < (es.length : Int) := by omega
  have hi0 : (0 : Int) ≤ (i : Int) := by omega
  have hcell := h.cell
  have hp := h.at i hi
  rw [hx] at hp
  cases hp
  rename_i b hc hb
  obtain ⟨q0, q1, q2, q3, q4, q5, q6, q7, q8, q9, q10⟩ := cz11 hb
  have hu := Try.underlying26
  have hu2 := Try.underlying24
  clear h hx hb
  go_enter Try.func52, Try.ntmps52
  go_wp2_with (go_at_call 53; refine (fn_locked e _).mono ?_; rintro x w1 ⟨rfl, hg⟩; have HG := Aside0.mk hg; clear hg)
  go_ret
  exact ⟨rfl, HG.out⟩
theorem fn_ne (i : Nat) (k : Int) (b1 : Nat) (W : World) (c1 : W.cell? ⟨b1, 0, none⟩ = some (.int .i64 k)) :
    Calls Try.prog 94 #[.int .i64 i, .pointer (some ⟨b1, 0, none⟩)] W fun x W' => x = .returned (.bool (!decide ((i : Int) = k))) ∧ W.grownBy W' none := by
  go_enter Try.func94, Try.ntmps94
  go_wp2
  go_ret
  exact ⟨by simp [bne, BEq.beq], grown_refl _ _⟩
def againstQ (a : Ent) (o : Ent) : Bool := !partsB a o
theorem tl_against {B w0 p r es W} (h : Tl B w0 p r es W) (hw : OkL es) (a : Ent) (ha : EntW a) :
    Calls Try.prog 50 #[.pointer (some ⟨p, 0, none⟩), .agg (entA a)] W fun x W' => ∃ A c, x = .returned (.slice A (plL es (againstQ a)).length c) ∧ IRow W.heap.size A c (plL es (againstQ a)) W' ∧ W.grownBy W' none := by
  have hg := World.grownBy_alloc W (.cells (entA a) 26) none
  have hb := heap_alloc_new W (.cells (entA a) 26)
  have HP := Aside0.mk (tl_places (h.same hg) 88 #[.pointer (some ⟨W.heap.size, 0, none⟩)] (againstQ a) (enters_ Try.func88 (by kernel_rfl) rfl) (fun W' e hmem hg' => by rw [app1]; exact fn_against e a ha (hw e hmem).1 W.heap.size W' (blk_grown hb hg')))
  have HG := Aside0.mk hg
  clear h hw hb hg
  go_enter Try.func50, Try.ntmps50
  go_wp2_with (go_at_call 55; refine HP.out.mono ?_; rintro x W1 ⟨A, c, rfl, hr, hg⟩; have HR := Aside0.mk (hr.lift (base' := W.heap.size) (by simp)); have HG2 := Aside0.mk (grown_two HG.out hg); clear hr hg)
  go_ret
  exact ⟨A, c, rfl, HR.out, HG2.out⟩
/-- Where a new entry goes. -/
def pickN (pick : Int) : Nat := if pick < 0 then (-(pick + 1)).toNat else pick.toNat
def placeN (es : List (Option Ent)) (pick : Int) : Option Nat := match noneAt es with
  | some i => some i
  | none => if (plL es openB).length = 0 then none else some ((plL es openB).getD (pickN pick % (plL es openB).length) 0)
def optV : Option Nat → Int
  | some i => (i : Int)
  | none => -1
theorem place_end {base : Nat} {wr : World} {A : Option Addr} {c : Nat} {l : List Nat} (hr : IRow base A c l wr) (n : Nat) (h0 : l.length ≠ 0) : ∃ g, A = some ⟨g, 0, none⟩ ∧ wr.cell? ⟨g, n % l.length, none⟩ = some (.int .i64 (l.getD (n % l.length) 0 : Nat)) ∧ n % l.length < l.length := by
  have hlt := Nat.mod_lt n (Nat.pos_of_ne_zero h0)
  obtain ⟨g, e, hc⟩ := hr.at _ hlt
  exact ⟨g, e, hc, hlt⟩
theorem tl_place {B w0 p r es W} (h : Tl B w0 p r es W) (pick : Int) (hpick : (Lit.int .i64 pick).wf = true) (v : Option Nat) (hv : placeN es pick = v) :
    Calls Try.prog 54 #[.pointer (some ⟨p, 0, none⟩), .int .i64 pick] W fun x W' => x = .returned (.int .i64 (optV v)) ∧ W.grownBy W' none := by
  subst hv
  have HM := Aside0.mk h
  have hcell := h.cell
  have hlen := h.len
  have HI := Aside0.mk (tl_index h)
  have hpr := wf_range hpick
  clear h hpick
  cases hn : noneAt es with
  | some i =>
    have HV := Aside0.mk (show placeN es pick = some i by unfold placeN; rw [hn])
    have HIV := Aside0.mk (show idxV es = (i : Int) by unfold idxV; rw [hn])
    have hi0 : (0 : Int) ≤ (i : Int) := by omega
    clear hn
    go_enter Try.func54, Try.ntmps54
    go_wp2_with (go_at_call 90; refine HI.out.mono ?_; rintro x W1 ⟨rfl, hg⟩; rw [HIV.out]; have HG := Aside0.mk hg; clear hg)
    go_ret
    exact ⟨by rw [HV.out]; rfl, HG.out⟩
  | none =>
    have HIV := Aside0.mk (show idxV es = -1 by unfold idxV; rw [hn])
    have HVN := Aside0.mk (show (plL es openB).length = 0 → placeN es pick = none from fun e => by unfold placeN; rw [hn]; simp only [if_pos e])
    have HVS := Aside0.mk (show (plL es openB).length ≠ 0 → placeN es pick = some ((plL es openB).getD (pickN pick % (plL es openB).length) 0) from fun e => by unfold placeN; rw [hn]; simp only [if_neg e])
    have hpl := plL_len es openB
    clear hn
    have HPL := Aside0.mk (fun (W' : World) (hg : W.grownBy W' none) => tl_places (HM.out.same hg) 91 #[] openB (enters_ Try.func91 (by kernel_rfl) rfl) (fun W' e hmem hg' => by rw [app0]; exact fn_open1 e W'))
    generalize plL es openB = L at HVN HVS hpl HPL
    by_cases h0 : L.length = 0
    · have HV := Aside0.mk (HVN.out h0)
      clear HVN HVS
      go_enter Try.func54, Try.ntmps54
      go_wp2_with (first | (go_at_call 90; refine HI.out.mono ?_; rintro x W1 ⟨rfl, hg⟩; rw [HIV.out]; have HG := Aside0.mk hg; clear hg) | (go_at_call 55; refine (HPL.out _ HG.out).mono ?_; rintro x W2 ⟨A, c, rfl, hr, hg⟩; rw [h0]; have HG2 := Aside0.mk (grown_two HG.out hg); clear hr hg))
      go_ret
      exact ⟨by rw [HV.out]; rfl, HG2.out⟩
    · have HV := Aside0.mk (HVS.out h0)
      have HL0 := Aside0.mk h0
      have hl0 : ¬ ((L.length : Int) = 0) := by omega
      have hl64 : L.length ≤ 64 := by omega
      have hmodI : ∀ a : Nat, (a : Int).tmod (L.length : Int) = ((a % L.length : Nat) : Int) := fun a => by simp [Int.tmod]
      clear HVN HVS h0 hpl
      by_cases hneg : pick < 0
      · obtain ⟨a, ha⟩ : ∃ a : Nat, pick = -(a : Int) - 1 := ⟨(-(pick + 1)).toNat, by omega⟩
        have HPN := Aside0.mk (show pickN pick = a by unfold pickN; rw [if_pos hneg]; omega)
        subst ha
        rw [HPN.out] at HV
        have hs1 : IntKind.i64.wrap (-(a : Int) - 1 + 1) = -(a : Int) := (IntWalk.i64_in _ (by omega)).trans (by omega)
        have hs2 : IntKind.i64.wrap (-(-(a : Int))) = (a : Int) := (IntWalk.i64_in _ (by omega)).trans (by omega)
        have hmd := hmodI a
        clear hmodI
        go_enter Try.func54, Try.ntmps54
        go_wp2_with fail
        refine HI.out.mono ?_
        rintro x W1 ⟨rfl, hg⟩
        rw [HIV.out]
        have HG := Aside0.mk hg
        clear hg
        go_wp2_with fail
        refine (HPL.out _ HG.out).mono ?_
        rintro x W2 ⟨A, c, rfl, hr, hg⟩
        have HG2 := Aside0.mk (grown_two HG.out hg)
        obtain ⟨g, rfl, hc0, hlt⟩ := place_end hr a HL0.out
        clear hr hg
        generalize L.getD (a % L.length) 0 = v at hc0 HV
        generalize a % L.length = m at hc0 hlt hmd
        have hlt' : (m : Int) < (L.length : Int) := by omega
        have hm0 : (0 : Int) ≤ (m : Int) := by omega
        go_wp2
        go_ret
        exact ⟨by rw [HV.out]; rfl, HG2.out⟩
      · obtain ⟨a, rfl⟩ := Int.eq_ofNat_of_zero_le (Int.not_lt.1 hneg)
        have HPN := Aside0.mk (show pickN a = a by unfold pickN; rw [if_neg hneg]; omega)
        rw [HPN.out] at HV
        have hmd := hmodI a
        clear hmodI
        go_enter Try.func54, Try.ntmps54
        go_wp2_with fail
        refine HI.out.mono ?_
        rintro x W1 ⟨rfl, hg⟩
        rw [HIV.out]
        have HG := Aside0.mk hg
        clear hg
        go_wp2_with fail
        refine (HPL.out _ HG.out).mono ?_
        rintro x W2 ⟨A, c, rfl, hr, hg⟩
        have HG2 := Aside0.mk (grown_two HG.out hg)
        obtain ⟨g, rfl, hc0, hlt⟩ := place_end hr a HL0.out
        clear hr hg
        generalize L.getD (a % L.length) 0 = v at hc0 HV
        generalize a % L.length = m at hc0 hlt hmd
        have hlt' : (m : Int) < (L.length : Int) := by omega
        have hm0 : (0 : Int) ≤ (m : Int) := by omega
        go_wp2
        go_ret
        exact ⟨by rw [HV.out]; rfl, HG2.out⟩
end
end Go.Proofs.Ythclbckkfgmbaaa.QTlbPlays
