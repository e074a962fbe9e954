/- A TSB's Drop, and its DropContext. -/
import Derived.Test.YtjnffegjpkbjmaaTsLk
import Derived.Deep.Onto
namespace Go.Proofs.Ytjnffegjpkbjmaa.Mem
open Go.RowKit Go.Maps Go.Shelf Go.Proofs.YtjnffegjpkbjmaaW.PrintWords Go.Proofs.YtjnffegjpkbjmaaW.PrintLast Go.Proofs.YtjnffegjpkbjmaaW.PrintMore Go.Proofs.Ytjnffegjpkbjmaa.QTsbPlays Go.Proofs.Ytjnffegjpkbjmaa.Pure
attribute [local go_sem] Oper.semAt_some
set_option linter.unusedSimpArgs false
set_option linter.unusedVariables false
section
set_option maxHeartbeats 2000000
set_option maxRecDepth 100000
/-- A place is dropped. -/
theorem Holds.drop {D base N s ws} (h : Holds D base N s ws) (hb : base % 16 = 0) {i : Nat} (hi : i < N) : Holds (st (st D (((base + 16 * i : Nat) : Int) / 8) 9223372036854775807) (((base + 16 * i : Nat) : Int) / 8 + 1) 0) base N s (setW ws i (BADW, 0)) := by
  have h1 := (h.setTag hb hi (t := BADW) (by decide)).setData hb hi (d := 0) (by decide) (.inl rfl)
  rw [setW_two, setW_at] at h1
  exact h1
theorem drop_sts {D : DataW Unit} {base N s : Nat} {sz : Int} (b : TB base N s sz) {i : Nat} (hi : i < N) : Sts (base / 8) ((base : Int) / 8 + 2 * N) D (st (st D (((base + 16 * i : Nat) : Int) / 8) 9223372036854775807) (((base + 16 * i : Nat) : Int) / 8 + 1) 0) := by
  have := b.hb
  exact (Sts.refl.st _ _ (by omega) (by decide)).st _ _ (by omega) (by decide)
theorem q_dropAt {B : Nat} {w0 W : World} {p mb : Nat} {sz : Int} {n : Nat} {D : DataW Unit} {pt base N s : Nat} {grade : Int} {ws : Nat → Wd} (b : TB base N s sz) (h : Mem B w0 p mb sz n D W) (hD : Holds D base N s ws) (kt : W.heap[pt]? = some (.cells (TCs p base N s grade) 95 (0, 0))) (i : Nat) (hi : i < N) (hn : n < 999999) :
    Calls Try.prog 78 #[.pointer (some ⟨pt, 0, none⟩), .int .u64 ((base + 16 * i : Nat) : Int)] W fun e W' => e = .returned (.tuple #[]) ∧ Now B w0 p mb sz base N s D (n + 2) (setW ws i (BADW, 0)) W' ∧ W.grownBy W' (some mb) := by
  obtain ⟨a1, a2, a3, a4, a5, a6⟩ := b.at8 hi
  refine (drop_calls h kt _ a1 hn a5).mono ?_
  rintro e W' ⟨rfl, hM, hg⟩
  exact ⟨rfl, ⟨_, hM, hD.drop b.hb hi, drop_sts b hi⟩, hg⟩
theorem q_drop {B : Nat} {w0 W : World} {p mb : Nat} {sz : Int} {n : Nat} {D : DataW Unit} {pt base N s : Nat} {grade : Int} {ws : Nat → Wd} (b : TB base N s sz) (h : Mem B w0 p mb sz n D W) (hD : Holds D base N s ws) (kt : W.heap[pt]? = some (.cells (TCs p base N s grade) 95 (0, 0))) (va : Nat) (hva : va < 18446744073709551616) (ctx : Int) (hn : n < 999999) (hmb : True) :
    Calls Try.prog 43 #[.pointer (some ⟨pt, 0, none⟩), .int .u64 va, .int .i64 ctx] W fun e W' => e = .returned (.bool (findO (readW (ws (plcOf N (s : Int) va)) va) va ctx).isSome) ∧ Now B w0 p mb sz base N s D (n + 2) (if (findO (readW (ws (plcOf N (s : Int) va)) va) va ctx).isSome = true then setW ws (plcOf N (s : Int) va) (BADW, 0) else ws) W' ∧ W.grownBy W' (some mb) := by
  have hu := Try.underlying50
  have HM := Aside0.mk h
  have HB := Aside0.mk b
  have HD := Aside0.mk hD
  have HT := Aside0.mk kt
  have HVL := Aside0.mk hva
  have HG := Aside0.mk (grown_refl W none)
  have hF := q_findW b h hD kt va hva ctx
  generalize findO (readW (ws (plcOf N (s : Int) va)) va) va ctx = F at hF ⊢
  rw [foundV_row] at hF
  have HF := Aside0.mk hF
  clear h b hD kt hva hF
  go_enter Try.func43, Try.ntmps43
  go_wp2_with fail
  refine HF.out.mono ?_
  rintro x0 w1 ⟨rfl, hg⟩
  have hg1 := World.grownBy_alloc w1 (.cells (entA (rowE F)) 50) none
  have hg2 := grown_two hg hg1
  replace HM := Aside0.mk (HM.out.same hg2)
  replace HT := Aside0.mk (blk_grown HT.out hg2)
  replace HG := Aside0.mk (grown_two HG.out hg2)
  clear hg hg1 hg2 HF
  cases hf : F.isSome with
  | true =>
    go_wp2_with fail
    refine (tat_calls HT.out va _ (HB.out.slot va HVL.out)).mono ?_
    rintro x0 w2 ⟨rfl, hg⟩
    replace HM := Aside0.mk (HM.out.same hg)
    replace HT := Aside0.mk (blk_grown HT.out hg)
    replace HG := Aside0.mk (grown_two HG.out hg)
    clear hg
    have hd := q_dropAt HB.out HM.out HD.out HT.out (plcOf N (s : Int) va) (HB.out.in va) (by omega)
    obtain ⟨z, hz⟩ : ∃ z : Nat, z = base + 16 * plcOf N (s : Int) va := ⟨_, rfl⟩
    rw [← hz] at hd
    have HDR := Aside0.mk hd
    rw [← hz]
    clear hz hd
    go_wp2_with fail
    refine HDR.out.mono ?_
    rintro x0 w3 ⟨rfl, hN, hg⟩
    have HN := Aside0.mk hN
    have HG3 := Aside0.mk (grown_two (grown_but HG.out (some mb)) hg)
    clear hN hg
    go_wp2
    go_ret
    exact ⟨rfl, HN.out, HG3.out⟩
  | false =>
    go_wp2
    all_goals
      go_ret
      exact ⟨rfl, ⟨_, HM.out.more (by omega), HD.out, .refl⟩, grown_but HG.out _⟩
end
end Go.Proofs.Ytjnffegjpkbjmaa.Mem
