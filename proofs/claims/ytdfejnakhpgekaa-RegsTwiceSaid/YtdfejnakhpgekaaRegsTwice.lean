/- The walk through the law RegsTwice, at whatever types, spaces and addresses; no conditions. -/
import Derived.Test.YtdfejnakhpgekaaRegs5
import Derived.Test.YtdfejnakhpgekaaRegsBit
namespace Go.Proofs.Ytdfejnakhpgekaa.QRegsPlays
open Go.RowKit Go.Maps Go.Proofs.YtdfejnakhpgekaaW.PrintWords Go.Proofs.YtdfejnakhpgekaaW.PrintLast Go.Proofs.YtdfejnakhpgekaaW.PrintMore
set_option linter.unusedSimpArgs false
set_option linter.unusedVariables false
section
set_option maxHeartbeats 400000
set_option maxRecDepth 100000
theorem fault_d_eq {B w0 p mb n D W} (h : Regs B w0 p mb n D W) (kind asi : Int) (store priv : Bool) (va : Int) (wva : (Lit.int .u64 va).wf = true) (h0 : 0 ≤ kind) (h1 : kind < 128) (h2 : 0 ≤ asi) (h3 : asi < 256) (hn : n < 900000) (x y : Int) (hx : rdk D 88 24 = x) (hy : stw (x % 2 == 1) store priv kind asi = y) :
    Calls Try.prog 19 #[.pointer (some ⟨p, 0, none⟩), .int .i64 1, .int .i64 kind, .int .i64 asi, .bool store, .bool priv, .int .u64 va] W fun e W' => e = .returned (.int .i64 0) ∧ Regs B w0 p mb (n + 2) (pk (pk D 88 24 y) 88 32 va) W' ∧ W.grownBy W' (some mb) := by
  subst hx
  subst hy
  exact fault_d_ok h kind asi store priv va wva h0 h1 h2 h3 hn
theorem ne_24_32 : klit 88 24 ≠ klit 88 32 := key_ne (by decide) (by decide) (by decide) (by decide) (by decide)
theorem rd_fault {D : DataW Unit} (h : IsMap D) (y va : Int) : rdk (pk (pk D 88 24 y) 88 32 va) 88 24 = y ∧ rdk (pk (pk D 88 24 y) 88 32 va) 88 32 = va := by
  constructor
  · rw [rdk_other ne_24_32, rdk_same h]
  · rw [rdk_same (pk_isMap h _ _ _)]
theorem stw_odd (b0 store priv : Bool) {kind asi : Int} : stw b0 store priv kind asi % 2 = 1 := by
  unfold stw b2i
  cases b0 <;> cases store <;> cases priv <;> simp <;> omega
theorem stw_range (b0 store priv : Bool) {kind asi : Int} (h0 : 0 ≤ kind) (h1 : kind < 128) (h2 : 0 ≤ asi) (h3 : asi < 256) : 0 ≤ stw b0 store priv kind asi ∧ stw b0 store priv kind asi < 16777216 := by
  unfold stw b2i
  cases b0 <;> cases store <;> cases priv <;> simp <;> omega
theorem stw_bit1 (b0 store priv : Bool) {kind asi : Int} : (stw b0 store priv kind asi / 2 ^ 1 % 2 == 1) = b0 := by
  rw [Bool.eq_iff_iff, beq_iff_eq]
  unfold stw b2i
  cases b0 <;> cases store <;> cases priv <;> simp <;> omega
theorem stw_bit2 (b0 store priv : Bool) {kind asi : Int} : (stw b0 store priv kind asi / 2 ^ 2 % 2 == 1) = store := by
  rw [Bool.eq_iff_iff, beq_iff_eq]
  unfold stw b2i
  cases b0 <;> cases store <;> cases priv <;> simp <;> omega
theorem stw_bit3 (b0 store priv : Bool) {kind asi : Int} : (stw b0 store priv kind asi / 2 ^ 3 % 2 == 1) = priv := by
  rw [Bool.eq_iff_iff, beq_iff_eq]
  unfold stw b2i
  cases b0 <;> cases store <;> cases priv <;> simp <;> omega
theorem stw_three (store : Bool) {kind asi : Int} : stw false store true kind asi + 2 = stw true store true kind asi := by
  unfold stw b2i
  cases store <;> simp <;> omega
theorem twice_pp (a b va vb : Int) (store : Bool) (w : World) (ha : (Lit.int .i64 a).wf = true) (hb : (Lit.int .i64 b).wf = true) (hva : (Lit.int .u64 va).wf = true) (hvb : (Lit.int .u64 vb).wf = true) (ha0 : 0 ≤ a) (hb0 : 0 ≤ b) :
    Calls Try.prog 4 #[.int .i64 a, .int .i64 b, .int .u64 va, .int .u64 vb, .bool store] w fun e w' => e = .returned (.bool true) ∧ Below w.heap.size w w' := by
  have HB := Aside0.mk (Below.refl w.heap.size w)
  obtain ⟨ha1, ha2⟩ := m_i64 ha
  obtain ⟨hb1, hb2⟩ := m_i64 hb
  obtain ⟨one, hone⟩ : ∃ y, stw false store false (a % 128) (b % 256) = y := ⟨_, rfl⟩
  obtain ⟨two, htwo⟩ : ∃ y, stw true store true (b % 128) (a % 256) = y := ⟨_, rfl⟩
  obtain ⟨three, hthree⟩ : ∃ y, stw false store true (b % 128) (a % 256) = y := ⟨_, rfl⟩
  have r1 := stw_range false store false (kind := (a % 128)) (asi := (b % 256)) (by omega) (by omega) (by omega) (by omega)
  have r2 := stw_range true store true (kind := (b % 128)) (asi := (a % 256)) (by omega) (by omega) (by omega) (by omega)
  have r3 := stw_range false store true (kind := (b % 128)) (asi := (a % 256)) (by omega) (by omega) (by omega) (by omega)
  have F1 := Aside0.mk hone
  have F3 := Aside0.mk hthree
  have F2 := Aside0.mk (show stw (one % 2 == 1) store true (b % 128) (a % 256) = two by rw [← hone, stw_odd]; exact htwo)
  have HT := Aside0.mk (show IntKind.u64.wrap (three + 2) = two by rw [← hthree, stw_three, htwo, IntKind.wrap_u64, ← htwo]; omega)
  rw [hone] at r1
  rw [htwo] at r2
  rw [hthree] at r3
  have B0 := Aside0.mk (show Go.Proofs.Ytdfejnakhpgekaa.QRegsTwice.lookasideref07_Bit.f 100 one 0 = some true from Go.Proofs.Ytdfejnakhpgekaa.QRegsTwice.bit_of (i := 0) (by omega) (by omega) (by omega) true (by rw [← hone, show (2 : Int) ^ 0 = 1 from rfl, Int.ediv_one, stw_odd]; rfl))
  have B1 := Aside0.mk (show Go.Proofs.Ytdfejnakhpgekaa.QRegsTwice.lookasideref07_Bit.f 100 one 1 = some false from Go.Proofs.Ytdfejnakhpgekaa.QRegsTwice.bit_of (i := 1) (by omega) (by omega) (by omega) false (by rw [← hone]; exact stw_bit1 _ _ _))
  have B2 := Aside0.mk (show Go.Proofs.Ytdfejnakhpgekaa.QRegsTwice.lookasideref07_Bit.f 100 two 1 = some true from Go.Proofs.Ytdfejnakhpgekaa.QRegsTwice.bit_of (i := 1) (by omega) (by omega) (by omega) true (by rw [← htwo]; exact stw_bit1 _ _ _))
  have B3 := Aside0.mk (show Go.Proofs.Ytdfejnakhpgekaa.QRegsTwice.lookasideref07_Bit.f 100 two 3 = some true from Go.Proofs.Ytdfejnakhpgekaa.QRegsTwice.bit_of (i := 3) (by omega) (by omega) (by omega) true (by rw [← htwo]; exact stw_bit3 _ _ _))
  have B4 := Aside0.mk (show Go.Proofs.Ytdfejnakhpgekaa.QRegsTwice.lookasideref07_Bit.f 100 one 2 = some store from Go.Proofs.Ytdfejnakhpgekaa.QRegsTwice.bit_of (i := 2) (by omega) (by omega) (by omega) store (by rw [← hone]; exact stw_bit2 _ _ _))
  clear hone htwo hthree r1 r2 r3
  have M1 : IsMap (pk (pk (.map []) 88 24 one) 88 32 va) := pk_isMap (pk_isMap isMap_empty _ _ _) _ _ _
  have M2 : IsMap (pk (pk (pk (pk (.map []) 88 24 one) 88 32 va) 88 24 two) 88 32 vb) := pk_isMap (pk_isMap M1 _ _ _) _ _ _
  have M3 : IsMap (pk (pk (pk (pk (pk (.map []) 88 24 one) 88 32 va) 88 24 two) 88 32 vb) 88 24 0) := pk_isMap M2 _ _ _
  have G1 := Aside0.mk (show getOf (pk (pk (.map []) 88 24 one) 88 32 va) 88 24 = one by unfold getOf; rw [if_neg (by decide)]; exact (rd_fault isMap_empty _ _).1)
  have G2 := Aside0.mk (show getOf (pk (pk (pk (pk (.map []) 88 24 one) 88 32 va) 88 24 two) 88 32 vb) 88 24 = two by unfold getOf; rw [if_neg (by decide)]; exact (rd_fault M1 _ _).1)
  have G3 := Aside0.mk (show getOf (pk (pk (pk (pk (.map []) 88 24 one) 88 32 va) 88 24 two) 88 32 vb) 88 32 = vb by unfold getOf; rw [if_neg (by decide)]; exact (rd_fault M1 _ _).2)
  have G4 := Aside0.mk (show getOf (pk (pk (pk (pk (pk (.map []) 88 24 one) 88 32 va) 88 24 two) 88 32 vb) 88 24 0) 88 24 = 0 by unfold getOf; rw [if_neg (by decide)]; exact rdk_same M2 _ _ _)
  have G5 := Aside0.mk (show getOf (pk (pk (pk (pk (pk (pk (pk (.map []) 88 24 one) 88 32 va) 88 24 two) 88 32 vb) 88 24 0) 88 24 three) 88 32 vb) 88 24 = three by unfold getOf; rw [if_neg (by decide)]; exact (rd_fault M3 _ _).1)
  have X1 := Aside0.mk (rd_fault isMap_empty one va).1
  have X3 := Aside0.mk (rdk_same M2 88 24 0)
  clear M1 M2 M3
  have hw3 := HT.out
  go_enter Try.func4, Try.ntmps4
  go_wp2_with (first | (go_at_call 15; refine (new_calls HB.out (Nat.le_refl _)).mono ?_; rintro e wn ⟨p, mb, rfl, hM, hg⟩; have HM0 := Aside0.mk hM; clear hM hg) | (go_at_call 19; first | (refine (fault_d_eq HM0.out (a % 128) (b % 256) store false va hva (by omega) (by omega) (by omega) (by omega) (by decide) 0 one rfl F1.out).mono ?_; rintro e wf0 ⟨rfl, hM, hg⟩; have HM1 := Aside0.mk hM; clear HM0 hM hg) | (refine (fault_d_eq HM2.out (b % 128) (a % 256) store true vb hvb (by omega) (by omega) (by omega) (by omega) (by decide) one two X1.out F2.out).mono ?_; rintro e wf2 ⟨rfl, hM, hg⟩; have HM3 := Aside0.mk hM; clear HM2 hM hg) | (refine (fault_d_eq HM7.out (b % 128) (a % 256) store true vb hvb (by omega) (by omega) (by omega) (by omega) (by decide) 0 three X3.out F3.out).mono ?_; rintro e wf7 ⟨rfl, hM, hg⟩; have HM8 := Aside0.mk hM; clear HM7 hM hg)) | (go_at_call 17; first | (refine (read_eq HM1.out 88 24 (by decide) (by decide) (by decide) one G1.out).mono ?_; rintro e wr2 ⟨rfl, hM, hg⟩; have HM2 := Aside0.mk hM; clear HM1 hM hg) | (refine (read_eq HM3.out 88 24 (by decide) (by decide) (by decide) two G2.out).mono ?_; rintro e wr4 ⟨rfl, hM, hg⟩; have HM4 := Aside0.mk hM; clear HM3 hM hg) | (refine (read_eq HM4.out 88 32 (by decide) (by decide) (by decide) vb G3.out).mono ?_; rintro e wr5 ⟨rfl, hM, hg⟩; have HM5 := Aside0.mk hM; clear HM4 hM hg) | (refine (read_eq HM6.out 88 24 (by decide) (by decide) (by decide) 0 G4.out).mono ?_; rintro e wr7 ⟨rfl, hM, hg⟩; have HM7 := Aside0.mk hM; clear HM6 hM hg) | (refine (read_eq HM8.out 88 24 (by decide) (by decide) (by decide) three G5.out).mono ?_; rintro e wr9 ⟨rfl, hM, hg⟩; have HM9 := Aside0.mk hM; clear HM8 hM hg)) | (go_at_call 20; refine (clear_ok HM5.out 1 88 rfl rfl (by decide) (by decide)).mono ?_; rintro e wc ⟨rfl, hM, hg⟩; have HM6 := Aside0.mk hM; clear HM5 hM hg) | (go_at_call 21; first | (refine (Go.Proofs.Ytdfejnakhpgekaa.QRegsTwice.lookasideref07_Bit.calls 100 one 0 true _ B0.out).mono ?_; rintro e wb0 ⟨rfl, hd⟩; have HMb0 := Aside0.mk (HM9.out.same (drawn_grown hd)); clear B0 HM9 hd) | (refine (Go.Proofs.Ytdfejnakhpgekaa.QRegsTwice.lookasideref07_Bit.calls 100 one 1 false _ B1.out).mono ?_; rintro e wb1 ⟨rfl, hd⟩; have HMb1 := Aside0.mk (HMb0.out.same (drawn_grown hd)); clear B1 HMb0 hd) | (refine (Go.Proofs.Ytdfejnakhpgekaa.QRegsTwice.lookasideref07_Bit.calls 100 two 1 true _ B2.out).mono ?_; rintro e wb2 ⟨rfl, hd⟩; have HMb2 := Aside0.mk (HMb1.out.same (drawn_grown hd)); clear B2 HMb1 hd) | (refine (Go.Proofs.Ytdfejnakhpgekaa.QRegsTwice.lookasideref07_Bit.calls 100 two 3 true _ B3.out).mono ?_; rintro e wb3 ⟨rfl, hd⟩; have HMb3 := Aside0.mk (HMb2.out.same (drawn_grown hd)); clear B3 HMb2 hd) | (refine (Go.Proofs.Ytdfejnakhpgekaa.QRegsTwice.lookasideref07_Bit.calls 100 one 2 store _ B4.out).mono ?_; rintro e wb4 ⟨rfl, hd⟩; have HMb4 := Aside0.mk (HMb3.out.same (drawn_grown hd)); clear B4 HMb3 hd)) | (go_at_call 18; refine (lives_calls _).mono ?_; rintro e wl ⟨rfl, hg⟩; have HMl := Aside0.mk (HMb4.out.same hg); clear hg) | go_in)
  go_ret
  exact ⟨rfl, HMl.out.below⟩
theorem twice_np (a b va vb : Int) (store : Bool) (w : World) (ha : (Lit.int .i64 (-a - 1)).wf = true) (hb : (Lit.int .i64 b).wf = true) (hva : (Lit.int .u64 va).wf = true) (hvb : (Lit.int .u64 vb).wf = true) (ha0 : 0 ≤ a) (hb0 : 0 ≤ b) :
    Calls Try.prog 4 #[.int .i64 (-a - 1), .int .i64 b, .int .u64 va, .int .u64 vb, .bool store] w fun e w' => e = .returned (.bool true) ∧ Below w.heap.size w w' := by
  have HB := Aside0.mk (Below.refl w.heap.size w)
  obtain ⟨ha1, ha2⟩ := m_i64 ha
  obtain ⟨hb1, hb2⟩ := m_i64 hb
  obtain ⟨one, hone⟩ : ∃ y, stw false store false (a % 128) (b % 256) = y := ⟨_, rfl⟩
  obtain ⟨two, htwo⟩ : ∃ y, stw true store true (b % 128) (a % 256) = y := ⟨_, rfl⟩
  obtain ⟨three, hthree⟩ : ∃ y, stw false store true (b % 128) (a % 256) = y := ⟨_, rfl⟩
  have r1 := stw_range false store false (kind := (a % 128)) (asi := (b % 256)) (by omega) (by omega) (by omega) (by omega)
  have r2 := stw_range true store true (kind := (b % 128)) (asi := (a % 256)) (by omega) (by omega) (by omega) (by omega)
  have r3 := stw_range false store true (kind := (b % 128)) (asi := (a % 256)) (by omega) (by omega) (by omega) (by omega)
  have F1 := Aside0.mk hone
  have F3 := Aside0.mk hthree
  have F2 := Aside0.mk (show stw (one % 2 == 1) store true (b % 128) (a % 256) = two by rw [← hone, stw_odd]; exact htwo)
  have HT := Aside0.mk (show IntKind.u64.wrap (three + 2) = two by rw [← hthree, stw_three, htwo, IntKind.wrap_u64, ← htwo]; omega)
  rw [hone] at r1
  rw [htwo] at r2
  rw [hthree] at r3
  have B0 := Aside0.mk (show Go.Proofs.Ytdfejnakhpgekaa.QRegsTwice.lookasideref07_Bit.f 100 one 0 = some true from Go.Proofs.Ytdfejnakhpgekaa.QRegsTwice.bit_of (i := 0) (by omega) (by omega) (by omega) true (by rw [← hone, show (2 : Int) ^ 0 = 1 from rfl, Int.ediv_one, stw_odd]; rfl))
  have B1 := Aside0.mk (show Go.Proofs.Ytdfejnakhpgekaa.QRegsTwice.lookasideref07_Bit.f 100 one 1 = some false from Go.Proofs.Ytdfejnakhpgekaa.QRegsTwice.bit_of (i := 1) (by omega) (by omega) (by omega) false (by rw [← hone]; exact stw_bit1 _ _ _))
  have B2 := Aside0.mk (show Go.Proofs.Ytdfejnakhpgekaa.QRegsTwice.lookasideref07_Bit.f 100 two 1 = some true from Go.Proofs.Ytdfejnakhpgekaa.QRegsTwice.bit_of (i := 1) (by omega) (by omega) (by omega) true (by rw [← htwo]; exact stw_bit1 _ _ _))
  have B3 := Aside0.mk (show Go.Proofs.Ytdfejnakhpgekaa.QRegsTwice.lookasideref07_Bit.f 100 two 3 = some true from Go.Proofs.Ytdfejnakhpgekaa.QRegsTwice.bit_of (i := 3) (by omega) (by omega) (by omega) true (by rw [← htwo]; exact stw_bit3 _ _ _))
  have B4 := Aside0.mk (show Go.Proofs.Ytdfejnakhpgekaa.QRegsTwice.lookasideref07_Bit.f 100 one 2 = some store from Go.Proofs.Ytdfejnakhpgekaa.QRegsTwice.bit_of (i := 2) (by omega) (by omega) (by omega) store (by rw [← hone]; exact stw_bit2 _ _ _))
  clear hone htwo hthree r1 r2 r3
  have M1 : IsMap (pk (pk (.map []) 88 24 one) 88 32 va) := pk_isMap (pk_isMap isMap_empty _ _ _) _ _ _
  have M2 : IsMap (pk (pk (pk (pk (.map []) 88 24 one) 88 32 va) 88 24 two) 88 32 vb) := pk_isMap (pk_isMap M1 _ _ _) _ _ _
  have M3 : IsMap (pk (pk (pk (pk (pk (.map []) 88 24 one) 88 32 va) 88 24 two) 88 32 vb) 88 24 0) := pk_isMap M2 _ _ _
  have G1 := Aside0.mk (show getOf (pk (pk (.map []) 88 24 one) 88 32 va) 88 24 = one by unfold getOf; rw [if_neg (by decide)]; exact (rd_fault isMap_empty _ _).1)
  have G2 := Aside0.mk (show getOf (pk (pk (pk (pk (.map []) 88 24 one) 88 32 va) 88 24 two) 88 32 vb) 88 24 = two by unfold getOf; rw [if_neg (by decide)]; exact (rd_fault M1 _ _).1)
  have G3 := Aside0.mk (show getOf (pk (pk (pk (pk (.map []) 88 24 one) 88 32 va) 88 24 two) 88 32 vb) 88 32 = vb by unfold getOf; rw [if_neg (by decide)]; exact (rd_fault M1 _ _).2)
  have G4 := Aside0.mk (show getOf (pk (pk (pk (pk (pk (.map []) 88 24 one) 88 32 va) 88 24 two) 88 32 vb) 88 24 0) 88 24 = 0 by unfold getOf; rw [if_neg (by decide)]; exact rdk_same M2 _ _ _)
  have G5 := Aside0.mk (show getOf (pk (pk (pk (pk (pk (pk (pk (.map []) 88 24 one) 88 32 va) 88 24 two) 88 32 vb) 88 24 0) 88 24 three) 88 32 vb) 88 24 = three by unfold getOf; rw [if_neg (by decide)]; exact (rd_fault M3 _ _).1)
  have X1 := Aside0.mk (rd_fault isMap_empty one va).1
  have X3 := Aside0.mk (rdk_same M2 88 24 0)
  clear M1 M2 M3
  have hw3 := HT.out
  go_enter Try.func4, Try.ntmps4
  go_wp2_with (first | (go_at_call 15; refine (new_calls HB.out (Nat.le_refl _)).mono ?_; rintro e wn ⟨p, mb, rfl, hM, hg⟩; have HM0 := Aside0.mk hM; clear hM hg) | (go_at_call 19; first | (refine (fault_d_eq HM0.out (a % 128) (b % 256) store false va hva (by omega) (by omega) (by omega) (by omega) (by decide) 0 one rfl F1.out).mono ?_; rintro e wf0 ⟨rfl, hM, hg⟩; have HM1 := Aside0.mk hM; clear HM0 hM hg) | (refine (fault_d_eq HM2.out (b % 128) (a % 256) store true vb hvb (by omega) (by omega) (by omega) (by omega) (by decide) one two X1.out F2.out).mono ?_; rintro e wf2 ⟨rfl, hM, hg⟩; have HM3 := Aside0.mk hM; clear HM2 hM hg) | (refine (fault_d_eq HM7.out (b % 128) (a % 256) store true vb hvb (by omega) (by omega) (by omega) (by omega) (by decide) 0 three X3.out F3.out).mono ?_; rintro e wf7 ⟨rfl, hM, hg⟩; have HM8 := Aside0.mk hM; clear HM7 hM hg)) | (go_at_call 17; first | (refine (read_eq HM1.out 88 24 (by decide) (by decide) (by decide) one G1.out).mono ?_; rintro e wr2 ⟨rfl, hM, hg⟩; have HM2 := Aside0.mk hM; clear HM1 hM hg) | (refine (read_eq HM3.out 88 24 (by decide) (by decide) (by decide) two G2.out).mono ?_; rintro e wr4 ⟨rfl, hM, hg⟩; have HM4 := Aside0.mk hM; clear HM3 hM hg) | (refine (read_eq HM4.out 88 32 (by decide) (by decide) (by decide) vb G3.out).mono ?_; rintro e wr5 ⟨rfl, hM, hg⟩; have HM5 := Aside0.mk hM; clear HM4 hM hg) | (refine (read_eq HM6.out 88 24 (by decide) (by decide) (by decide) 0 G4.out).mono ?_; rintro e wr7 ⟨rfl, hM, hg⟩; have HM7 := Aside0.mk hM; clear HM6 hM hg) | (refine (read_eq HM8.out 88 24 (by decide) (by decide) (by decide) three G5.out).mono ?_; rintro e wr9 ⟨rfl, hM, hg⟩; have HM9 := Aside0.mk hM; clear HM8 hM hg)) | (go_at_call 20; refine (clear_ok HM5.out 1 88 rfl rfl (by decide) (by decide)).mono ?_; rintro e wc ⟨rfl, hM, hg⟩; have HM6 := Aside0.mk hM; clear HM5 hM hg) | (go_at_call 21; first | (refine (Go.Proofs.Ytdfejnakhpgekaa.QRegsTwice.lookasideref07_Bit.calls 100 one 0 true _ B0.out).mono ?_; rintro e wb0 ⟨rfl, hd⟩; have HMb0 := Aside0.mk (HM9.out.same (drawn_grown hd)); clear B0 HM9 hd) | (refine (Go.Proofs.Ytdfejnakhpgekaa.QRegsTwice.lookasideref07_Bit.calls 100 one 1 false _ B1.out).mono ?_; rintro e wb1 ⟨rfl, hd⟩; have HMb1 := Aside0.mk (HMb0.out.same (drawn_grown hd)); clear B1 HMb0 hd) | (refine (Go.Proofs.Ytdfejnakhpgekaa.QRegsTwice.lookasideref07_Bit.calls 100 two 1 true _ B2.out).mono ?_; rintro e wb2 ⟨rfl, hd⟩; have HMb2 := Aside0.mk (HMb1.out.same (drawn_grown hd)); clear B2 HMb1 hd) | (refine (Go.Proofs.Ytdfejnakhpgekaa.QRegsTwice.lookasideref07_Bit.calls 100 two 3 true _ B3.out).mono ?_; rintro e wb3 ⟨rfl, hd⟩; have HMb3 := Aside0.mk (HMb2.out.same (drawn_grown hd)); clear B3 HMb2 hd) | (refine (Go.Proofs.Ytdfejnakhpgekaa.QRegsTwice.lookasideref07_Bit.calls 100 one 2 store _ B4.out).mono ?_; rintro e wb4 ⟨rfl, hd⟩; have HMb4 := Aside0.mk (HMb3.out.same (drawn_grown hd)); clear B4 HMb3 hd)) | (go_at_call 18; refine (lives_calls _).mono ?_; rintro e wl ⟨rfl, hg⟩; have HMl := Aside0.mk (HMb4.out.same hg); clear hg) | go_in)
  go_ret
  exact ⟨rfl, HMl.out.below⟩
theorem twice_pn (a b va vb : Int) (store : Bool) (w : World) (ha : (Lit.int .i64 a).wf = true) (hb : (Lit.int .i64 (-b - 1)).wf = true) (hva : (Lit.int .u64 va).wf = true) (hvb : (Lit.int .u64 vb).wf = true) (ha0 : 0 ≤ a) (hb0 : 0 ≤ b) :
    Calls Try.prog 4 #[.int .i64 a, .int .i64 (-b - 1), .int .u64 va, .int .u64 vb, .bool store] w fun e w' => e = .returned (.bool true) ∧ Below w.heap.size w w' := by
  have HB := Aside0.mk (Below.refl w.heap.size w)
  obtain ⟨ha1, ha2⟩ := m_i64 ha
  obtain ⟨hb1, hb2⟩ := m_i64 hb
  obtain ⟨one, hone⟩ : ∃ y, stw false store false (a % 128) (b % 256) = y := ⟨_, rfl⟩
  obtain ⟨two, htwo⟩ : ∃ y, stw true store true (b % 128) (a % 256) = y := ⟨_, rfl⟩
  obtain ⟨three, hthree⟩ : ∃ y, stw false store true (b % 128) (a % 256) = y := ⟨_, rfl⟩
  have r1 := stw_range false store false (kind := (a % 128)) (asi := (b % 256)) (by omega) (by omega) (by omega) (by omega)
  have r2 := stw_range true store true (kind := (b % 128)) (asi := (a % 256)) (by omega) (by omega) (by omega) (by omega)
  have r3 := stw_range false store true (kind := (b % 128)) (asi := (a % 256)) (by omega) (by omega) (by omega) (by omega)
  have F1 := Aside0.mk hone
  have F3 := Aside0.mk hthree
  have F2 := Aside0.mk (show stw (one % 2 == 1) store true (b % 128) (a % 256) = two by rw [← hone, stw_odd]; exact htwo)
  have HT := Aside0.mk (show IntKind.u64.wrap (three + 2) = two by rw [← hthree, stw_three, htwo, IntKind.wrap_u64, ← htwo]; omega)
  rw [hone] at r1
  rw [htwo] at r2
  rw [hthree] at r3
  have B0 := Aside0.mk (show Go.Proofs.Ytdfejnakhpgekaa.QRegsTwice.lookasideref07_Bit.f 100 one 0 = some true from Go.Proofs.Ytdfejnakhpgekaa.QRegsTwice.bit_of (i := 0) (by omega) (by omega) (by omega) true (by rw [← hone, show (2 : Int) ^ 0 = 1 from rfl, Int.ediv_one, stw_odd]; rfl))
  have B1 := Aside0.mk (show Go.Proofs.Ytdfejnakhpgekaa.QRegsTwice.lookasideref07_Bit.f 100 one 1 = some false from Go.Proofs.Ytdfejnakhpgekaa.QRegsTwice.bit_of (i := 1) (by omega) (by omega) (by omega) false (by rw [← hone]; exact stw_bit1 _ _ _))
  have B2 := Aside0.mk (show Go.Proofs.Ytdfejnakhpgekaa.QRegsTwice.lookasideref07_Bit.f 100 two 1 = some true from Go.Proofs.Ytdfejnakhpgekaa.QRegsTwice.bit_of (i := 1) (by omega) (by omega) (by omega) true (by rw [← htwo]; exact stw_bit1 _ _ _))
  have B3 := Aside0.mk (show Go.Proofs.Ytdfejnakhpgekaa.QRegsTwice.lookasideref07_Bit.f 100 two 3 = some true from Go.Proofs.Ytdfejnakhpgekaa.QRegsTwice.bit_of (i := 3) (by omega) (by omega) (by omega) true (by rw [← htwo]; exact stw_bit3 _ _ _))
  have B4 := Aside0.mk (show Go.Proofs.Ytdfejnakhpgekaa.QRegsTwice.lookasideref07_Bit.f 100 one 2 = some store from Go.Proofs.Ytdfejnakhpgekaa.QRegsTwice.bit_of (i := 2) (by omega) (by omega) (by omega) store (by rw [← hone]; exact stw_bit2 _ _ _))
  clear hone htwo hthree r1 r2 r3
  have M1 : IsMap (pk (pk (.map []) 88 24 one) 88 32 va) := pk_isMap (pk_isMap isMap_empty _ _ _) _ _ _
  have M2 : IsMap (pk (pk (pk (pk (.map []) 88 24 one) 88 32 va) 88 24 two) 88 32 vb) := pk_isMap (pk_isMap M1 _ _ _) _ _ _
  have M3 : IsMap (pk (pk (pk (pk (pk (.map []) 88 24 one) 88 32 va) 88 24 two) 88 32 vb) 88 24 0) := pk_isMap M2 _ _ _
  have G1 := Aside0.mk (show getOf (pk (pk (.map []) 88 24 one) 88 32 va) 88 24 = one by unfold getOf; rw [if_neg (by decide)]; exact (rd_fault isMap_empty _ _).1)
  have G2 := Aside0.mk (show getOf (pk (pk (pk (pk (.map []) 88 24 one) 88 32 va) 88 24 two) 88 32 vb) 88 24 = two by unfold getOf; rw [if_neg (by decide)]; exact (rd_fault M1 _ _).1)
  have G3 := Aside0.mk (show getOf (pk (pk (pk (pk (.map []) 88 24 one) 88 32 va) 88 24 two) 88 32 vb) 88 32 = vb by unfold getOf; rw [if_neg (by decide)]; exact (rd_fault M1 _ _).2)
  have G4 := Aside0.mk (show getOf (pk (pk (pk (pk (pk (.map []) 88 24 one) 88 32 va) 88 24 two) 88 32 vb) 88 24 0) 88 24 = 0 by unfold getOf; rw [if_neg (by decide)]; exact rdk_same M2 _ _ _)
  have G5 := Aside0.mk (show getOf (pk (pk (pk (pk (pk (pk (pk (.map []) 88 24 one) 88 32 va) 88 24 two) 88 32 vb) 88 24 0) 88 24 three) 88 32 vb) 88 24 = three by unfold getOf; rw [if_neg (by decide)]; exact (rd_fault M3 _ _).1)
  have X1 := Aside0.mk (rd_fault isMap_empty one va).1
  have X3 := Aside0.mk (rdk_same M2 88 24 0)
  clear M1 M2 M3
  have hw3 := HT.out
  go_enter Try.func4, Try.ntmps4
  go_wp2_with (first | (go_at_call 15; refine (new_calls HB.out (Nat.le_refl _)).mono ?_; rintro e wn ⟨p, mb, rfl, hM, hg⟩; have HM0 := Aside0.mk hM; clear hM hg) | (go_at_call 19; first | (refine (fault_d_eq HM0.out (a % 128) (b % 256) store false va hva (by omega) (by omega) (by omega) (by omega) (by decide) 0 one rfl F1.out).mono ?_; rintro e wf0 ⟨rfl, hM, hg⟩; have HM1 := Aside0.mk hM; clear HM0 hM hg) | (refine (fault_d_eq HM2.out (b % 128) (a % 256) store true vb hvb (by omega) (by omega) (by omega) (by omega) (by decide) one two X1.out F2.out).mono ?_; rintro e wf2 ⟨rfl, hM, hg⟩; have HM3 := Aside0.mk hM; clear HM2 hM hg) | (refine (fault_d_eq HM7.out (b % 128) (a % 256) store true vb hvb (by omega) (by omega) (by omega) (by omega) (by decide) 0 three X3.out F3.out).mono ?_; rintro e wf7 ⟨rfl, hM, hg⟩; have HM8 := Aside0.mk hM; clear HM7 hM hg)) | (go_at_call 17; first | (refine (read_eq HM1.out 88 24 (by decide) (by decide) (by decide) one G1.out).mono ?_; rintro e wr2 ⟨rfl, hM, hg⟩; have HM2 := Aside0.mk hM; clear HM1 hM hg) | (refine (read_eq HM3.out 88 24 (by decide) (by decide) (by decide) two G2.out).mono ?_; rintro e wr4 ⟨rfl, hM, hg⟩; have HM4 := Aside0.mk hM; clear HM3 hM hg) | (refine (read_eq HM4.out 88 32 (by decide) (by decide) (by decide) vb G3.out).mono ?_; rintro e wr5 ⟨rfl, hM, hg⟩; have HM5 := Aside0.mk hM; clear HM4 hM hg) | (refine (read_eq HM6.out 88 24 (by decide) (by decide) (by decide) 0 G4.out).mono ?_; rintro e wr7 ⟨rfl, hM, hg⟩; have HM7 := Aside0.mk hM; clear HM6 hM hg) | (refine (read_eq HM8.out 88 24 (by decide) (by decide) (by decide) three G5.out).mono ?_; rintro e wr9 ⟨rfl, hM, hg⟩; have HM9 := Aside0.mk hM; clear HM8 hM hg)) | (go_at_call 20; refine (clear_ok HM5.out 1 88 rfl rfl (by decide) (by decide)).mono ?_; rintro e wc ⟨rfl, hM, hg⟩; have HM6 := Aside0.mk hM; clear HM5 hM hg) | (go_at_call 21; first | (refine (Go.Proofs.Ytdfejnakhpgekaa.QRegsTwice.lookasideref07_Bit.calls 100 one 0 true _ B0.out).mono ?_; rintro e wb0 ⟨rfl, hd⟩; have HMb0 := Aside0.mk (HM9.out.same (drawn_grown hd)); clear B0 HM9 hd) | (refine (Go.Proofs.Ytdfejnakhpgekaa.QRegsTwice.lookasideref07_Bit.calls 100 one 1 false _ B1.out).mono ?_; rintro e wb1 ⟨rfl, hd⟩; have HMb1 := Aside0.mk (HMb0.out.same (drawn_grown hd)); clear B1 HMb0 hd) | (refine (Go.Proofs.Ytdfejnakhpgekaa.QRegsTwice.lookasideref07_Bit.calls 100 two 1 true _ B2.out).mono ?_; rintro e wb2 ⟨rfl, hd⟩; have HMb2 := Aside0.mk (HMb1.out.same (drawn_grown hd)); clear B2 HMb1 hd) | (refine (Go.Proofs.Ytdfejnakhpgekaa.QRegsTwice.lookasideref07_Bit.calls 100 two 3 true _ B3.out).mono ?_; rintro e wb3 ⟨rfl, hd⟩; have HMb3 := Aside0.mk (HMb2.out.same (drawn_grown hd)); clear B3 HMb2 hd) | (refine (Go.Proofs.Ytdfejnakhpgekaa.QRegsTwice.lookasideref07_Bit.calls 100 one 2 store _ B4.out).mono ?_; rintro e wb4 ⟨rfl, hd⟩; have HMb4 := Aside0.mk (HMb3.out.same (drawn_grown hd)); clear B4 HMb3 hd)) | (go_at_call 18; refine (lives_calls _).mono ?_; rintro e wl ⟨rfl, hg⟩; have HMl := Aside0.mk (HMb4.out.same hg); clear hg) | go_in)
  go_ret
  exact ⟨rfl, HMl.out.below⟩
theorem twice_nn (a b va vb : Int) (store : Bool) (w : World) (ha : (Lit.int .i64 (-a - 1)).wf = true) (hb : (Lit.int .i64 (-b - 1)).wf = true) (hva : (Lit.int .u64 va).wf = true) (hvb : (Lit.int .u64 vb).wf = true) (ha0 : 0 ≤ a) (hb0 : 0 ≤ b) :
    Calls Try.prog 4 #[.int .i64 (-a - 1), .int .i64 (-b - 1), .int .u64 va, .int .u64 vb, .bool store] w fun e w' => e = .returned (.bool true) ∧ Below w.heap.size w w' := by
  have HB := Aside0.mk (Below.refl w.heap.size w)
  obtain ⟨ha1, ha2⟩ := m_i64 ha
  obtain ⟨hb1, hb2⟩ := m_i64 hb
  obtain ⟨one, hone⟩ : ∃ y, stw false store false (a % 128) (b % 256) = y := ⟨_, rfl⟩
  obtain ⟨two, htwo⟩ : ∃ y, stw true store true (b % 128) (a % 256) = y := ⟨_, rfl⟩
  obtain ⟨three, hthree⟩ : ∃ y, stw false store true (b % 128) (a % 256) = y := ⟨_, rfl⟩
  have r1 := stw_range false store false (kind := (a % 128)) (asi := (b % 256)) (by omega) (by omega) (by omega) (by omega)
  have r2 := stw_range true store true (kind := (b % 128)) (asi := (a % 256)) (by omega) (by omega) (by omega) (by omega)
  have r3 := stw_range false store true (kind := (b % 128)) (asi := (a % 256)) (by omega) (by omega) (by omega) (by omega)
  have F1 := Aside0.mk hone
  have F3 := Aside0.mk hthree
  have F2 := Aside0.mk (show stw (one % 2 == 1) store true (b % 128) (a % 256) = two by rw [← hone, stw_odd]; exact htwo)
  have HT := Aside0.mk (show IntKind.u64.wrap (three + 2) = two by rw [← hthree, stw_three, htwo, IntKind.wrap_u64, ← htwo]; omega)
  rw [hone] at r1
  rw [htwo] at r2
  rw [hthree] at r3
  have B0 := Aside0.mk (show Go.Proofs.Ytdfejnakhpgekaa.QRegsTwice.lookasideref07_Bit.f 100 one 0 = some true from Go.Proofs.Ytdfejnakhpgekaa.QRegsTwice.bit_of (i := 0) (by omega) (by omega) (by omega) true (by rw [← hone, show (2 : Int) ^ 0 = 1 from rfl, Int.ediv_one, stw_odd]; rfl))
  have B1 := Aside0.mk (show Go.Proofs.Ytdfejnakhpgekaa.QRegsTwice.lookasideref07_Bit.f 100 one 1 = some false from Go.Proofs.Ytdfejnakhpgekaa.QRegsTwice.bit_of (i := 1) (by omega) (by omega) (by omega) false (by rw [← hone]; exact stw_bit1 _ _ _))
  have B2 := Aside0.mk (show Go.Proofs.Ytdfejnakhpgekaa.QRegsTwice.lookasideref07_Bit.f 100 two 1 = some true from Go.Proofs.Ytdfejnakhpgekaa.QRegsTwice.bit_of (i := 1) (by omega) (by omega) (by omega) true (by rw [← htwo]; exact stw_bit1 _ _ _))
  have B3 := Aside0.mk (show Go.Proofs.Ytdfejnakhpgekaa.QRegsTwice.lookasideref07_Bit.f 100 two 3 = some true from Go.Proofs.Ytdfejnakhpgekaa.QRegsTwice.bit_of (i := 3) (by omega) (by omega) (by omega) true (by rw [← htwo]; exact stw_bit3 _ _ _))
  have B4 := Aside0.mk (show Go.Proofs.Ytdfejnakhpgekaa.QRegsTwice.lookasideref07_Bit.f 100 one 2 = some store from Go.Proofs.Ytdfejnakhpgekaa.QRegsTwice.bit_of (i := 2) (by omega) (by omega) (by omega) store (by rw [← hone]; exact stw_bit2 _ _ _))
  clear hone htwo hthree r1 r2 r3
  have M1 : IsMap (pk (pk (.map []) 88 24 one) 88 32 va) := pk_isMap (pk_isMap isMap_empty _ _ _) _ _ _
  have M2 : IsMap (pk (pk (pk (pk (.map []) 88 24 one) 88 32 va) 88 24 two) 88 32 vb) := pk_isMap (pk_isMap M1 _ _ _) _ _ _
  have M3 : IsMap (pk (pk (pk (pk (pk (.map []) 88 24 one) 88 32 va) 88 24 two) 88 32 vb) 88 24 0) := pk_isMap M2 _ _ _
  have G1 := Aside0.mk (show getOf (pk (pk (.map []) 88 24 one) 88 32 va) 88 24 = one by unfold getOf; rw [if_neg (by decide)]; exact (rd_fault isMap_empty _ _).1)
  have G2 := Aside0.mk (show getOf (pk (pk (pk (pk (.map []) 88 24 one) 88 32 va) 88 24 two) 88 32 vb) 88 24 = two by unfold getOf; rw [if_neg (by decide)]; exact (rd_fault M1 _ _).1)
  have G3 := Aside0.mk (show getOf (pk (pk (pk (pk (.map []) 88 24 one) 88 32 va) 88 24 two) 88 32 vb) 88 32 = vb by unfold getOf; rw [if_neg (by decide)]; exact (rd_fault M1 _ _).2)
  have G4 := Aside0.mk (show getOf (pk (pk (pk (pk (pk (.map []) 88 24 one) 88 32 va) 88 24 two) 88 32 vb) 88 24 0) 88 24 = 0 by unfold getOf; rw [if_neg (by decide)]; exact rdk_same M2 _ _ _)
  have G5 := Aside0.mk (show getOf (pk (pk (pk (pk (pk (pk (pk (.map []) 88 24 one) 88 32 va) 88 24 two) 88 32 vb) 88 24 0) 88 24 three) 88 32 vb) 88 24 = three by unfold getOf; rw [if_neg (by decide)]; exact (rd_fault M3 _ _).1)
  have X1 := Aside0.mk (rd_fault isMap_empty one va).1
  have X3 := Aside0.mk (rdk_same M2 88 24 0)
  clear M1 M2 M3
  have hw3 := HT.out
  go_enter Try.func4, Try.ntmps4
  go_wp2_with (first | (go_at_call 15; refine (new_calls HB.out (Nat.le_refl _)).mono ?_; rintro e wn ⟨p, mb, rfl, hM, hg⟩; have HM0 := Aside0.mk hM; clear hM hg) | (go_at_call 19; first | (refine (fault_d_eq HM0.out (a % 128) (b % 256) store false va hva (by omega) (by omega) (by omega) (by omega) (by decide) 0 one rfl F1.out).mono ?_; rintro e wf0 ⟨rfl, hM, hg⟩; have HM1 := Aside0.mk hM; clear HM0 hM hg) | (refine (fault_d_eq HM2.out (b % 128) (a % 256) store true vb hvb (by omega) (by omega) (by omega) (by omega) (by decide) one two X1.out F2.out).mono ?_; rintro e wf2 ⟨rfl, hM, hg⟩; have HM3 := Aside0.mk hM; clear HM2 hM hg) | (refine (fault_d_eq HM7.out (b % 128) (a % 256) store true vb hvb (by omega) (by omega) (by omega) (by omega) (by decide) 0 three X3.out F3.out).mono ?_; rintro e wf7 ⟨rfl, hM, hg⟩; have HM8 := Aside0.mk hM; clear HM7 hM hg)) | (go_at_call 17; first | (refine (read_eq HM1.out 88 24 (by decide) (by decide) (by decide) one G1.out).mono ?_; rintro e wr2 ⟨rfl, hM, hg⟩; have HM2 := Aside0.mk hM; clear HM1 hM hg) | (refine (read_eq HM3.out 88 24 (by decide) (by decide) (by decide) two G2.out).mono ?_; rintro e wr4 ⟨rfl, hM, hg⟩; have HM4 := Aside0.mk hM; clear HM3 hM hg) | (refine (read_eq HM4.out 88 32 (by decide) (by decide) (by decide) vb G3.out).mono ?_; rintro e wr5 ⟨rfl, hM, hg⟩; have HM5 := Aside0.mk hM; clear HM4 hM hg) | (refine (read_eq HM6.out 88 24 (by decide) (by decide) (by decide) 0 G4.out).mono ?_; rintro e wr7 ⟨rfl, hM, hg⟩; have HM7 := Aside0.mk hM; clear HM6 hM hg) | (refine (read_eq HM8.out 88 24 (by decide) (by decide) (by decide) three G5.out).mono ?_; rintro e wr9 ⟨rfl, hM, hg⟩; have HM9 := Aside0.mk hM; clear HM8 hM hg)) | (go_at_call 20; refine (clear_ok HM5.out 1 88 rfl rfl (by decide) (by decide)).mono ?_; rintro e wc ⟨rfl, hM, hg⟩; have HM6 := Aside0.mk hM; clear HM5 hM hg) | (go_at_call 21; first | (refine (Go.Proofs.Ytdfejnakhpgekaa.QRegsTwice.lookasideref07_Bit.calls 100 one 0 true _ B0.out).mono ?_; rintro e wb0 ⟨rfl, hd⟩; have HMb0 := Aside0.mk (HM9.out.same (drawn_grown hd)); clear B0 HM9 hd) | (refine (Go.Proofs.Ytdfejnakhpgekaa.QRegsTwice.lookasideref07_Bit.calls 100 one 1 false _ B1.out).mono ?_; rintro e wb1 ⟨rfl, hd⟩; have HMb1 := Aside0.mk (HMb0.out.same (drawn_grown hd)); clear B1 HMb0 hd) | (refine (Go.Proofs.Ytdfejnakhpgekaa.QRegsTwice.lookasideref07_Bit.calls 100 two 1 true _ B2.out).mono ?_; rintro e wb2 ⟨rfl, hd⟩; have HMb2 := Aside0.mk (HMb1.out.same (drawn_grown hd)); clear B2 HMb1 hd) | (refine (Go.Proofs.Ytdfejnakhpgekaa.QRegsTwice.lookasideref07_Bit.calls 100 two 3 true _ B3.out).mono ?_; rintro e wb3 ⟨rfl, hd⟩; have HMb3 := Aside0.mk (HMb2.out.same (drawn_grown hd)); clear B3 HMb2 hd) | (refine (Go.Proofs.Ytdfejnakhpgekaa.QRegsTwice.lookasideref07_Bit.calls 100 one 2 store _ B4.out).mono ?_; rintro e wb4 ⟨rfl, hd⟩; have HMb4 := Aside0.mk (HMb3.out.same (drawn_grown hd)); clear B4 HMb3 hd)) | (go_at_call 18; refine (lives_calls _).mono ?_; rintro e wl ⟨rfl, hg⟩; have HMl := Aside0.mk (HMb4.out.same hg); clear hg) | go_in)
  go_ret
  exact ⟨rfl, HMl.out.below⟩
theorem twice_walk (a b va vb : Int) (store : Bool) (w : World) (ha : (Lit.int .i64 a).wf = true) (hb : (Lit.int .i64 b).wf = true) (hva : (Lit.int .u64 va).wf = true) (hvb : (Lit.int .u64 vb).wf = true) :
    Calls Try.prog 4 #[.int .i64 a, .int .i64 b, .int .u64 va, .int .u64 vb, .bool store] w fun e w' => e = .returned (.bool true) ∧ Below w.heap.size w w' := by
  by_cases h1 : a < 0
  · obtain ⟨A, rfl⟩ : ∃ A, a = -A - 1 := ⟨-a - 1, by omega⟩
    by_cases h2 : b < 0
    · obtain ⟨C, rfl⟩ : ∃ C, b = -C - 1 := ⟨-b - 1, by omega⟩
      exact twice_nn A C va vb store w ha hb hva hvb (by omega) (by omega)
    · exact twice_np A b va vb store w ha hb hva hvb (by omega) (by omega)
  · by_cases h2 : b < 0
    · obtain ⟨C, rfl⟩ : ∃ C, b = -C - 1 := ⟨-b - 1, by omega⟩
      exact twice_pn a C va vb store w ha hb hva hvb (by omega) (by omega)
    · exact twice_pp a b va vb store w ha hb hva hvb (by omega) (by omega)
end
end Go.Proofs.Ytdfejnakhpgekaa.QRegsPlays
