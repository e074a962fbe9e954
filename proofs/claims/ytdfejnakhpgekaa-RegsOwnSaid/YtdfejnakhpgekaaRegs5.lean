/- The words that faults, misses and writes leave in registers, as numbers; no conditions beyond the numbers' bounds. -/
import Derived.Test.YtdfejnakhpgekaaRegs4
namespace Go.Proofs.Ytdfejnakhpgekaa.QRegsPlays
open Go.RowKit Go.Maps Go.Proofs.YtdfejnakhpgekaaW.PrintWords Go.Proofs.YtdfejnakhpgekaaW.PrintLast Go.Proofs.YtdfejnakhpgekaaW.PrintMore
set_option linter.unusedSimpArgs false
set_option linter.unusedVariables false
section
set_option maxHeartbeats 1000000
set_option maxRecDepth 100000
def b2i (b : Bool) : Int := if b then 1 else 0
/-- A fault's status. -/
def stw (b0 store priv : Bool) (kind asi : Int) : Int := 1 + 2 * b2i b0 + 4 * b2i store + 8 * b2i priv + 128 * kind + 65536 * asi
theorem b2n_i (b : Bool) : ((b2n b : Nat) : Int) = b2i b := by cases b <;> rfl
theorem bit0 {x : Int} (h : (Lit.int .u64 x).wf = true) : field_Bit.f x 0 = some (x % 2 == 1) := by
  obtain ⟨h0, h1⟩ := m_u64 h
  obtain ⟨X, rfl⟩ := Int.eq_ofNat_of_zero_le h0
  have := fGet X (by omega) 0 1 (by omega) (by omega)
  rw [show ((0 : Nat) : Int) = 0 from rfl, show ((1 : Nat) : Int) = 1 from rfl] at this
  unfold field_Bit.f
  rw [this, Option.bind_some]
  refine congrArg some ?_
  rw [Bool.eq_iff_iff, beq_iff_eq, beq_iff_eq]
  simp only [Nat.pow_zero, Nat.div_one, Nat.pow_one]
  omega
theorem stw_wf {b0 store priv : Bool} {kind asi : Int} (h0 : 0 ≤ kind) (h1 : kind < 128) (h2 : 0 ≤ asi) (h3 : asi < 256) : (Lit.int .u64 (stw b0 store priv kind asi)).wf = true := by
  refine WalkArith.wf_u64 ?_
  unfold stw b2i
  cases b0 <;> cases store <;> cases priv <;> simp <;> omega
theorem word_chain (b0 store priv : Bool) {kind asi : Int} (h0 : 0 ≤ kind) (h1 : kind < 128) (h2 : 0 ≤ asi) (h3 : asi < 256) :
    ∃ s1 s2 s3 s4, field_Set.f 1 1 b0 = some s1 ∧ field_Set.f s1 2 store = some s2 ∧ field_Set.f s2 3 priv = some s3 ∧ field_Put.f s3 7 7 kind = some s4 ∧ field_Put.f s4 16 8 asi = some (stw b0 store priv kind asi) := by
  obtain ⟨k, rfl⟩ := Int.eq_ofNat_of_zero_le h0
  obtain ⟨a, rfl⟩ := Int.eq_ofNat_of_zero_le h2
  have l0 := b2n_lt b0
  have l1 := b2n_lt store
  have l2 := b2n_lt priv
  have e1 := fSet 1 (by omega) 1 (by omega) b0
  rw [put_add 1 1 1 (b2n b0) 2 2 rfl rfl (by omega) l0] at e1
  have e2 := fSet (1 + b2n b0 * 2) (by omega) 2 (by omega) store
  rw [put_add _ 2 1 (b2n store) 4 2 rfl rfl (by omega) l1] at e2
  have e3 := fSet (1 + b2n b0 * 2 + b2n store * 4) (by omega) 3 (by omega) priv
  rw [put_add _ 3 1 (b2n priv) 8 2 rfl rfl (by omega) l2] at e3
  have e4 := fPut (1 + b2n b0 * 2 + b2n store * 4 + b2n priv * 8) k (by omega) 7 7 (by omega) (by omega)
  rw [put_add _ 7 7 k 128 128 rfl rfl (by omega) (by omega)] at e4
  have e5 := fPut (1 + b2n b0 * 2 + b2n store * 4 + b2n priv * 8 + k * 128) a (by omega) 16 8 (by omega) (by omega)
  rw [put_add _ 16 8 a 65536 256 rfl rfl (by omega) (by omega)] at e5
  refine ⟨_, _, _, _, e1, e2, e3, e4, e5.trans (congrArg some ?_)⟩
  unfold stw
  rw [← b2n_i, ← b2n_i, ← b2n_i]
  omega
theorem fault_i_ok {B w0 p mb n D W} (h : Regs B w0 p mb n D W) (kind asi : Int) (store priv : Bool) (va : Int) (wva : (Lit.int .u64 va).wf = true) (h0 : 0 ≤ kind) (h1 : kind < 128) (h2 : 0 ≤ asi) (h3 : asi < 256) (hn : n < 900000) :
    Calls Try.prog 19 #[.pointer (some ⟨p, 0, none⟩), .int .i64 0, .int .i64 kind, .int .i64 asi, .bool store, .bool priv, .int .u64 va] W fun e W' => e = .returned (.int .i64 0) ∧ Regs B w0 p mb (n + 2) (pk D 80 24 (stw (rdk D 80 24 % 2 == 1) store priv kind asi)) W' ∧ W.grownBy W' (some mb) := by
  obtain ⟨s1, s2, s3, s4, e1, e2, e3, e4, e5⟩ := word_chain (rdk D 80 24 % 2 == 1) store priv h0 h1 h2 h3
  exact fault_i h kind asi store priv va wva h0 h1 h2 h3 _ s1 s2 s3 s4 _ (bit0 (h.wfk 80 24 (by decide) (by decide))) e1 e2 e3 e4 e5 (stw_wf h0 h1 h2 h3) hn
theorem fault_d_ok {B w0 p mb n D W} (h : Regs B w0 p mb n D W) (kind asi : Int) (store priv : Bool) (va : Int) (wva : (Lit.int .u64 va).wf = true) (h0 : 0 ≤ kind) (h1 : kind < 128) (h2 : 0 ≤ asi) (h3 : asi < 256) (hn : n < 900000) :
    Calls Try.prog 19 #[.pointer (some ⟨p, 0, none⟩), .int .i64 1, .int .i64 kind, .int .i64 asi, .bool store, .bool priv, .int .u64 va] W fun e W' => e = .returned (.int .i64 0) ∧ Regs B w0 p mb (n + 2) (pk (pk D 88 24 (stw (rdk D 88 24 % 2 == 1) store priv kind asi)) 88 32 va) W' ∧ W.grownBy W' (some mb) := by
  obtain ⟨s1, s2, s3, s4, e1, e2, e3, e4, e5⟩ := word_chain (rdk D 88 24 % 2 == 1) store priv h0 h1 h2 h3
  exact fault_d h kind asi store priv va wva h0 h1 h2 h3 _ s1 s2 s3 s4 _ (bit0 (h.wfk 88 24 (by decide) (by decide))) e1 e2 e3 e4 e5 (stw_wf h0 h1 h2 h3) hn
/-- Two keys' places. -/
theorem key_ne {a p a' p' : Int} (h : ¬ (a = a' ∧ p = p')) (ha : (Lit.int .i64 a).wf = true) (hp : (Lit.int .u64 p).wf = true) (ha' : (Lit.int .i64 a').wf = true) (hp' : (Lit.int .u64 p').wf = true) : klit a p ≠ klit a' p' := fun e => h (klit_inj ha hp ha' hp' e)
end
end Go.Proofs.Ytdfejnakhpgekaa.QRegsPlays
