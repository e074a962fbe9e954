/- What registers and the document's registers do alike: each of Write, Miss, Fault and Clear; at whatever numbers. -/
import Derived.Test.YtdfejnakhpgekaaRegsBits
import Derived.Test.YtdfejnakhpgekaaQRegsPlaysx3
import Derived.Test.YtdfejnakhpgekaaQRegsPlaysx4
namespace Go.Proofs.Ytdfejnakhpgekaa.QRegsPlays
open Go.RowKit Go.Maps Go.Proofs.YtdfejnakhpgekaaW.PrintWords Go.Proofs.YtdfejnakhpgekaaW.PrintLast Go.Proofs.YtdfejnakhpgekaaW.PrintMore
set_option linter.unusedSimpArgs false
set_option linter.unusedVariables false
section
set_option maxHeartbeats 400000
set_option maxRecDepth 100000
abbrev T10 : Type := Int × Int × Int × Int × Int × Int × Int × Int × Int × Int
def tupE (D : DataW Unit) (e : Int) : T10 := (rdk D 80 24, rdk D 80 40, rdk D 80 48, rdk D 88 8, rdk D 88 16, rdk D 88 24, rdk D 88 32, rdk D 88 40, rdk D 88 48, e)
theorem tup_80_24 {D : DataW Unit} (h : IsMap D) (v e : Int) : tupE (pk D 80 24 v) e = (v, rdk D 80 40, rdk D 80 48, rdk D 88 8, rdk D 88 16, rdk D 88 24, rdk D 88 32, rdk D 88 40, rdk D 88 48, e) := by
  unfold tupE
  rw [rdk_same h, rdk_other (key_ne (a := 80) (p := 40) (a' := 80) (p' := 24) (by decide) (by decide) (by decide) (by decide) (by decide)), rdk_other (key_ne (a := 80) (p := 48) (a' := 80) (p' := 24) (by decide) (by decide) (by decide) (by decide) (by decide)), rdk_other (key_ne (a := 88) (p := 8) (a' := 80) (p' := 24) (by decide) (by decide) (by decide) (by decide) (by decide)), rdk_other (key_ne (a := 88) (p := 16) (a' := 80) (p' := 24) (by decide) (by decide) (by decide) (by decide) (by decide)), rdk_other (key_ne (a := 88) (p := 24) (a' := 80) (p' := 24) (by decide) (by decide) (by decide) (by decide) (by decide)), rdk_other (key_ne (a := 88) (p := 32) (a' := 80) (p' := 24) (by decide) (by decide) (by decide) (by decide) (by decide)), rdk_other (key_ne (a := 88) (p := 40) (a' := 80) (p' := 24) (by decide) (by decide) (by decide) (by decide) (by decide)), rdk_other (key_ne (a := 88) (p := 48) (a' := 80) (p' := 24) (by decide) (by decide) (by decide) (by decide) (by decide))]
theorem tup_80_40 {D : DataW Unit} (h : IsMap D) (v e : Int) : tupE (pk D 80 40 v) e = (rdk D 80 24, v, rdk D 80 48, rdk D 88 8, rdk D 88 16, rdk D 88 24, rdk D 88 32, rdk D 88 40, rdk D 88 48, e) := by
  unfold tupE
  rw [rdk_other (key_ne (a := 80) (p := 24) (a' := 80) (p' := 40) (by decide) (by decide) (by decide) (by decide) (by decide)), rdk_same h, rdk_other (key_ne (a := 80) (p := 48) (a' := 80) (p' := 40) (by decide) (by decide) (by decide) (by decide) (by decide)), rdk_other (key_ne (a := 88) (p := 8) (a' := 80) (p' := 40) (by decide) (by decide) (by decide) (by decide) (by decide)), rdk_other (key_ne (a := 88) (p := 16) (a' := 80) (p' := 40) (by decide) (by decide) (by decide) (by decide) (by decide)), rdk_other (key_ne (a := 88) (p := 24) (a' := 80) (p' := 40) (by decide) (by decide) (by decide) (by decide) (by decide)), rdk_other (key_ne (a := 88) (p := 32) (a' := 80) (p' := 40) (by decide) (by decide) (by decide) (by decide) (by decide)), rdk_other (key_ne (a := 88) (p := 40) (a' := 80) (p' := 40) (by decide) (by decide) (by decide) (by decide) (by decide)), rdk_other (key_ne (a := 88) (p := 48) (a' := 80) (p' := 40) (by decide) (by decide) (by decide) (by decide) (by decide))]
theorem tup_80_48 {D : DataW Unit} (h : IsMap D) (v e : Int) : tupE (pk D 80 48 v) e = (rdk D 80 24, rdk D 80 40, v, rdk D 88 8, rdk D 88 16, rdk D 88 24, rdk D 88 32, rdk D 88 40, rdk D 88 48, e) := by
  unfold tupE
  rw [rdk_other (key_ne (a := 80) (p := 24) (a' := 80) (p' := 48) (by decide) (by decide) (by decide) (by decide) (by decide)), rdk_other (key_ne (a := 80) (p := 40) (a' := 80) (p' := 48) (by decide) (by decide) (by decide) (by decide) (by decide)), rdk_same h, rdk_other (key_ne (a := 88) (p := 8) (a' := 80) (p' := 48) (by decide) (by decide) (by decide) (by decide) (by decide)), rdk_other (key_ne (a := 88) (p := 16) (a' := 80) (p' := 48) (by decide) (by decide) (by decide) (by decide) (by decide)), rdk_other (key_ne (a := 88) (p := 24) (a' := 80) (p' := 48) (by decide) (by decide) (by decide) (by decide) (by decide)), rdk_other (key_ne (a := 88) (p := 32) (a' := 80) (p' := 48) (by decide) (by decide) (by decide) (by decide) (by decide)), rdk_other (key_ne (a := 88) (p := 40) (a' := 80) (p' := 48) (by decide) (by decide) (by decide) (by decide) (by decide)), rdk_other (key_ne (a := 88) (p := 48) (a' := 80) (p' := 48) (by decide) (by decide) (by decide) (by decide) (by decide))]
theorem tup_88_8 {D : DataW Unit} (h : IsMap D) (v e : Int) : tupE (pk D 88 8 v) e = (rdk D 80 24, rdk D 80 40, rdk D 80 48, v, rdk D 88 16, rdk D 88 24, rdk D 88 32, rdk D 88 40, rdk D 88 48, e) := by
  unfold tupE
  rw [rdk_other (key_ne (a := 80) (p := 24) (a' := 88) (p' := 8) (by decide) (by decide) (by decide) (by decide) (by decide)), rdk_other (key_ne (a := 80) (p := 40) (a' := 88) (p' := 8) (by decide) (by decide) (by decide) (by decide) (by decide)), rdk_other (key_ne (a := 80) (p := 48) (a' := 88) (p' := 8) (by decide) (by decide) (by decide) (by decide) (by decide)), rdk_same h, rdk_other (key_ne (a := 88) (p := 16) (a' := 88) (p' := 8) (by decide) (by decide) (by decide) (by decide) (by decide)), rdk_other (key_ne (a := 88) (p := 24) (a' := 88) (p' := 8) (by decide) (by decide) (by decide) (by decide) (by decide)), rdk_other (key_ne (a := 88) (p := 32) (a' := 88) (p' := 8) (by decide) (by decide) (by decide) (by decide) (by decide)), rdk_other (key_ne (a := 88) (p := 40) (a' := 88) (p' := 8) (by decide) (by decide) (by decide) (by decide) (by decide)), rdk_other (key_ne (a := 88) (p := 48) (a' := 88) (p' := 8) (by decide) (by decide) (by decide) (by decide) (by decide))]
theorem tup_88_16 {D : DataW Unit} (h : IsMap D) (v e : Int) : tupE (pk D 88 16 v) e = (rdk D 80 24, rdk D 80 40, rdk D 80 48, rdk D 88 8, v, rdk D 88 24, rdk D 88 32, rdk D 88 40, rdk D 88 48, e) := by
  unfold tupE
  rw [rdk_other (key_ne (a := 80) (p := 24) (a' := 88) (p' := 16) (by decide) (by decide) (by decide) (by decide) (by decide)), rdk_other (key_ne (a := 80) (p := 40) (a' := 88) (p' := 16) (by decide) (by decide) (by decide) (by decide) (by decide)), rdk_other (key_ne (a := 80) (p := 48) (a' := 88) (p' := 16) (by decide) (by decide) (by decide) (by decide) (by decide)), rdk_other (key_ne (a := 88) (p := 8) (a' := 88) (p' := 16) (by decide) (by decide) (by decide) (by decide) (by decide)), rdk_same h, rdk_other (key_ne (a := 88) (p := 24) (a' := 88) (p' := 16) (by decide) (by decide) (by decide) (by decide) (by decide)), rdk_other (key_ne (a := 88) (p := 32) (a' := 88) (p' := 16) (by decide) (by decide) (by decide) (by decide) (by decide)), rdk_other (key_ne (a := 88) (p := 40) (a' := 88) (p' := 16) (by decide) (by decide) (by decide) (by decide) (by decide)), rdk_other (key_ne (a := 88) (p := 48) (a' := 88) (p' := 16) (by decide) (by decide) (by decide) (by decide) (by decide))]
theorem tup_88_24 {D : DataW Unit} (h : IsMap D) (v e : Int) : tupE (pk D 88 24 v) e = (rdk D 80 24, rdk D 80 40, rdk D 80 48, rdk D 88 8, rdk D 88 16, v, rdk D 88 32, rdk D 88 40, rdk D 88 48, e) := by
  unfold tupE
  rw [rdk_other (key_ne (a := 80) (p := 24) (a' := 88) (p' := 24) (by decide) (by decide) (by decide) (by decide) (by decide)), rdk_other (key_ne (a := 80) (p := 40) (a' := 88) (p' := 24) (by decide) (by decide) (by decide) (by decide) (by decide)), rdk_other (key_ne (a := 80) (p := 48) (a' := 88) (p' := 24) (by decide) (by decide) (by decide) (by decide) (by decide)), rdk_other (key_ne (a := 88) (p := 8) (a' := 88) (p' := 24) (by decide) (by decide) (by decide) (by decide) (by decide)), rdk_other (key_ne (a := 88) (p := 16) (a' := 88) (p' := 24) (by decide) (by decide) (by decide) (by decide) (by decide)), rdk_same h, rdk_other (key_ne (a := 88) (p := 32) (a' := 88) (p' := 24) (by decide) (by decide) (by decide) (by decide) (by decide)), rdk_other (key_ne (a := 88) (p := 40) (a' := 88) (p' := 24) (by decide) (by decide) (by decide) (by decide) (by decide)), rdk_other (key_ne (a := 88) (p := 48) (a' := 88) (p' := 24) (by decide) (by decide) (by decide) (by decide) (by decide))]
theorem tup_88_32 {D : DataW Unit} (h : IsMap D) (v e : Int) : tupE (pk D 88 32 v) e = (rdk D 80 24, rdk D 80 40, rdk D 80 48, rdk D 88 8, rdk D 88 16, rdk D 88 24, v, rdk D 88 40, rdk D 88 48, e) := by
  unfold tupE
  rw [rdk_other (key_ne (a := 80) (p := 24) (a' := 88) (p' := 32) (by decide) (by decide) (by decide) (by decide) (by decide)), rdk_other (key_ne (a := 80) (p := 40) (a' := 88) (p' := 32) (by decide) (by decide) (by decide) (by decide) (by decide)), rdk_other (key_ne (a := 80) (p := 48) (a' := 88) (p' := 32) (by decide) (by decide) (by decide) (by decide) (by decide)), rdk_other (key_ne (a := 88) (p := 8) (a' := 88) (p' := 32) (by decide) (by decide) (by decide) (by decide) (by decide)), rdk_other (key_ne (a := 88) (p := 16) (a' := 88) (p' := 32) (by decide) (by decide) (by decide) (by decide) (by decide)), rdk_other (key_ne (a := 88) (p := 24) (a' := 88) (p' := 32) (by decide) (by decide) (by decide) (by decide) (by decide)), rdk_same h, rdk_other (key_ne (a := 88) (p := 40) (a' := 88) (p' := 32) (by decide) (by decide) (by decide) (by decide) (by decide)), rdk_other (key_ne (a := 88) (p := 48) (a' := 88) (p' := 32) (by decide) (by decide) (by decide) (by decide) (by decide))]
theorem tup_88_40 {D : DataW Unit} (h : IsMap D) (v e : Int) : tupE (pk D 88 40 v) e = (rdk D 80 24, rdk D 80 40, rdk D 80 48, rdk D 88 8, rdk D 88 16, rdk D 88 24, rdk D 88 32, v, rdk D 88 48, e) := by
  unfold tupE
  rw [rdk_other (key_ne (a := 80) (p := 24) (a' := 88) (p' := 40) (by decide) (by decide) (by decide) (by decide) (by decide)), rdk_other (key_ne (a := 80) (p := 40) (a' := 88) (p' := 40) (by decide) (by decide) (by decide) (by decide) (by decide)), rdk_other (key_ne (a := 80) (p := 48) (a' := 88) (p' := 40) (by decide) (by decide) (by decide) (by decide) (by decide)), rdk_other (key_ne (a := 88) (p := 8) (a' := 88) (p' := 40) (by decide) (by decide) (by decide) (by decide) (by decide)), rdk_other (key_ne (a := 88) (p := 16) (a' := 88) (p' := 40) (by decide) (by decide) (by decide) (by decide) (by decide)), rdk_other (key_ne (a := 88) (p := 24) (a' := 88) (p' := 40) (by decide) (by decide) (by decide) (by decide) (by decide)), rdk_other (key_ne (a := 88) (p := 32) (a' := 88) (p' := 40) (by decide) (by decide) (by decide) (by decide) (by decide)), rdk_same h, rdk_other (key_ne (a := 88) (p := 48) (a' := 88) (p' := 40) (by decide) (by decide) (by decide) (by decide) (by decide))]
theorem tup_88_48 {D : DataW Unit} (h : IsMap D) (v e : Int) : tupE (pk D 88 48 v) e = (rdk D 80 24, rdk D 80 40, rdk D 80 48, rdk D 88 8, rdk D 88 16, rdk D 88 24, rdk D 88 32, rdk D 88 40, v, e) := by
  unfold tupE
  rw [rdk_other (key_ne (a := 80) (p := 24) (a' := 88) (p' := 48) (by decide) (by decide) (by decide) (by decide) (by decide)), rdk_other (key_ne (a := 80) (p := 40) (a' := 88) (p' := 48) (by decide) (by decide) (by decide) (by decide) (by decide)), rdk_other (key_ne (a := 80) (p := 48) (a' := 88) (p' := 48) (by decide) (by decide) (by decide) (by decide) (by decide)), rdk_other (key_ne (a := 88) (p := 8) (a' := 88) (p' := 48) (by decide) (by decide) (by decide) (by decide) (by decide)), rdk_other (key_ne (a := 88) (p := 16) (a' := 88) (p' := 48) (by decide) (by decide) (by decide) (by decide) (by decide)), rdk_other (key_ne (a := 88) (p := 24) (a' := 88) (p' := 48) (by decide) (by decide) (by decide) (by decide) (by decide)), rdk_other (key_ne (a := 88) (p := 32) (a' := 88) (p' := 48) (by decide) (by decide) (by decide) (by decide) (by decide)), rdk_other (key_ne (a := 88) (p := 40) (a' := 88) (p' := 48) (by decide) (by decide) (by decide) (by decide) (by decide)), rdk_same h]
theorem st_word {v : Int} (h : (Lit.int .u64 v).wf = true) : IntKind.u64.wrap ((Int.tmod v 16384) + (IntKind.u64.wrap ((Int.tmod (IntKind.u64.wrap (Int.tdiv v 65536)) 256) * 65536))) = v % 16384 + v / 65536 % 256 * 65536 := by
  obtain ⟨h0, h1⟩ := m_u64 h
  simp only [IntKind.wrap_u64]
  rw [Int.tmod_eq_emod_of_nonneg h0, Int.tdiv_eq_ediv_of_nonneg h0, Int.tmod_eq_emod_of_nonneg (by omega)]
  omega
theorem tsb_word {v : Int} (h : (Lit.int .u64 v).wf = true) : IntKind.u64.wrap ((IntKind.u64.wrap ((IntKind.u64.wrap (Int.tdiv v 4096)) * 4096)) + (Int.tmod v 8)) = v / 4096 * 4096 + v % 8 := by
  obtain ⟨h0, h1⟩ := m_u64 h
  simp only [IntKind.wrap_u64]
  rw [Int.tmod_eq_emod_of_nonneg h0, Int.tdiv_eq_ediv_of_nonneg h0]
  omega
theorem st_word2 {v : Int} (h : (Lit.int .u64 v).wf = true) : IntKind.u64.wrap (v % 16384 + (IntKind.u64.wrap ((Int.tmod (IntKind.u64.wrap (Int.tdiv v 65536)) 256) * 65536))) = v % 16384 + v / 65536 % 256 * 65536 := by
  have := st_word h
  rw [Int.tmod_eq_emod_of_nonneg (m_u64 h).1] at this
  exact this
theorem tsb_word2 {v : Int} (h : (Lit.int .u64 v).wf = true) : IntKind.u64.wrap ((IntKind.u64.wrap ((IntKind.u64.wrap (Int.tdiv v 4096)) * 4096)) + v % 8) = v / 4096 * 4096 + v % 8 := by
  have := tsb_word h
  rw [Int.tmod_eq_emod_of_nonneg (m_u64 h).1] at this
  exact this
theorem Regs.more {B w0 p mb n D W n'} (h : Regs B w0 p mb n D W) (hn : n ≤ n') : Regs B w0 p mb n' D W := ⟨h.below, h.hp, h.hm, h.hB, h.row, h.own.mono hn⟩
theorem there_cases {a q : Int} (h : thereOf a q = true) : (a = 80 ∧ (q = 0 ∨ q = 24 ∨ q = 40 ∨ q = 48)) ∨ (a = 88 ∧ (q = 0 ∨ q = 8 ∨ q = 16 ∨ q = 24 ∨ q = 32 ∨ q = 40 ∨ q = 48)) := by
  simp [thereOf, keysL] at h
  omega
theorem ref_read_none {a q : Int} (h : thereOf a q = false) (r0 r1 r2 r3 r4 r5 r6 r7 r8 : Int) : lookasideref07_Read.f r0 r1 r2 r3 r4 r5 r6 r7 r8 a q = some (0, 10) := by
  simp [thereOf, keysL] at h
  unfold lookasideref07_Read.f
  by_cases h1 : a = 80
  · subst h1
    simp at h
    rw [if_pos rfl, if_neg (by omega), if_neg (by omega), if_neg (by omega), if_neg (by omega)]
  · rw [if_neg h1]
    by_cases h2 : a = 88
    · subst h2
      simp at h
      rw [if_pos rfl, if_neg (by omega), if_neg (by omega), if_neg (by omega), if_neg (by omega), if_neg (by omega), if_neg (by omega), if_neg (by omega)]
    · rw [if_neg h2]
theorem both_write {B w0 p mb n D W} (h : Regs B w0 p mb n D W) (a q v : Int) (ha : (Lit.int .i64 a).wf = true) (hq : (Lit.int .u64 q).wf = true) (hv : (Lit.int .u64 v).wf = true) (hn : n < 900000) :
    ∃ D' e, lookasideref07_Write.f 20 (rdk D 80 24) (rdk D 80 40) (rdk D 80 48) (rdk D 88 8) (rdk D 88 16) (rdk D 88 24) (rdk D 88 32) (rdk D 88 40) (rdk D 88 48) a q v = some (tupE D' e) ∧ Calls Try.prog 16 #[.pointer (some ⟨p, 0, none⟩), .int .i64 a, .int .u64 q, .int .u64 v] W fun e' W' => e' = .returned (.int .i64 e) ∧ Regs B w0 p mb (n + 2) D' W' ∧ W.grownBy W' (some mb) := by
  have hI := h.own.isMap
  have hv0 := (m_u64 hv).1
  cases ht : thereOf a q with
  | false =>
    refine ⟨D, 10, ?_, (write_none h a q ha hq v ht).mono fun e W' x => ⟨x.1, (h.same x.2).more (by omega), grown_but x.2 _⟩⟩
    unfold lookasideref07_Write.f
    rw [ref_read_none ht, Option.bind_some, if_neg (by decide)]
    rfl
  | true =>
    rcases there_cases ht with ⟨rfl, rfl | rfl | rfl | rfl⟩ | ⟨rfl, rfl | rfl | rfl | rfl | rfl | rfl | rfl⟩
    · refine ⟨D, 11, ?_, (write_state h 80 0 ha hq v ht 0 rfl rfl).mono fun e W' x => ⟨x.1, (h.same x.2).more (by omega), grown_but x.2 _⟩⟩
      simp [lookasideref07_Write.f, lookasideref07_Read.f, lookasideref07_Write.j0, lookasideref07_Target.f, tupE]
    · refine ⟨_, 0, ?_, (write_put h 80 24 ha hq v ht 16728063 rfl rfl (by omega)).mono fun e W' x => ⟨x.1, x.2.1.more (by omega), x.2.2⟩⟩
      rw [tup_80_24 hI, (want24 hv).1]
      simp [lookasideref07_Write.f, lookasideref07_Read.f, lookasideref07_Write.j0, lookasideref07_status.f, lookasideref07_tsb.f, st_word2 hv, tsb_word2 hv, Int.tmod_eq_emod_of_nonneg hv0]
    · refine ⟨_, 0, ?_, (write_put h 80 40 ha hq v ht 18446744073709547527 rfl rfl (by omega)).mono fun e W' x => ⟨x.1, x.2.1.more (by omega), x.2.2⟩⟩
      rw [tup_80_40 hI, (want40 hv).1]
      simp [lookasideref07_Write.f, lookasideref07_Read.f, lookasideref07_Write.j0, lookasideref07_status.f, lookasideref07_tsb.f, st_word2 hv, tsb_word2 hv, Int.tmod_eq_emod_of_nonneg hv0]
    · refine ⟨_, 0, ?_, (write_put h 80 48 ha hq v ht 18446744073709551615 rfl rfl (by omega)).mono fun e W' x => ⟨x.1, x.2.1.more (by omega), x.2.2⟩⟩
      rw [tup_80_48 hI, (want48 hv).1]
      simp [lookasideref07_Write.f, lookasideref07_Read.f, lookasideref07_Write.j0, lookasideref07_status.f, lookasideref07_tsb.f, st_word2 hv, tsb_word2 hv, Int.tmod_eq_emod_of_nonneg hv0]
    · refine ⟨D, 11, ?_, (write_state h 88 0 ha hq v ht 0 rfl rfl).mono fun e W' x => ⟨x.1, (h.same x.2).more (by omega), grown_but x.2 _⟩⟩
      simp [lookasideref07_Write.f, lookasideref07_Read.f, lookasideref07_Write.j0, lookasideref07_Target.f, tupE]
    · refine ⟨_, 0, ?_, (write_put h 88 8 ha hq v ht 8191 rfl rfl (by omega)).mono fun e W' x => ⟨x.1, x.2.1.more (by omega), x.2.2⟩⟩
      rw [tup_88_8 hI, (want8 hv).1]
      simp [lookasideref07_Write.f, lookasideref07_Read.f, lookasideref07_Write.j0, lookasideref07_status.f, lookasideref07_tsb.f, st_word2 hv, tsb_word2 hv, Int.tmod_eq_emod_of_nonneg hv0]
    · refine ⟨_, 0, ?_, (write_put h 88 16 ha hq v ht 8191 rfl rfl (by omega)).mono fun e W' x => ⟨x.1, x.2.1.more (by omega), x.2.2⟩⟩
      rw [tup_88_16 hI, (want8 hv).1]
      simp [lookasideref07_Write.f, lookasideref07_Read.f, lookasideref07_Write.j0, lookasideref07_status.f, lookasideref07_tsb.f, st_word2 hv, tsb_word2 hv, Int.tmod_eq_emod_of_nonneg hv0]
    · refine ⟨_, 0, ?_, (write_put h 88 24 ha hq v ht 16728063 rfl rfl (by omega)).mono fun e W' x => ⟨x.1, x.2.1.more (by omega), x.2.2⟩⟩
      rw [tup_88_24 hI, (want24 hv).1]
      simp [lookasideref07_Write.f, lookasideref07_Read.f, lookasideref07_Write.j0, lookasideref07_status.f, lookasideref07_tsb.f, st_word2 hv, tsb_word2 hv, Int.tmod_eq_emod_of_nonneg hv0]
    · refine ⟨D, 11, ?_, (write_state h 88 32 ha hq v ht 0 rfl rfl).mono fun e W' x => ⟨x.1, (h.same x.2).more (by omega), grown_but x.2 _⟩⟩
      simp [lookasideref07_Write.f, lookasideref07_Read.f, lookasideref07_Write.j0, lookasideref07_Target.f, tupE]
    · refine ⟨_, 0, ?_, (write_put h 88 40 ha hq v ht 18446744073709547527 rfl rfl (by omega)).mono fun e W' x => ⟨x.1, x.2.1.more (by omega), x.2.2⟩⟩
      rw [tup_88_40 hI, (want40 hv).1]
      simp [lookasideref07_Write.f, lookasideref07_Read.f, lookasideref07_Write.j0, lookasideref07_status.f, lookasideref07_tsb.f, st_word2 hv, tsb_word2 hv, Int.tmod_eq_emod_of_nonneg hv0]
    · refine ⟨_, 0, ?_, (write_put h 88 48 ha hq v ht 18446744073709551615 rfl rfl (by omega)).mono fun e W' x => ⟨x.1, x.2.1.more (by omega), x.2.2⟩⟩
      rw [tup_88_48 hI, (want48 hv).1]
      simp [lookasideref07_Write.f, lookasideref07_Read.f, lookasideref07_Write.j0, lookasideref07_status.f, lookasideref07_tsb.f, st_word2 hv, tsb_word2 hv, Int.tmod_eq_emod_of_nonneg hv0]
theorem unit_bad {u : Int} (h : u < 0 ∨ 1 < u) : regs_isUnit.f u = some false := by
  unfold regs_isUnit.f
  rw [if_neg (by omega)]
  refine congrArg some ?_
  rw [beq_eq_false_iff_ne]; omega
theorem both_clear {B w0 p mb n D W} (h : Regs B w0 p mb n D W) (u : Int) (hn : n < 800000) :
    ∃ D' e, lookasideref07_Clear.f 20 (rdk D 80 24) (rdk D 80 40) (rdk D 80 48) (rdk D 88 8) (rdk D 88 16) (rdk D 88 24) (rdk D 88 32) (rdk D 88 40) (rdk D 88 48) u = some (tupE D' e) ∧ Calls Try.prog 20 #[.pointer (some ⟨p, 0, none⟩), .int .i64 u] W fun e' W' => e' = .returned (.int .i64 e) ∧ Regs B w0 p mb (n + 2) D' W' ∧ W.grownBy W' (some mb) := by
  have hI := h.own.isMap
  by_cases h1 : u < 0
  · refine ⟨D, 1, ?_, (clear_unit h u (unit_bad (.inl h1))).mono fun e W' x => ⟨x.1, (h.same x.2).more (by omega), grown_but x.2 _⟩⟩
    simp [lookasideref07_Clear.f, lookasideref07_Clear.j0, h1, tupE]
  · by_cases h2 : 1 < u
    · refine ⟨D, 1, ?_, (clear_unit h u (unit_bad (.inr h2))).mono fun e W' x => ⟨x.1, (h.same x.2).more (by omega), grown_but x.2 _⟩⟩
      simp [lookasideref07_Clear.f, lookasideref07_Clear.j0, h1, h2, tupE]
    · obtain rfl | rfl : u = 0 ∨ u = 1 := by omega
      · refine ⟨_, 0, ?_, (clear_ok h 0 80 rfl rfl (by decide) (by omega)).mono fun e W' x => ⟨x.1, x.2.1.more (by omega), x.2.2⟩⟩
        rw [tup_80_24 hI]
        simp [lookasideref07_Clear.f, lookasideref07_Clear.j0]
      · refine ⟨_, 0, ?_, (clear_ok h 1 88 rfl rfl (by decide) (by omega)).mono fun e W' x => ⟨x.1, x.2.1.more (by omega), x.2.2⟩⟩
        rw [tup_88_24 hI]
        simp [lookasideref07_Clear.f, lookasideref07_Clear.j0]
theorem miss_word {v c : Int} (h : (Lit.int .u64 v).wf = true) (h0 : 0 ≤ c) (h1 : c ≤ 8191) : IntKind.u64.wrap ((IntKind.u64.wrap ((IntKind.u64.wrap (Int.tdiv v 8192)) * 8192)) + (IntKind.u64.wrap c)) = v / 8192 * 8192 + c := by
  obtain ⟨h2, h3⟩ := m_u64 h
  simp only [IntKind.wrap_u64]
  rw [Int.tdiv_eq_ediv_of_nonneg h2]
  omega
theorem miss_put {v c : Int} (h : (Lit.int .u64 v).wf = true) (h0 : 0 ≤ c) (h1 : c ≤ 8191) : field_Put.f v 0 13 c = some (v / 8192 * 8192 + c) := by
  obtain ⟨h2, h3⟩ := m_u64 h
  obtain ⟨V, rfl⟩ := Int.eq_ofNat_of_zero_le h2
  obtain ⟨C, rfl⟩ := Int.eq_ofNat_of_zero_le h0
  have := fPut V C (by omega) 0 13 (by omega) (by omega)
  rw [show ((0 : Nat) : Int) = 0 from rfl, show ((13 : Nat) : Int) = 13 from rfl] at this
  rw [this]
  refine congrArg some ?_
  unfold putOf
  simp only [Nat.pow_zero, Nat.div_one, Nat.mul_one, Nat.reducePow]
  omega
theorem miss_wf {v c : Int} (h : (Lit.int .u64 v).wf = true) (h0 : 0 ≤ c) (h1 : c ≤ 8191) : (Lit.int .u64 (v / 8192 * 8192 + c)).wf = true := by
  obtain ⟨h2, h3⟩ := m_u64 h
  exact WalkArith.wf_u64 (by omega)
theorem both_miss {B w0 p mb n D W} (h : Regs B w0 p mb n D W) (u v c : Int) (hv : (Lit.int .u64 v).wf = true) (hn : n < 800000) :
    ∃ D' e, lookasideref07_Miss.f 20 (rdk D 80 24) (rdk D 80 40) (rdk D 80 48) (rdk D 88 8) (rdk D 88 16) (rdk D 88 24) (rdk D 88 32) (rdk D 88 40) (rdk D 88 48) u v c = some (tupE D' e) ∧ Calls Try.prog 25 #[.pointer (some ⟨p, 0, none⟩), .int .i64 u, .int .u64 v, .int .i64 c] W fun e' W' => e' = .returned (.int .i64 e) ∧ Regs B w0 p mb (n + 2) D' W' ∧ W.grownBy W' (some mb) := by
  have hI := h.own.isMap
  by_cases h1 : u < 0
  · refine ⟨D, 1, ?_, (miss_unit h u (unit_bad (.inl h1)) v c).mono fun e W' x => ⟨x.1, (h.same x.2).more (by omega), grown_but x.2 _⟩⟩
    simp [lookasideref07_Miss.f, lookasideref07_Miss.j0, h1, tupE]
  · by_cases h2 : 1 < u
    · refine ⟨D, 1, ?_, (miss_unit h u (unit_bad (.inr h2)) v c).mono fun e W' x => ⟨x.1, (h.same x.2).more (by omega), grown_but x.2 _⟩⟩
      simp [lookasideref07_Miss.f, lookasideref07_Miss.j0, h1, h2, tupE]
    · obtain rfl | rfl : u = 0 ∨ u = 1 := by omega
      · by_cases h3 : c < 0
        · refine ⟨D, 1, ?_, (miss_low h 0 rfl v c h3).mono fun e W' x => ⟨x.1, (h.same x.2).more (by omega), grown_but x.2 _⟩⟩
          simp [lookasideref07_Miss.f, lookasideref07_Miss.j0, h3, tupE]
        · by_cases h4 : 8191 < c
          · refine ⟨D, 1, ?_, (miss_high h 0 rfl v c (by omega) h4).mono fun e W' x => ⟨x.1, (h.same x.2).more (by omega), grown_but x.2 _⟩⟩
            simp [lookasideref07_Miss.f, lookasideref07_Miss.j0, h3, h4, tupE]
          · refine ⟨_, 0, ?_, (miss_ok h 0 80 rfl rfl (by decide) v c _ (by omega) (by omega) (miss_put hv (by omega) (by omega)) (miss_wf hv (by omega) (by omega)) (by omega)).mono fun e W' x => ⟨x.1, x.2.1.more (by omega), x.2.2⟩⟩
            rw [tup_80_48 hI]
            simp [lookasideref07_Miss.f, lookasideref07_Miss.j0, h3, h4, miss_word hv (show 0 ≤ c by omega) (show c ≤ 8191 by omega)]
      · by_cases h3 : c < 0
        · refine ⟨D, 1, ?_, (miss_low h 1 rfl v c h3).mono fun e W' x => ⟨x.1, (h.same x.2).more (by omega), grown_but x.2 _⟩⟩
          simp [lookasideref07_Miss.f, lookasideref07_Miss.j0, h3, tupE]
        · by_cases h4 : 8191 < c
          · refine ⟨D, 1, ?_, (miss_high h 1 rfl v c (by omega) h4).mono fun e W' x => ⟨x.1, (h.same x.2).more (by omega), grown_but x.2 _⟩⟩
            simp [lookasideref07_Miss.f, lookasideref07_Miss.j0, h3, h4, tupE]
          · refine ⟨_, 0, ?_, (miss_ok h 1 88 rfl rfl (by decide) v c _ (by omega) (by omega) (miss_put hv (by omega) (by omega)) (miss_wf hv (by omega) (by omega)) (by omega)).mono fun e W' x => ⟨x.1, x.2.1.more (by omega), x.2.2⟩⟩
            rw [tup_88_48 hI]
            simp [lookasideref07_Miss.f, lookasideref07_Miss.j0, h3, h4, miss_word hv (show 0 ≤ c by omega) (show c ≤ 8191 by omega)]
theorem fault_unit {B w0 p mb n D W} (h : Regs B w0 p mb n D W) (u : Int) (hu : regs_isUnit.f u = some false) (kind asi : Int) (store priv : Bool) (va : Int) :
    Calls Try.prog 19 #[.pointer (some ⟨p, 0, none⟩), .int .i64 u, .int .i64 kind, .int .i64 asi, .bool store, .bool priv, .int .u64 va] W fun e W' => e = .returned (.int .i64 1) ∧ W.grownBy W' none := by
  have HM0 := Aside0.mk h
  have HU := Aside0.mk hu
  clear h hu
  go_enter Try.func19, Try.ntmps19
  go_wp2_with (first | (go_at_call 58; refine (regs_isUnit.calls u _ _ HU.out).mono ?_; rintro e wu0 ⟨rfl, hd⟩; have HM := Aside0.mk (HM0.out.same (drawn_grown hd)); have HG := Aside0.mk (drawn_grown hd); clear HM0 hd) | go_in)
  go_ret
  exact ⟨rfl, HG.out⟩
theorem fault_klow {B w0 p mb n D W} (h : Regs B w0 p mb n D W) (u : Int) (hu : regs_isUnit.f u = some true) (kind asi : Int) (store priv : Bool) (va : Int) (h0 : kind < 0) :
    Calls Try.prog 19 #[.pointer (some ⟨p, 0, none⟩), .int .i64 u, .int .i64 kind, .int .i64 asi, .bool store, .bool priv, .int .u64 va] W fun e W' => e = .returned (.int .i64 1) ∧ W.grownBy W' none := by
  have HM0 := Aside0.mk h
  have HU := Aside0.mk hu
  clear h hu
  go_enter Try.func19, Try.ntmps19
  go_wp2_with (first | (go_at_call 58; refine (regs_isUnit.calls u _ _ HU.out).mono ?_; rintro e wu0 ⟨rfl, hd⟩; have HM := Aside0.mk (HM0.out.same (drawn_grown hd)); have HG := Aside0.mk (drawn_grown hd); clear HM0 hd) | go_in)
  go_ret
  exact ⟨rfl, HG.out⟩
theorem fault_khigh {B w0 p mb n D W} (h : Regs B w0 p mb n D W) (u : Int) (hu : regs_isUnit.f u = some true) (kind asi : Int) (store priv : Bool) (va : Int) (h0 : 0 ≤ kind) (h1 : 128 ≤ kind) :
    Calls Try.prog 19 #[.pointer (some ⟨p, 0, none⟩), .int .i64 u, .int .i64 kind, .int .i64 asi, .bool store, .bool priv, .int .u64 va] W fun e W' => e = .returned (.int .i64 1) ∧ W.grownBy W' none := by
  have HM0 := Aside0.mk h
  have HU := Aside0.mk hu
  clear h hu
  go_enter Try.func19, Try.ntmps19
  go_wp2_with (first | (go_at_call 58; refine (regs_isUnit.calls u _ _ HU.out).mono ?_; rintro e wu0 ⟨rfl, hd⟩; have HM := Aside0.mk (HM0.out.same (drawn_grown hd)); have HG := Aside0.mk (drawn_grown hd); clear HM0 hd) | go_in)
  go_ret
  exact ⟨rfl, HG.out⟩
theorem fault_alow {B w0 p mb n D W} (h : Regs B w0 p mb n D W) (u : Int) (hu : regs_isUnit.f u = some true) (kind asi : Int) (store priv : Bool) (va : Int) (h0 : 0 ≤ kind) (h1 : kind < 128) (h2 : asi < 0) :
    Calls Try.prog 19 #[.pointer (some ⟨p, 0, none⟩), .int .i64 u, .int .i64 kind, .int .i64 asi, .bool store, .bool priv, .int .u64 va] W fun e W' => e = .returned (.int .i64 1) ∧ W.grownBy W' none := by
  have HM0 := Aside0.mk h
  have HU := Aside0.mk hu
  clear h hu
  go_enter Try.func19, Try.ntmps19
  go_wp2_with (first | (go_at_call 58; refine (regs_isUnit.calls u _ _ HU.out).mono ?_; rintro e wu0 ⟨rfl, hd⟩; have HM := Aside0.mk (HM0.out.same (drawn_grown hd)); have HG := Aside0.mk (drawn_grown hd); clear HM0 hd) | go_in)
  go_ret
  exact ⟨rfl, HG.out⟩
theorem fault_ahigh {B w0 p mb n D W} (h : Regs B w0 p mb n D W) (u : Int) (hu : regs_isUnit.f u = some true) (kind asi : Int) (store priv : Bool) (va : Int) (h0 : 0 ≤ kind) (h1 : kind < 128) (h2 : 0 ≤ asi) (h3 : 256 ≤ asi) :
    Calls Try.prog 19 #[.pointer (some ⟨p, 0, none⟩), .int .i64 u, .int .i64 kind, .int .i64 asi, .bool store, .bool priv, .int .u64 va] W fun e W' => e = .returned (.int .i64 1) ∧ W.grownBy W' none := by
  have HM0 := Aside0.mk h
  have HU := Aside0.mk hu
  clear h hu
  go_enter Try.func19, Try.ntmps19
  go_wp2_with (first | (go_at_call 58; refine (regs_isUnit.calls u _ _ HU.out).mono ?_; rintro e wu0 ⟨rfl, hd⟩; have HM := Aside0.mk (HM0.out.same (drawn_grown hd)); have HG := Aside0.mk (drawn_grown hd); clear HM0 hd) | go_in)
  go_ret
  exact ⟨rfl, HG.out⟩
theorem fbase {x kind asi : Int} (hx : (Lit.int .u64 x).wf = true) (h0 : 0 ≤ kind) (h1 : kind < 128) (h2 : 0 ≤ asi) (h3 : asi < 256) : IntKind.u64.wrap ((IntKind.u64.wrap ((IntKind.u64.wrap (1 + (IntKind.u64.wrap (2 * (Int.tmod x 2))))) + (IntKind.u64.wrap ((IntKind.u64.wrap (kind)) * 128)))) + (IntKind.u64.wrap ((IntKind.u64.wrap (asi)) * 65536))) = 1 + 2 * (x % 2) + 128 * kind + 65536 * asi := by
  obtain ⟨a, b⟩ := m_u64 hx
  simp only [IntKind.wrap_u64]
  rw [Int.tmod_eq_emod_of_nonneg a]
  omega
theorem odd_i (x : Int) : b2i (x % 2 == 1) = x % 2 := by
  unfold b2i
  by_cases h : x % 2 = 1
  · rw [h]; rfl
  · rw [beq_eq_false_iff_ne.mpr h, if_neg (by decide)]; omega
theorem fw00 {x kind asi : Int} (hx : (Lit.int .u64 x).wf = true) (h0 : 0 ≤ kind) (h1 : kind < 128) (h2 : 0 ≤ asi) (h3 : asi < 256) : (IntKind.u64.wrap ((IntKind.u64.wrap ((IntKind.u64.wrap (1 + (IntKind.u64.wrap (2 * (Int.tmod x 2))))) + (IntKind.u64.wrap ((IntKind.u64.wrap (kind)) * 128)))) + (IntKind.u64.wrap ((IntKind.u64.wrap (asi)) * 65536)))) = stw (x % 2 == 1) false false kind asi := by
  rw [fbase hx h0 h1 h2 h3]
  unfold stw
  rw [odd_i]
  simp only [IntKind.wrap_u64, b2i]
  simp <;> omega
theorem fw10 {x kind asi : Int} (hx : (Lit.int .u64 x).wf = true) (h0 : 0 ≤ kind) (h1 : kind < 128) (h2 : 0 ≤ asi) (h3 : asi < 256) : IntKind.u64.wrap ((IntKind.u64.wrap ((IntKind.u64.wrap ((IntKind.u64.wrap (1 + (IntKind.u64.wrap (2 * (Int.tmod x 2))))) + (IntKind.u64.wrap ((IntKind.u64.wrap (kind)) * 128)))) + (IntKind.u64.wrap ((IntKind.u64.wrap (asi)) * 65536)))) + 4) = stw (x % 2 == 1) true false kind asi := by
  rw [fbase hx h0 h1 h2 h3]
  unfold stw
  rw [odd_i]
  simp only [IntKind.wrap_u64, b2i]
  simp <;> omega
theorem fw01 {x kind asi : Int} (hx : (Lit.int .u64 x).wf = true) (h0 : 0 ≤ kind) (h1 : kind < 128) (h2 : 0 ≤ asi) (h3 : asi < 256) : IntKind.u64.wrap ((IntKind.u64.wrap ((IntKind.u64.wrap ((IntKind.u64.wrap (1 + (IntKind.u64.wrap (2 * (Int.tmod x 2))))) + (IntKind.u64.wrap ((IntKind.u64.wrap (kind)) * 128)))) + (IntKind.u64.wrap ((IntKind.u64.wrap (asi)) * 65536)))) + 8) = stw (x % 2 == 1) false true kind asi := by
  rw [fbase hx h0 h1 h2 h3]
  unfold stw
  rw [odd_i]
  simp only [IntKind.wrap_u64, b2i]
  simp <;> omega
theorem fw11 {x kind asi : Int} (hx : (Lit.int .u64 x).wf = true) (h0 : 0 ≤ kind) (h1 : kind < 128) (h2 : 0 ≤ asi) (h3 : asi < 256) : IntKind.u64.wrap (IntKind.u64.wrap ((IntKind.u64.wrap ((IntKind.u64.wrap ((IntKind.u64.wrap (1 + (IntKind.u64.wrap (2 * (Int.tmod x 2))))) + (IntKind.u64.wrap ((IntKind.u64.wrap (kind)) * 128)))) + (IntKind.u64.wrap ((IntKind.u64.wrap (asi)) * 65536)))) + 4) + 8) = stw (x % 2 == 1) true true kind asi := by
  rw [fbase hx h0 h1 h2 h3]
  unfold stw
  rw [odd_i]
  simp only [IntKind.wrap_u64, b2i]
  simp <;> omega
theorem tup_fd {D : DataW Unit} (h : IsMap D) (v va e : Int) : tupE (pk (pk D 88 24 v) 88 32 va) e = (rdk D 80 24, rdk D 80 40, rdk D 80 48, rdk D 88 8, rdk D 88 16, v, va, rdk D 88 40, rdk D 88 48, e) := by
  have h1 := tup_88_32 (pk_isMap h 88 24 v) va e
  rw [h1]
  have h2 := tup_88_24 h v e
  unfold tupE at h2
  simp only [Prod.mk.injEq] at h2 ⊢
  obtain ⟨a0, a1, a2, a3, a4, a5, a6, a7, a8, _⟩ := h2
  exact ⟨a0, a1, a2, a3, a4, a5, trivial, a7, a8, trivial⟩
theorem both_fault {B w0 p mb n D W} (h : Regs B w0 p mb n D W) (u kind asi : Int) (store priv : Bool) (va : Int) (hv : (Lit.int .u64 va).wf = true) (hn : n < 800000) :
    ∃ D' e, lookasideref07_Fault.f 20 (rdk D 80 24) (rdk D 80 40) (rdk D 80 48) (rdk D 88 8) (rdk D 88 16) (rdk D 88 24) (rdk D 88 32) (rdk D 88 40) (rdk D 88 48) u kind asi store priv va = some (tupE D' e) ∧ Calls Try.prog 19 #[.pointer (some ⟨p, 0, none⟩), .int .i64 u, .int .i64 kind, .int .i64 asi, .bool store, .bool priv, .int .u64 va] W fun e' W' => e' = .returned (.int .i64 e) ∧ Regs B w0 p mb (n + 2) D' W' ∧ W.grownBy W' (some mb) := by
  have hI := h.own.isMap
  by_cases h1 : u < 0
  · refine ⟨D, 1, ?_, (fault_unit h u (unit_bad (.inl h1)) kind asi store priv va).mono fun e W' x => ⟨x.1, (h.same x.2).more (by omega), grown_but x.2 _⟩⟩
    simp [lookasideref07_Fault.f, lookasideref07_Fault.j0, h1, tupE]
  · by_cases h2 : 1 < u
    · refine ⟨D, 1, ?_, (fault_unit h u (unit_bad (.inr h2)) kind asi store priv va).mono fun e W' x => ⟨x.1, (h.same x.2).more (by omega), grown_but x.2 _⟩⟩
      simp [lookasideref07_Fault.f, lookasideref07_Fault.j0, h1, h2, tupE]
    · obtain rfl | rfl : u = 0 ∨ u = 1 := by omega
      · by_cases h3 : kind < 0
        · refine ⟨D, 1, ?_, (fault_klow h 0 rfl kind asi store priv va h3).mono fun e W' x => ⟨x.1, (h.same x.2).more (by omega), grown_but x.2 _⟩⟩
          simp [lookasideref07_Fault.f, lookasideref07_Fault.j0, h3, tupE]
        · by_cases h4 : 127 < kind
          · refine ⟨D, 1, ?_, (fault_khigh h 0 rfl kind asi store priv va (by omega) (by omega)).mono fun e W' x => ⟨x.1, (h.same x.2).more (by omega), grown_but x.2 _⟩⟩
            simp [lookasideref07_Fault.f, lookasideref07_Fault.j0, h3, h4, tupE]
          · by_cases h5 : asi < 0
            · refine ⟨D, 1, ?_, (fault_alow h 0 rfl kind asi store priv va (by omega) (by omega) h5).mono fun e W' x => ⟨x.1, (h.same x.2).more (by omega), grown_but x.2 _⟩⟩
              simp [lookasideref07_Fault.f, lookasideref07_Fault.j0, h3, h4, h5, tupE]
            · by_cases h6 : 255 < asi
              · refine ⟨D, 1, ?_, (fault_ahigh h 0 rfl kind asi store priv va (by omega) (by omega) (by omega) (by omega)).mono fun e W' x => ⟨x.1, (h.same x.2).more (by omega), grown_but x.2 _⟩⟩
                simp [lookasideref07_Fault.f, lookasideref07_Fault.j0, h3, h4, h5, h6, tupE]
              · refine ⟨_, 0, ?_, (fault_i_ok h kind asi store priv va hv (by omega) (by omega) (by omega) (by omega) (by omega)).mono fun e W' x => ⟨x.1, x.2.1, x.2.2⟩⟩
                have hx := h.wfk 80 24 (by decide) (by decide)
                have g := fun (a b : Bool) => @fw00 (rdk D 80 24) kind asi hx (by omega) (by omega) (by omega) (by omega)
                rw [tup_80_24 hI]
                cases store <;> cases priv
                · rw [← fw00 hx (show 0 ≤ kind by omega) (show kind < 128 by omega) (show 0 ≤ asi by omega) (show asi < 256 by omega)]
                  simp only [lookasideref07_Fault.f, lookasideref07_Fault.j0, lookasideref07_Fault.j1, lookasideref07_Fault.j2]
                  simp [h3, h4, h5, h6]
                · rw [← fw01 hx (show 0 ≤ kind by omega) (show kind < 128 by omega) (show 0 ≤ asi by omega) (show asi < 256 by omega)]
                  simp only [lookasideref07_Fault.f, lookasideref07_Fault.j0, lookasideref07_Fault.j1, lookasideref07_Fault.j2]
                  simp [h3, h4, h5, h6]
                · rw [← fw10 hx (show 0 ≤ kind by omega) (show kind < 128 by omega) (show 0 ≤ asi by omega) (show asi < 256 by omega)]
                  simp only [lookasideref07_Fault.f, lookasideref07_Fault.j0, lookasideref07_Fault.j1, lookasideref07_Fault.j2]
                  simp [h3, h4, h5, h6]
                · rw [← fw11 hx (show 0 ≤ kind by omega) (show kind < 128 by omega) (show 0 ≤ asi by omega) (show asi < 256 by omega)]
                  simp only [lookasideref07_Fault.f, lookasideref07_Fault.j0, lookasideref07_Fault.j1, lookasideref07_Fault.j2]
                  simp [h3, h4, h5, h6]
      · by_cases h3 : kind < 0
        · refine ⟨D, 1, ?_, (fault_klow h 1 rfl kind asi store priv va h3).mono fun e W' x => ⟨x.1, (h.same x.2).more (by omega), grown_but x.2 _⟩⟩
          simp [lookasideref07_Fault.f, lookasideref07_Fault.j0, h3, tupE]
        · by_cases h4 : 127 < kind
          · refine ⟨D, 1, ?_, (fault_khigh h 1 rfl kind asi store priv va (by omega) (by omega)).mono fun e W' x => ⟨x.1, (h.same x.2).more (by omega), grown_but x.2 _⟩⟩
            simp [lookasideref07_Fault.f, lookasideref07_Fault.j0, h3, h4, tupE]
          · by_cases h5 : asi < 0
            · refine ⟨D, 1, ?_, (fault_alow h 1 rfl kind asi store priv va (by omega) (by omega) h5).mono fun e W' x => ⟨x.1, (h.same x.2).more (by omega), grown_but x.2 _⟩⟩
              simp [lookasideref07_Fault.f, lookasideref07_Fault.j0, h3, h4, h5, tupE]
            · by_cases h6 : 255 < asi
              · refine ⟨D, 1, ?_, (fault_ahigh h 1 rfl kind asi store priv va (by omega) (by omega) (by omega) (by omega)).mono fun e W' x => ⟨x.1, (h.same x.2).more (by omega), grown_but x.2 _⟩⟩
                simp [lookasideref07_Fault.f, lookasideref07_Fault.j0, h3, h4, h5, h6, tupE]
              · refine ⟨_, 0, ?_, (fault_d_ok h kind asi store priv va hv (by omega) (by omega) (by omega) (by omega) (by omega)).mono fun e W' x => ⟨x.1, x.2.1, x.2.2⟩⟩
                have hx := h.wfk 88 24 (by decide) (by decide)
                have g := fun (a b : Bool) => @fw00 (rdk D 88 24) kind asi hx (by omega) (by omega) (by omega) (by omega)
                rw [tup_fd hI]
                cases store <;> cases priv
                · rw [← fw00 hx (show 0 ≤ kind by omega) (show kind < 128 by omega) (show 0 ≤ asi by omega) (show asi < 256 by omega)]
                  simp only [lookasideref07_Fault.f, lookasideref07_Fault.j0, lookasideref07_Fault.j1, lookasideref07_Fault.j2]
                  simp [h3, h4, h5, h6]
                · rw [← fw01 hx (show 0 ≤ kind by omega) (show kind < 128 by omega) (show 0 ≤ asi by omega) (show asi < 256 by omega)]
                  simp only [lookasideref07_Fault.f, lookasideref07_Fault.j0, lookasideref07_Fault.j1, lookasideref07_Fault.j2]
                  simp [h3, h4, h5, h6]
                · rw [← fw10 hx (show 0 ≤ kind by omega) (show kind < 128 by omega) (show 0 ≤ asi by omega) (show asi < 256 by omega)]
                  simp only [lookasideref07_Fault.f, lookasideref07_Fault.j0, lookasideref07_Fault.j1, lookasideref07_Fault.j2]
                  simp [h3, h4, h5, h6]
                · rw [← fw11 hx (show 0 ≤ kind by omega) (show kind < 128 by omega) (show 0 ≤ asi by omega) (show asi < 256 by omega)]
                  simp only [lookasideref07_Fault.f, lookasideref07_Fault.j0, lookasideref07_Fault.j1, lookasideref07_Fault.j2]
                  simp [h3, h4, h5, h6]
end
end Go.Proofs.Ytdfejnakhpgekaa.QRegsPlays
