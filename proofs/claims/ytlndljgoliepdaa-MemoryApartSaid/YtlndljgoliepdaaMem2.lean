/- The memory's answers as numbers, and the document's example of layer 4; no conditions. -/
import Derived.Test.YtlndljgoliepdaaMem1
namespace Go.Proofs.Ytlndljgoliepdaa.Mem
open Go.RowKit Go.Maps Go.Proofs.YtlndljgoliepdaaW.PrintWords Go.Proofs.YtlndljgoliepdaaW.PrintLast Go.Proofs.YtlndljgoliepdaaW.PrintMore
set_option linter.unusedSimpArgs false
set_option linter.unusedVariables false
section
set_option maxHeartbeats 400000
set_option maxRecDepth 100000
theorem byte_eq {B w0 p mb sz n D W} (h : Mem B w0 p mb sz n D W) (a : Int) (ha : (Lit.int .u64 a).wf = true) (hc : mayOf sz a 1 1 = 0) (v : Int) (hv : byteAt D a = v) :
    Calls Try.prog 16 #[.pointer (some ⟨p, 0, none⟩), .int .u64 a] W fun e W' => e = .returned (.tuple #[.int .u8 v, .int .i64 0]) ∧ Mem B w0 p mb sz n D W' ∧ W.grownBy W' none := by
  subst hv
  exact (byte_ok h a ha hc).mono fun e W' x => ⟨x.1, x.2 ▸ h.same (grown_drew _ _), x.2 ▸ grown_drew _ _⟩
theorem word_eq {B w0 p mb sz n D W} (h : Mem B w0 p mb sz n D W) (a : Int) (ha : (Lit.int .u64 a).wf = true) (hc : mayOf sz a 8 8 = 0) (v : Int) (hv : rd D (a / 8) = v) :
    Calls Try.prog 15 #[.pointer (some ⟨p, 0, none⟩), .int .u64 a] W fun e W' => e = .returned (.tuple #[.int .u64 v, .int .i64 0]) ∧ Mem B w0 p mb sz n D W' ∧ W.grownBy W' none := by
  subst hv
  exact (word_ok h a ha hc).mono fun e W' x => ⟨x.1, x.2 ▸ h, x.2 ▸ grown_refl _ _⟩
theorem pair_eq {B w0 p mb sz n D W} (h : Mem B w0 p mb sz n D W) (a : Int) (ha : (Lit.int .u64 a).wf = true) (hc : mayOf sz a 16 16 = 0) (u v : Int) (hu : rd D (a / 8) = u) (hv : rd D (a / 8 + 1) = v) :
    Calls Try.prog 20 #[.pointer (some ⟨p, 0, none⟩), .int .u64 a] W fun e W' => e = .returned (.tuple #[.int .u64 u, .int .u64 v, .int .i64 0]) ∧ Mem B w0 p mb sz n D W' ∧ W.grownBy W' none := by
  subst hu
  subst hv
  exact (pair_ok h a ha hc).mono fun e W' x => ⟨x.1, x.2 ▸ h.same (grown_drew _ _), x.2 ▸ grown_drew _ _⟩
theorem used_eq {B w0 p mb sz n D W} (h : Mem B w0 p mb sz n D W) (v : Int) (hv : (Maps.size D : Int) = v) :
    Calls Try.prog 21 #[.pointer (some ⟨p, 0, none⟩)] W fun e W' => e = .returned (.int .i64 v) ∧ Mem B w0 p mb sz n D W' ∧ W.grownBy W' none := by
  subst hv
  exact (used_calls h).mono fun e W' x => ⟨x.1, x.2 ▸ h, x.2 ▸ grown_refl _ _⟩
theorem lives_size : (Maps.size (st (.map []) (8 / 8) 1) : Int) = 1 := by decide
theorem lives_byte : byteAt (st (.map []) (8 / 8) 1) 15 = 1 := by decide
theorem lives_calls (W : World) : Calls Try.prog 17 #[] W fun e W' => e = .returned (.bool true) ∧ W.grownBy W' none := by
  have HB := Aside0.mk (Below.refl W.heap.size W)
  go_enter Try.func17, Try.ntmps17
  go_wp2_with (first | (go_at_call 13; refine (new_calls HB.out (Nat.le_refl _) 16 (by decide) (by decide)).mono ?_; rintro e wn ⟨p, mb, rfl, hM, hg, hmb, hp⟩; have HP := Aside0.mk (And.intro hmb hp); clear hmb hp; have HM0 := Aside0.mk hM; have HG0 := Aside0.mk hg; clear hM hg ) | (go_at_call 14; refine (putWord_ok HM0.out 8 (by decide) 1 (by decide) (by omega) (by decide)).mono ?_; rintro e w1 ⟨rfl, hM, hg⟩; have HM1 := Aside0.mk hM; have HG1 := Aside0.mk hg; clear hM hg HM0) | (go_at_call 16; refine (byte_eq HM1.out 15 (by decide) (by decide) 1 lives_byte).mono ?_; rintro e w2 ⟨rfl, hM, hg⟩; have HM2 := Aside0.mk hM; have HG2 := Aside0.mk hg; clear hM hg HM1) | (go_at_call 21; refine (used_eq HM2.out 1 lives_size).mono ?_; rintro e w3 ⟨rfl, hM, hg⟩; have HM3 := Aside0.mk hM; have HG3 := Aside0.mk hg; clear hM hg HM2) | go_in)
  go_ret
  exact ⟨rfl, grown_end HM3.out⟩
end
end Go.Proofs.Ytlndljgoliepdaa.Mem
