/- A TSB by its words: what is read, and found, whatever they are. -/
import Derived.Test.YtjnffegjpkbjmaaTsEn
import Derived.Test.YtjnffegjpkbjmaaTsR
namespace Go.Proofs.Ytjnffegjpkbjmaa.Mem
open Go.RowKit Go.Maps Go.Proofs.YtjnffegjpkbjmaaW.PrintWords Go.Proofs.YtjnffegjpkbjmaaW.PrintLast Go.Proofs.YtjnffegjpkbjmaaW.PrintMore Go.Proofs.Ytjnffegjpkbjmaa.QTsbPlays Go.Proofs.Ytjnffegjpkbjmaa.Pure
set_option linter.unusedSimpArgs false
set_option linter.unusedVariables false
section
set_option maxHeartbeats 1000000
set_option maxRecDepth 100000
section
variable {B : Nat} {w0 W : World} {p mb : Nat} {sz : Int} {n : Nat} {D : DataW Unit} {pt base N s : Nat} {grade : Int} {ws : Nat → Wd}
theorem q_read (b : TB base N s sz) (h : Mem B w0 p mb sz n D W) (hD : Holds D base N s ws) (kt : W.heap[pt]? = some (.cells (TCs p base N s grade) 95 (0, 0))) (i : Nat) (hi : i < N) (va : Nat) (hva : va < 18446744073709551616) :
    Calls Try.prog 58 #[.pointer (some ⟨pt, 0, none⟩), .int .u64 ((base + 16 * i : Nat) : Int), .int .u64 va] W fun e W' => e = .returned (foundV (readW (ws i) va)) ∧ W.grownBy W' none := by
  obtain ⟨a1, a2, a3, a4, a5, a6⟩ := b.at8 hi
  have e1 := hD.tag _ hi
  have e2 := hD.data _ hi
  have e3 := hD.lt _ hi
  have e4 := hD.size _ hi
  rcases readW_spec (ws i) va hva with ⟨hn, q, hq, hr⟩ | ⟨g, hg, hr, hok, hw, hA, h0, hs⟩
  · rw [hn]
    refine tread_no h kt 0 0 0 0 false false false false false false false 500 _ va q a1 a5 ?_ hq
    rw [e1, e2, pRead _ _ _ e3.1 e3.2 hva 500 (by decide), hr]
  · obtain rfl : g.s = s := by rcases e4 with e | e; exact absurd e h0; exact hs.symm.trans e
    rw [hg]
    refine tread_yes h kt _ _ _ _ _ _ _ _ _ _ 500 _ va a1 a5 ?_
    rw [e1, e2, pRead _ _ _ e3.1 e3.2 hva 500 (by decide), hr]
/-- What Find, read and own answer, as an entry. -/
def rowE : Option GE → Ent
  | some g => ⟨g.s, g.c, g.v, g.p, ⟨g.w, g.pr, g.x, g.l, g.g, g.q⟩, true⟩
  | none => ⟨0, 0, 0, 0, ⟨false, false, false, false, false, false⟩, false⟩
theorem foundV_row (o : Option GE) : foundV o = .tuple #[.agg (entA (rowE o)), .bool o.isSome] := by cases o <;> rfl
end
/-- The address that a place's tag tells. -/
theorem or_high (x : Nat) (hx : x < 17592186044416) : bits .or .u64 (x : Int) 18446726481523507200 = ((x + 18446726481523507200 : Nat) : Int) := by
  have h := u64_or_nat x 18446726481523507200 (by omega) (by decide)
  rw [show ((18446726481523507200 : Nat) : Int) = 18446726481523507200 from rfl] at h
  rw [h]
  refine congrArg Nat.cast ?_
  have h2 := Nat.two_pow_add_eq_or_of_lt (i := 44) (b := x) (by omega) 1048575
  rw [show 2 ^ 44 * 1048575 = 18446726481523507200 from rfl] at h2
  rw [Nat.or_comm, ← h2, Nat.add_comm]
end
end Go.Proofs.Ytjnffegjpkbjmaa.Mem
