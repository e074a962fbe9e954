/- The document's example; entries made such as may be; the document's hits and parts; at whatever numbers. -/
import Derived.Test.YthclbckkfgmbaaaTl10
namespace Go.Proofs.Ythclbckkfgmbaaa.QTlbPlays
open Go.RowKit Go.Proofs.YthclbckkfgmbaaaW.PrintWords Go.Proofs.YthclbckkfgmbaaaW.PrintLast Go.Proofs.YthclbckkfgmbaaaW.PrintMore
set_option linter.unusedSimpArgs false
set_option linter.unusedVariables false
section
set_option maxHeartbeats 1000000
set_option maxRecDepth 100000
def lvE (va : Int) : Ent := ⟨0, 1, va, 0, ⟨false, false, false, false, false, false⟩, true⟩
theorem lvW (va : Int) (h : (Lit.int .u64 va).wf = true) : EntW (lvE va) := ⟨(show (Lit.int .i64 0).wf = true by decide), (show (Lit.int .i64 1).wf = true by decide), h, (show (Lit.int .u64 0).wf = true by decide)⟩
theorem lv1 : insOf [none, none] (lvE 0) 0 = (0, 0, [some (lvE 0), none]) := by kernel_rfl
theorem lv2 : insOf [some (lvE 0), none] (lvE 8192) 0 = (1, 0, [some (lvE 0), some (lvE 8192)]) := by kernel_rfl
theorem lv3 : insOf [some (lvE 0), some (lvE 8192)] (lvE 16384) 1 = (1, 0, [some (lvE 0), some (lvE 16384)]) := by kernel_rfl
theorem okl0 : OkL [none, none] := fun e h => by simp at h
theorem okl1 : OkL [some (lvE 0), none] := fun e h => by
  simp at h
  subst h
  exact ⟨lvW 0 (by decide), by kernel_rfl⟩
theorem okl2 : OkL [some (lvE 0), some (lvE 8192)] := fun e h => by
  simp at h
  rcases h with rfl | rfl
  · exact ⟨lvW 0 (by decide), by kernel_rfl⟩
  · exact ⟨lvW 8192 (by decide), by kernel_rfl⟩
theorem lives_calls (W : World) : Calls Try.prog 17 #[] W fun x W' => x = .returned (.bool true) ∧ W.grownBy W' none := by
  have HB := Aside0.mk (Below.refl W.heap.size W)
  have hu := Try.underlying26
  have hu2 := Try.underlying24
  go_enter Try.func17, Try.ntmps17
  go_wp2_with (go_at_call 18; refine (tl_new HB.out (Nat.le_refl _) 2 2 2 rfl rfl (by decide) (by decide)).mono ?_; rintro x w1 ⟨rfl, hM, hg⟩; have HM := Aside0.mk hM; have HG := Aside0.mk hg; clear hM hg)
  go_wp2_with fail
  refine (tl_insert HM.out okl0 (lvE 0) (lvW 0 (by decide)) 0 (by decide) _ _ _ lv1).mono ?_
  rintro x w2 ⟨rfl, hM, hg⟩
  replace HM := Aside0.mk hM
  replace HG := Aside0.mk (grown_own HG.out hg (fun j e => by cases e; omega))
  clear hM hg
  go_wp2_with fail
  refine (tl_insert HM.out okl1 (lvE 8192) (lvW 8192 (by decide)) 0 (by decide) _ _ _ lv2).mono ?_
  rintro x w3 ⟨rfl, hM, hg⟩
  replace HM := Aside0.mk hM
  replace HG := Aside0.mk (grown_own HG.out hg (fun j e => by cases e; omega))
  clear hM hg
  go_wp2_with fail
  refine (tl_insert HM.out okl2 (lvE 16384) (lvW 16384 (by decide)) 1 (by decide) _ _ _ lv3).mono ?_
  rintro x w4 ⟨rfl, hM, hg⟩
  replace HG := Aside0.mk (grown_own HG.out hg (fun j e => by cases e; omega))
  clear hM hg HM
  go_wp2
  go_ret
  exact ⟨rfl, HG.out⟩
/-- An entry that may be, made of any. -/
def goodE (e : Ent) : Ent := ⟨(goodS e.f0 : Int), (goodC e.f1 e.f4.f4 : Int), (goodV e.f0 e.f2.toNat : Int), (goodP e.f0 e.f3.toNat : Int), e.f4, true⟩
theorem wf_nat64 {n : Nat} (h : n < 9223372036854775808) : (Lit.int .i64 (n : Int)).wf = true := by
  simp [Lit.wf, IntKind.min, IntKind.max, IntKind.signed, IntKind.bits]; omega
theorem wf_natu {n : Nat} (h : n < 18446744073709551616) : (Lit.int .u64 (n : Int)).wf = true := by
  simp [Lit.wf, IntKind.min, IntKind.max, IntKind.signed, IntKind.bits]; omega
theorem goodE_W (e : Ent) : EntW (goodE e) := ⟨wf_nat64 (show goodS e.f0 < _ by have := goodS_lt e.f0; omega), wf_nat64 (show goodC e.f1 e.f4.f4 < _ by have := goodC_lt e.f1 e.f4.f4; omega), wf_natu (goodV_lt e.f0 _), wf_natu (show goodP e.f0 e.f3.toNat < _ by have := goodP_lt e.f0 e.f3.toNat; omega)⟩
theorem goodE_may (e : Ent) : mayB (goodE e) = true := by
  have h1 := goodS_ok e.f0
  have h2 := goodC_lt e.f1 e.f4.f4
  have h3 := goodP_lt e.f0 e.f3.toNat
  have h4 := goodP_mod e.f0 e.f3.toNat
  have h5 := goodV_mod e.f0 e.f2.toNat
  have h6 := goodV_hole e.f0 e.f2.toNat
  have h7 : (e.f4.f4 && (goodC e.f1 e.f4.f4 : Int) != 0) = false := by
    cases hg : e.f4.f4 with
    | false => rfl
    | true => unfold goodC; simp
  unfold mayB mayOf
  show (true && (decide (okSize (goodS e.f0 : Int)) && (decide (0 ≤ (goodC e.f1 e.f4.f4 : Int)) && (decide ((goodC e.f1 e.f4.f4 : Int) ≤ 8191) && (!(e.f4.f4 && (goodC e.f1 e.f4.f4 : Int) != 0) && (!(decide (goodV e.f0 e.f2.toNat / 8796093022208 ≠ 0 ∧ goodV e.f0 e.f2.toNat / 8796093022208 ≠ 2097151)) && (decide (goodV e.f0 e.f2.toNat % bytesOf (goodS e.f0 : Int) = 0) && (decide (goodP e.f0 e.f3.toNat < 2199023255552) && decide (goodP e.f0 e.f3.toNat % bytesOf (goodS e.f0 : Int) = 0))))))))) = true
  rw [decide_eq_true h1, decide_eq_true (show 0 ≤ (goodC e.f1 e.f4.f4 : Int) by omega), decide_eq_true (show (goodC e.f1 e.f4.f4 : Int) ≤ 8191 by omega), h7, decide_eq_false h6, decide_eq_true h5, decide_eq_true h3, decide_eq_true h4]
  rfl
theorem good_calls {e : Ent} (h : EntW e) (W : World) : Calls Try.prog 13 #[.agg (entA e)] W fun x W' => x = .returned (.agg (entA (goodE e))) ∧ W.grownBy W' none := by
  have h1 := u64_nat h.v
  have h2 := u64_nat h.p
  have hf := rGood e.f0 e.f1 e.f2.toNat e.f3.toNat e.f4.f0 e.f4.f1 e.f4.f2 e.f4.f3 e.f4.f4 e.f4.f5 e.f5 h.s h.c h1.2 h2.2 110 (Nat.le_refl _)
  rw [h1.1, h2.1] at hf
  exact (lookasideref03_Good.calls 110 e.f0 e.f1 e.f2 e.f3 e.f4.f0 e.f4.f1 e.f4.f2 e.f4.f3 e.f4.f4 e.f4.f5 e.f5 _ _ _ _ _ _ _ _ _ _ _ W hf).mono fun x W' z => ⟨z.1, below_grown z.2⟩
theorem rhits_calls {e : Ent} (h : EntW e) {va : Int} (hva : (Lit.int .u64 va).wf = true) (ctx : Int) (W : World) : Calls Try.prog 16 #[.agg (entA e), .int .u64 va, .int .i64 ctx] W fun x W' => x = .returned (.bool (hitsB e va ctx)) ∧ W.grownBy W' none :=
  (lookasideref03_Hits.calls e.f0 e.f1 e.f2 e.f3 e.f4.f0 e.f4.f1 e.f4.f2 e.f4.f3 e.f4.f4 e.f4.f5 e.f5 va ctx _ W (rhits_ok h hva ctx)).mono fun x W' z => ⟨z.1, below_grown z.2⟩
theorem rparts_calls {a b : Ent} (ha : EntW a) (hb : EntW b) (W : World) : Calls Try.prog 15 #[.agg (entA a), .agg (entA b)] W fun x W' => x = .returned (.bool (partsB a b)) ∧ W.grownBy W' none :=
  (lookasideref06_Parts.calls 100 a.f0 a.f1 a.f2 a.f3 a.f4.f0 a.f4.f1 a.f4.f2 a.f4.f3 a.f4.f4 a.f4.f5 a.f5 b.f0 b.f1 b.f2 b.f3 b.f4.f0 b.f4.f1 b.f4.f2 b.f4.f3 b.f4.f4 b.f4.f5 b.f5 _ W (rparts_ok ha hb 100 (Nat.le_refl _))).mono fun x W' z => ⟨z.1, below_grown z.2⟩
theorem offset_calls (a : Int) (ha : (Lit.int .u64 a).wf = true) (s : Nat) (hs : okSize (s : Int)) (W : World) : Calls Try.prog 21 #[.int .u64 a, .int .i64 s] W fun x W' => x = .returned (.int .u64 ((a.toNat % bytesOf (s : Int) : Nat))) ∧ W.grownBy W' none := by
  have h1 := u64_nat ha
  have hb := bytes_pos hs
  have hf : lookasideref02_Offset.f a (s : Int) = some ((a.toNat % bytesOf (s : Int) : Nat) : Int) := by
    unfold lookasideref02_Offset.f
    rw [rMay, decide_eq_true hs, Option.bind_some, if_pos rfl, rBytes, Option.bind_some, if_neg (by omega)]
    have : Int.tmod a (bytesOf (s : Int) : Int) = ((a.toNat % bytesOf (s : Int) : Nat) : Int) := by
      conv => lhs; rw [← h1.1]
      rfl
    rw [this]
  exact (lookasideref02_Offset.calls a s _ W hf).mono fun x W' z => ⟨z.1, drawn_grown z.2⟩
end
end Go.Proofs.Ythclbckkfgmbaaa.QTlbPlays
