/- What is asked of a memory, and of the document's; any deed; at whatever numbers. -/
import Derived.Test.YtlndljgoliepdaaMemE
namespace Go.Proofs.Ytlndljgoliepdaa.Mem
open Go.RowKit Go.Maps Go.Proofs.YtlndljgoliepdaaW.PrintWords Go.Proofs.YtlndljgoliepdaaW.PrintLast Go.Proofs.YtlndljgoliepdaaW.PrintMore Go.Proofs.Ytlndljgoliepdaa.QMemoryApart
set_option linter.unusedSimpArgs false
set_option linter.unusedVariables false
section
set_option maxHeartbeats 4000000
set_option maxRecDepth 100000
theorem asks_calls {B w0 p mb n D W} (h : Mem B w0 p mb 1000 n D W) (hG : Good D) {l : List Bt} (hR : RefL 1000 (byteAt D) l) (hl : l.length ≤ 100000000) (A : Option Addr) (c : Nat) {ok : Nat → Prop} (hv : Kd.V k106 106 W 0 ok (.slice A l.length c) l) (kd at_ a b : Int) (hat : (Lit.int .u64 at_).wf = true) :
    Calls Try.prog 53 #[.pointer (some ⟨p, 0, none⟩), .agg #[.int .u64 1000, .slice A l.length c], .agg #[.int .i64 kd, .int .u64 at_, .int .u64 a, .int .u64 b]] W fun x W' => x = .returned (.bool true) ∧ W.grownBy W' none := by
  have hb3 := box3 W #[.int .u64 1000, .slice A l.length c] #[.int .i64 kd, .int .u64 at_, .int .u64 a, .int .u64 b] #[.int .u64 0, .slice none 0 0] 43 52 43
  have g1 := World.grownBy_alloc W (.cells #[.int .u64 1000, .slice A l.length c] 43) none
  have g2 := World.grownBy_alloc (W.alloc (.cells #[.int .u64 1000, .slice A l.length c] 43)) (.cells #[.int .i64 kd, .int .u64 at_, .int .u64 a, .int .u64 b] 52) none
  have HB4 := Aside0.mk (blk_grown (heap_alloc_new W (.cells #[.int .u64 1000, .slice A l.length c] 43)) g2)
  have HB5 := Aside0.mk (show ((W.alloc (.cells #[.int .u64 1000, .slice A l.length c] 43)).alloc (.cells #[.int .i64 kd, .int .u64 at_, .int .u64 a, .int .u64 b] 52)).heap[W.heap.size + 1]? = some (.cells #[.int .i64 kd, .int .u64 at_, .int .u64 a, .int .u64 b] 52 (0, 0)) by have := heap_alloc_new (W.alloc (.cells #[.int .u64 1000, .slice A l.length c] 43)) (.cells #[.int .i64 kd, .int .u64 at_, .int .u64 a, .int .u64 b] 52); rw [World.size_alloc] at this; exact this)
  have HGW := Aside0.mk (grown_two g1 g2)
  have HM := Aside0.mk (h.same HGW.out)
  have HV := Aside0.mk (Kd.V_grown hv HGW.out (by simp))
  have HGD := Aside0.mk hG
  have HR := Aside0.mk hR
  have HL := Aside0.mk hl
  have HAT := Aside0.mk hat
  clear h hG hR hl hv hat hb3 g1 g2
  obtain ⟨q0, q1⟩ := cz2 HB4.out
  obtain ⟨y0, y1, y2, y3⟩ := cz4 HB5.out
  by_cases k3 : kd = 3
  · subst k3
    go_enter Try.func53, Try.ntmps53
    by_cases hf : mayOf 1000 at_ 1 1 = 0
    ·
      have GET_ := Aside0.mk (show lookasideref04_Get.f (l.length + 1) 1000 l at_ = some (byteAt D at_) by rw [get_f 1000 at_ l (by have := HL.out; omega) (Nat.le_refl _), HR.out.get at_ (u64_b HAT.out).1 (by have := may_ok hf (by decide); omega)])
      have HF := Aside0.mk hf
      clear hf
      go_wp2_with fail
      refine (byte_eq HM.out at_ HAT.out HF.out (byteAt D at_) rfl).mono ?_
      rintro x0 wn ⟨rfl, hM, hg⟩
      clear hM
      replace HB4 := Aside0.mk (blk_grown HB4.out hg)
      replace HB5 := Aside0.mk (blk_grown HB5.out hg)
      replace HM := Aside0.mk (HM.out.same hg)
      replace HV := Aside0.mk (Kd.V_grown HV.out hg (by simp))
      replace HGW := Aside0.mk (grown_two HGW.out hg)
      clear hg q0 q1 y0 y1 y2 y3
      obtain ⟨q0, q1⟩ := cz2 HB4.out
      obtain ⟨y0, y1, y2, y3⟩ := cz4 HB5.out
      go_wp2_with fail
      refine (mayL_calls (each := 1) (by decide) at_ 1 _ (Kd.V_reads' HV.out) HAT.out (by decide)).mono ?_
      rintro x0 wn ⟨rfl, hg⟩
      rw [HF.out]
      replace HB4 := Aside0.mk (blk_grown HB4.out hg)
      replace HB5 := Aside0.mk (blk_grown HB5.out hg)
      replace HM := Aside0.mk (HM.out.same hg)
      replace HV := Aside0.mk (Kd.V_grown HV.out hg (by simp))
      replace HGW := Aside0.mk (grown_two HGW.out hg)
      clear hg q0 q1 y0 y1 y2 y3
      obtain ⟨q0, q1⟩ := cz2 HB4.out
      obtain ⟨y0, y1, y2, y3⟩ := cz4 HB5.out
      go_wp2_with fail
      refine (lookasideref04_Get.calls (l.length + 1) 1000 A c l at_ (byteAt D at_) _ (Kd.V_reads' HV.out).2.2 (Kd.V_reads' HV.out).2.1 GET_.out).mono ?_
      rintro x0 wn ⟨rfl, hb⟩
      have hg := below_grown hb
      clear hb
      replace HB4 := Aside0.mk (blk_grown HB4.out hg)
      replace HB5 := Aside0.mk (blk_grown HB5.out hg)
      replace HM := Aside0.mk (HM.out.same hg)
      replace HV := Aside0.mk (Kd.V_grown HV.out hg (by simp))
      replace HGW := Aside0.mk (grown_two HGW.out hg)
      clear hg q0 q1 y0 y1 y2 y3
      obtain ⟨q0, q1⟩ := cz2 HB4.out
      obtain ⟨y0, y1, y2, y3⟩ := cz4 HB5.out
      go_wp2_with fail
      go_ret
      exact ⟨rfl, HGW.out⟩
    ·
      obtain ⟨f, hff⟩ : ∃ f, mayOf 1000 at_ 1 1 = f := ⟨_, rfl⟩
      rw [hff] at hf
      have hfb : (f == 0) = false := beq_eq_false_iff_ne.2 hf
      have hfc : (f != 0) = true := bne_iff_ne.2 hf
      have HFC := Aside0.mk hfc
      have HF := Aside0.mk hff
      clear hf hff
      go_wp2_with fail
      refine (badG (byte_bad HM.out at_ HAT.out HFC.out HF.out)).mono ?_
      rintro x0 wn ⟨rfl, hg⟩
      replace HB4 := Aside0.mk (blk_grown HB4.out hg)
      replace HB5 := Aside0.mk (blk_grown HB5.out hg)
      replace HM := Aside0.mk (HM.out.same hg)
      replace HV := Aside0.mk (Kd.V_grown HV.out hg (by simp))
      replace HGW := Aside0.mk (grown_two HGW.out hg)
      clear hg q0 q1 y0 y1 y2 y3
      obtain ⟨q0, q1⟩ := cz2 HB4.out
      obtain ⟨y0, y1, y2, y3⟩ := cz4 HB5.out
      go_wp2_with fail
      refine (mayL_calls (each := 1) (by decide) at_ 1 _ (Kd.V_reads' HV.out) HAT.out (by decide)).mono ?_
      rintro x0 wn ⟨rfl, hg⟩
      rw [HF.out]
      replace HB4 := Aside0.mk (blk_grown HB4.out hg)
      replace HB5 := Aside0.mk (blk_grown HB5.out hg)
      replace HM := Aside0.mk (HM.out.same hg)
      replace HV := Aside0.mk (Kd.V_grown HV.out hg (by simp))
      replace HGW := Aside0.mk (grown_two HGW.out hg)
      clear hg q0 q1 y0 y1 y2 y3
      obtain ⟨q0, q1⟩ := cz2 HB4.out
      obtain ⟨y0, y1, y2, y3⟩ := cz4 HB5.out
      go_wp2_with fail
      go_ret
      exact ⟨rfl, HGW.out⟩
  · have k3b : (kd == 3) = false := beq_eq_false_iff_ne.2 k3
    by_cases k4 : kd = 4
    · subst k4
      go_enter Try.func53, Try.ntmps53
      by_cases hf : mayOf 1000 at_ 8 8 = 0
      ·
        have WD1 := Aside0.mk (word_f 1000 l (D := D) (a := at_) (w := rd D (at_ / 8)) (by have := HL.out; omega) (by have := may_ok hf (by decide); omega) (by have := (u64_b HAT.out).1; omega) (by have := may_ok hf (by decide); omega) (by decide) HR.out (HGD.out.wf _) (rfl) (k := l.length + 10) (Nat.le_refl _))
        have HF := Aside0.mk hf
        clear hf
        go_wp2_with fail
        refine (word_eq HM.out at_ HAT.out HF.out (rd D (at_ / 8)) rfl).mono ?_
        rintro x0 wn ⟨rfl, hM, hg⟩
        clear hM
        replace HB4 := Aside0.mk (blk_grown HB4.out hg)
        replace HB5 := Aside0.mk (blk_grown HB5.out hg)
        replace HM := Aside0.mk (HM.out.same hg)
        replace HV := Aside0.mk (Kd.V_grown HV.out hg (by simp))
        replace HGW := Aside0.mk (grown_two HGW.out hg)
        clear hg q0 q1 y0 y1 y2 y3
        obtain ⟨q0, q1⟩ := cz2 HB4.out
        obtain ⟨y0, y1, y2, y3⟩ := cz4 HB5.out
        go_wp2_with fail
        refine (mayL_calls (each := 8) (by decide) at_ 8 _ (Kd.V_reads' HV.out) HAT.out (by decide)).mono ?_
        rintro x0 wn ⟨rfl, hg⟩
        rw [HF.out]
        replace HB4 := Aside0.mk (blk_grown HB4.out hg)
        replace HB5 := Aside0.mk (blk_grown HB5.out hg)
        replace HM := Aside0.mk (HM.out.same hg)
        replace HV := Aside0.mk (Kd.V_grown HV.out hg (by simp))
        replace HGW := Aside0.mk (grown_two HGW.out hg)
        clear hg q0 q1 y0 y1 y2 y3
        obtain ⟨q0, q1⟩ := cz2 HB4.out
        obtain ⟨y0, y1, y2, y3⟩ := cz4 HB5.out
        go_wp2_with fail
        refine (lookasideref04_Word.calls (l.length + 10) 1000 A c l at_ (rd D (at_ / 8)) _ (Kd.V_reads' HV.out).2.2 (Kd.V_reads' HV.out).2.1 WD1.out).mono ?_
        rintro x0 wn ⟨rfl, hb⟩
        have hg := below_grown hb
        clear hb
        replace HB4 := Aside0.mk (blk_grown HB4.out hg)
        replace HB5 := Aside0.mk (blk_grown HB5.out hg)
        replace HM := Aside0.mk (HM.out.same hg)
        replace HV := Aside0.mk (Kd.V_grown HV.out hg (by simp))
        replace HGW := Aside0.mk (grown_two HGW.out hg)
        clear hg q0 q1 y0 y1 y2 y3
        obtain ⟨q0, q1⟩ := cz2 HB4.out
        obtain ⟨y0, y1, y2, y3⟩ := cz4 HB5.out
        go_wp2_with fail
        go_ret
        exact ⟨rfl, HGW.out⟩
      ·
        obtain ⟨f, hff⟩ : ∃ f, mayOf 1000 at_ 8 8 = f := ⟨_, rfl⟩
        rw [hff] at hf
        have hfb : (f == 0) = false := beq_eq_false_iff_ne.2 hf
        have hfc : (f != 0) = true := bne_iff_ne.2 hf
        have HFC := Aside0.mk hfc
        have HF := Aside0.mk hff
        clear hf hff
        go_wp2_with fail
        refine (badG (word_bad HM.out at_ HAT.out HFC.out HF.out)).mono ?_
        rintro x0 wn ⟨rfl, hg⟩
        replace HB4 := Aside0.mk (blk_grown HB4.out hg)
        replace HB5 := Aside0.mk (blk_grown HB5.out hg)
        replace HM := Aside0.mk (HM.out.same hg)
        replace HV := Aside0.mk (Kd.V_grown HV.out hg (by simp))
        replace HGW := Aside0.mk (grown_two HGW.out hg)
        clear hg q0 q1 y0 y1 y2 y3
        obtain ⟨q0, q1⟩ := cz2 HB4.out
        obtain ⟨y0, y1, y2, y3⟩ := cz4 HB5.out
        go_wp2_with fail
        refine (mayL_calls (each := 8) (by decide) at_ 8 _ (Kd.V_reads' HV.out) HAT.out (by decide)).mono ?_
        rintro x0 wn ⟨rfl, hg⟩
        rw [HF.out]
        replace HB4 := Aside0.mk (blk_grown HB4.out hg)
        replace HB5 := Aside0.mk (blk_grown HB5.out hg)
        replace HM := Aside0.mk (HM.out.same hg)
        replace HV := Aside0.mk (Kd.V_grown HV.out hg (by simp))
        replace HGW := Aside0.mk (grown_two HGW.out hg)
        clear hg q0 q1 y0 y1 y2 y3
        obtain ⟨q0, q1⟩ := cz2 HB4.out
        obtain ⟨y0, y1, y2, y3⟩ := cz4 HB5.out
        go_wp2_with fail
        go_ret
        exact ⟨rfl, HGW.out⟩
    · have k4b : (kd == 4) = false := beq_eq_false_iff_ne.2 k4
      clear k3 k4
      go_enter Try.func53, Try.ntmps53
      by_cases hf : mayOf 1000 at_ 16 16 = 0
      ·
        have WD1 := Aside0.mk (word_f 1000 l (D := D) (a := at_) (w := rd D (at_ / 8)) (by have := HL.out; omega) (by have := may_ok hf (by decide); omega) (by have := (u64_b HAT.out).1; omega) (by have := may_ok hf (by decide); omega) (by decide) HR.out (HGD.out.wf _) (rfl) (k := l.length + 10) (Nat.le_refl _))
        have WD2 := Aside0.mk (word_f 1000 l (D := D) (a := (at_ + 8)) (w := rd D (at_ / 8 + 1)) (by have := HL.out; omega) (by have := may_ok hf (by decide); omega) (by have := (u64_b HAT.out).1; omega) (by have := may_ok hf (by decide); omega) (by decide) HR.out (HGD.out.wf _) (by rw [show (at_ + 8) / 8 = at_ / 8 + 1 by omega]) (k := l.length + 10) (Nat.le_refl _))
        have hw8 : IntKind.u64.wrap (at_ + 8) = at_ + 8 := by rw [IntKind.wrap_u64]; have := may_ok hf (by decide); have := u64_b HAT.out; omega
        have HF := Aside0.mk hf
        clear hf
        go_wp2_with fail
        refine (pair_eq HM.out at_ HAT.out HF.out (rd D (at_ / 8)) (rd D (at_ / 8 + 1)) rfl rfl).mono ?_
        rintro x0 wn ⟨rfl, hM, hg⟩
        clear hM
        replace HB4 := Aside0.mk (blk_grown HB4.out hg)
        replace HB5 := Aside0.mk (blk_grown HB5.out hg)
        replace HM := Aside0.mk (HM.out.same hg)
        replace HV := Aside0.mk (Kd.V_grown HV.out hg (by simp))
        replace HGW := Aside0.mk (grown_two HGW.out hg)
        clear hg q0 q1 y0 y1 y2 y3
        obtain ⟨q0, q1⟩ := cz2 HB4.out
        obtain ⟨y0, y1, y2, y3⟩ := cz4 HB5.out
        go_wp2_with fail
        refine (mayL_calls (each := 16) (by decide) at_ 16 _ (Kd.V_reads' HV.out) HAT.out (by decide)).mono ?_
        rintro x0 wn ⟨rfl, hg⟩
        rw [HF.out]
        replace HB4 := Aside0.mk (blk_grown HB4.out hg)
        replace HB5 := Aside0.mk (blk_grown HB5.out hg)
        replace HM := Aside0.mk (HM.out.same hg)
        replace HV := Aside0.mk (Kd.V_grown HV.out hg (by simp))
        replace HGW := Aside0.mk (grown_two HGW.out hg)
        clear hg q0 q1 y0 y1 y2 y3
        obtain ⟨q0, q1⟩ := cz2 HB4.out
        obtain ⟨y0, y1, y2, y3⟩ := cz4 HB5.out
        go_wp2_with fail
        refine (lookasideref04_Word.calls (l.length + 10) 1000 A c l at_ (rd D (at_ / 8)) _ (Kd.V_reads' HV.out).2.2 (Kd.V_reads' HV.out).2.1 WD1.out).mono ?_
        rintro x0 wn ⟨rfl, hb⟩
        have hg := below_grown hb
        clear hb
        replace HB4 := Aside0.mk (blk_grown HB4.out hg)
        replace HB5 := Aside0.mk (blk_grown HB5.out hg)
        replace HM := Aside0.mk (HM.out.same hg)
        replace HV := Aside0.mk (Kd.V_grown HV.out hg (by simp))
        replace HGW := Aside0.mk (grown_two HGW.out hg)
        clear hg q0 q1 y0 y1 y2 y3
        obtain ⟨q0, q1⟩ := cz2 HB4.out
        obtain ⟨y0, y1, y2, y3⟩ := cz4 HB5.out
        go_wp2_with fail
        refine (lookasideref04_Word.calls (l.length + 10) 1000 A c l (at_ + 8) (rd D (at_ / 8 + 1)) _ (Kd.V_reads' HV.out).2.2 (Kd.V_reads' HV.out).2.1 WD2.out).mono ?_
        rintro x0 wn ⟨rfl, hb⟩
        have hg := below_grown hb
        clear hb
        replace HB4 := Aside0.mk (blk_grown HB4.out hg)
        replace HB5 := Aside0.mk (blk_grown HB5.out hg)
        replace HM := Aside0.mk (HM.out.same hg)
        replace HV := Aside0.mk (Kd.V_grown HV.out hg (by simp))
        replace HGW := Aside0.mk (grown_two HGW.out hg)
        clear hg q0 q1 y0 y1 y2 y3
        obtain ⟨q0, q1⟩ := cz2 HB4.out
        obtain ⟨y0, y1, y2, y3⟩ := cz4 HB5.out
        go_wp2_with fail
        go_ret
        exact ⟨rfl, HGW.out⟩
      ·
        obtain ⟨f, hff⟩ : ∃ f, mayOf 1000 at_ 16 16 = f := ⟨_, rfl⟩
        rw [hff] at hf
        have hfb : (f == 0) = false := beq_eq_false_iff_ne.2 hf
        have hfc : (f != 0) = true := bne_iff_ne.2 hf
        have HFC := Aside0.mk hfc
        have HF := Aside0.mk hff
        clear hf hff
        go_wp2_with fail
        refine (badG (pair_bad HM.out at_ HAT.out HFC.out HF.out)).mono ?_
        rintro x0 wn ⟨rfl, hg⟩
        replace HB4 := Aside0.mk (blk_grown HB4.out hg)
        replace HB5 := Aside0.mk (blk_grown HB5.out hg)
        replace HM := Aside0.mk (HM.out.same hg)
        replace HV := Aside0.mk (Kd.V_grown HV.out hg (by simp))
        replace HGW := Aside0.mk (grown_two HGW.out hg)
        clear hg q0 q1 y0 y1 y2 y3
        obtain ⟨q0, q1⟩ := cz2 HB4.out
        obtain ⟨y0, y1, y2, y3⟩ := cz4 HB5.out
        go_wp2_with fail
        refine (mayL_calls (each := 16) (by decide) at_ 16 _ (Kd.V_reads' HV.out) HAT.out (by decide)).mono ?_
        rintro x0 wn ⟨rfl, hg⟩
        rw [HF.out]
        replace HB4 := Aside0.mk (blk_grown HB4.out hg)
        replace HB5 := Aside0.mk (blk_grown HB5.out hg)
        replace HM := Aside0.mk (HM.out.same hg)
        replace HV := Aside0.mk (Kd.V_grown HV.out hg (by simp))
        replace HGW := Aside0.mk (grown_two HGW.out hg)
        clear hg q0 q1 y0 y1 y2 y3
        obtain ⟨q0, q1⟩ := cz2 HB4.out
        obtain ⟨y0, y1, y2, y3⟩ := cz4 HB5.out
        go_wp2_with fail
        go_ret
        exact ⟨rfl, HGW.out⟩
theorem did_n {B w0 p mb n D W} (h : Mem B w0 p mb 1000 n D W) (hG : Good D) (hI : ∀ t, 1000 ≤ t → byteAt D t = 0) {l : List Bt} (hR : RefL 1000 (byteAt D) l) (hl : l.length ≤ 100000000) (A : Option Addr) (c : Nat) (hv : Kd.V k106 106 W 0 (fun k => k ≠ mb) (.slice A l.length c) l) (at_ a b : Int) (hat : (Lit.int .u64 at_).wf = true) (ha : (Lit.int .u64 a).wf = true) (hb : (Lit.int .u64 b).wf = true) (kd : Int) (k0 : ¬ kd = 0) (k1 : ¬ kd = 1) (k2 : ¬ kd = 2) (k6 : ¬ kd = 6) (k7 : ¬ kd = 7) :
    Calls Try.prog 26 #[.pointer (some ⟨p, 0, none⟩), .agg #[.int .u64 1000, .slice A l.length c], .agg #[.int .i64 kd, .int .u64 at_, .int .u64 a, .int .u64 b]] W (DidM B w0 p mb l.length W) := by
  have k0b : (kd == 0) = false := beq_eq_false_iff_ne.2 k0
  have k1b : (kd == 1) = false := beq_eq_false_iff_ne.2 k1
  have k2b : (kd == 2) = false := beq_eq_false_iff_ne.2 k2
  have k6b : (kd == 6) = false := beq_eq_false_iff_ne.2 k6
  have k7b : (kd == 7) = false := beq_eq_false_iff_ne.2 k7
  clear k0 k1 k2 k6 k7
  have hu := Try.underlying43
  have hu2 := Try.underlying52
  have hb3 := box3 W #[.int .u64 1000, .slice A l.length c] #[.int .i64 kd, .int .u64 at_, .int .u64 a, .int .u64 b] #[.int .u64 0, .slice none 0 0] 43 52 43
  obtain ⟨N0, hN0⟩ : ∃ N0, N0 = W.heap.size := ⟨_, rfl⟩
  have HB4 := Aside0.mk hb3.1
  have HB5 := Aside0.mk hb3.2.1
  have HB6 := Aside0.mk hb3.2.2.1
  have hs125 := size_few h hG 125 (fun t ht => hI t (by omega))
  have HM := Aside0.mk (h.tight.same hb3.2.2.2)
  have hv1 := Kd.V_mono (ok' := fun k => k ≠ mb ∧ k ≠ W.heap.size ∧ k ≠ W.heap.size + 1 + 1) (Kd.V_bound hv) (fun k hk => ⟨hk.1, by omega, by omega⟩)
  have HV := Aside0.mk (Kd.V_grown hv1 hb3.2.2.2 (by simp))
  have HGW := Aside0.mk (grown_but hb3.2.2.2 (some mb))
  have HK := Aside0.mk (show mb < W.heap.size ∧ p < W.heap.size ∧ B ≤ W.heap.size ∧ N0 ≤ W.heap.size ∧ W.heap.size < W.heap.size + 1 ∧ W.heap.size + 1 < W.heap.size + 1 + 1 from ⟨h.own.lt, h.lt, h.hB, by omega, by omega, by omega⟩)
  have HN0 := Aside0.mk hN0
  have HGD := Aside0.mk hG
  have HI := Aside0.mk hI
  have HR := Aside0.mk hR
  have HAT := Aside0.mk hat
  have HA := Aside0.mk ha
  have HBB := Aside0.mk hb
  have HL := Aside0.mk hl
  have HS := Aside0.mk hs125
  clear h hG hI hR hl hv hv1 hat ha hb hb3 hs125 hN0
  obtain ⟨q0, q1⟩ := cz2 HB4.out
  obtain ⟨y0, y1, y2, y3⟩ := cz4 HB5.out
  go_enter Try.func26, Try.ntmps26
  go_wp2_with fail
  generalize W.heap.size + 1 + 1 = h6 at HB6 HV HK ⊢
  generalize W.heap.size + 1 = h5 at HB5 HK ⊢
  generalize W.heap.size = h4 at HB4 HV HK ⊢
  clear q0 q1 y0 y1 y2 y3
  have hg := grown_drew (((W.alloc (.cells #[.int .u64 1000, .slice A l.length c] 43)).alloc (.cells #[.int .i64 kd, .int .u64 at_, .int .u64 a, .int .u64 b] 52)).alloc (.cells #[.int .u64 0, .slice none 0 0] 43)) none
  replace HB4 := Aside0.mk (blk_grown HB4.out hg)
  replace HB5 := Aside0.mk (blk_grown HB5.out hg)
  replace HB6 := Aside0.mk (blk_grown HB6.out hg)
  replace HM := Aside0.mk (HM.out.same hg)
  replace HV := Aside0.mk (Kd.V_grown HV.out hg (by simp))
  replace HGW := Aside0.mk (grown_two HGW.out (grown_but hg (some mb)))
  clear hg
  refine start_ (n := 7) (S := fun w' => w'.heap[h4]? = some (.cells #[.int .u64 1000, .slice A l.length c] 43 (0, 0)) ∧ w'.heap[h5]? = some (.cells #[.int .i64 kd, .int .u64 at_, .int .u64 a, .int .u64 b] 52 (0, 0)) ∧ w'.heap[h6]? = some (.cells #[.int .u64 0, .slice none 0 0] 43 (0, 0))) (ds := [5]) #[false, false, false, false, false, false, false] (by kernel_rfl) rfl rfl ⟨HB4.out, HB5.out, HB6.out⟩ (fun hHeld => ?_)
  refine with_tab didm29_tab (fun HT_ => ?_)
  refine pure_ (i := 1) (N := some 157) (v := ?_) (a' := ?_) #[false, true, false, false, false, false, false] rfl rfl (any_of HT_.out (by kernel_rfl)) (fun _ _ _ h => h) (Or.inl ⟨by rfl, ?_⟩) ?_ ?_
  rotate_left
  · intro w'
    go_simp
    with_reducible rfl
  rotate_left
  · simp only [Act.put, List.setIfInBounds_toArray, List.set_cons_zero, List.set_cons_succ, i64_w, i32_w]
    rfl
  refine take_ (i := 0) (N := some 156) (v := .agg #[.int .u64 1000, .slice A l.length c]) (a' := ?_) #[true, true, false, false, false, false, false] rfl rfl (take_of HT_.out (by kernel_rfl)) (fun _ _ _ h => h) (Or.inl ⟨by rfl, ?_⟩) hHeld ?_ ?_
  · rintro w' ⟨s1, s2, s3⟩
    obtain ⟨q0, q1⟩ := cz2 s1
    go_simp
  rotate_left
  · simp only [Act.put, List.setIfInBounds_toArray, List.set_cons_zero, List.set_cons_succ, i64_w, i32_w]
    rfl
  refine take_ (i := 2) (N := some 158) (v := .agg #[.int .u64 1000, .slice A l.length c]) (a' := ?_) #[true, true, true, false, false, false, false] rfl rfl (take_of HT_.out (by kernel_rfl)) (fun _ _ _ h => h) (Or.inl ⟨by rfl, ?_⟩) hHeld ?_ ?_
  · rintro w' ⟨s1, s2, s3⟩
    obtain ⟨q0, q1⟩ := cz2 s1
    go_simp
  rotate_left
  · simp only [Act.put, List.setIfInBounds_toArray, List.set_cons_zero, List.set_cons_succ, i64_w, i32_w]
    rfl
  refine take_ (i := 3) (N := some 159) (v := .agg #[.int .i64 kd, .int .u64 at_, .int .u64 a, .int .u64 b]) (a' := ?_) #[true, true, true, true, false, false, false] rfl rfl (take_of HT_.out (by kernel_rfl)) (fun _ _ _ h => h) (Or.inl ⟨by rfl, ?_⟩) hHeld ?_ ?_
  · rintro w' ⟨s1, s2, s3⟩
    obtain ⟨y0, y1, y2, y3⟩ := cz4 s2
    go_simp
  rotate_left
  · simp only [Act.put, List.setIfInBounds_toArray, List.set_cons_zero, List.set_cons_succ, i64_w, i32_w]
    rfl
  refine one_ (i := 4) (N := some 160) #[true, true, true, true, true, false, false] rfl rfl (one_of HT_.out (by kernel_rfl)) (by decide) (fun K hK => ?_)
  refine goes_ Try.func53 (by kernel_rfl) rfl #[.pointer (some ⟨p, 0, none⟩), .agg #[.int .u64 1000, .slice A l.length c], .agg #[.int .i64 kd, .int .u64 at_, .int .u64 a, .int .u64 b]] (by rfl) rfl rfl (by (try simp only [List.map_toArray, List.map_cons, List.map_nil]); first | done | rfl) ?_
  refine (asks_calls HM.out HGD.out HR.out HL.out A c HV.out kd at_ a b HAT.out).mono ?_
  rintro x0 wn ⟨rfl, hg⟩
  have hs : wn.heap[h4]? = some (.cells #[.int .u64 1000, .slice A l.length c] 43 (0, 0)) ∧ wn.heap[h5]? = some (.cells #[.int .i64 kd, .int .u64 at_, .int .u64 a, .int .u64 b] 52 (0, 0)) ∧ wn.heap[h6]? = some (.cells #[.int .u64 0, .slice none 0 0] 43 (0, 0)) := ⟨blk_grown hHeld.1 hg, blk_grown hHeld.2.1 hg, blk_grown hHeld.2.2 hg⟩
  replace HV := Aside0.mk (Kd.V_grown HV.out hg (by simp))
  replace HGW := Aside0.mk (grown_two HGW.out (grown_but hg (some mb)))
  replace HM := Aside0.mk (HM.out.same hg)
  clear hg
  refine ⟨_, rfl, ?_⟩
  refine hK.out _ _ hs (fun hHeld => ?_)
  clear hK K
  refine norm_ (a' := ?_) ?_ ?_
  rotate_left
  · show Act.put _ (some 160) _ = _
    simp only [Act.put, List.setIfInBounds_toArray, List.set_cons_zero, List.set_cons_succ, i64_w, i32_w]
    rfl
  refine last_ (i := 5) (N := none) #[true, true, true, true, true, true, false] rfl rfl (one_of HT_.out (by kernel_rfl)) (by decide) (fun K hK => ?_)
  rw [if_pos (by rfl)]
  refine wp_store_row 43 (.tmp 6) (.tmp 156) rfl h6 #[.int .u64 1000, .slice A l.length c] rfl rfl 43 #[.int .u64 0, .slice none 0 0] hHeld.2.2 (by kernel_rfl) rfl (by kernel_rfl) ?_
  have hb2 := setRow_heap wn h6 _ #[.int .u64 1000, .slice A l.length c] _ _ hHeld.2.2
  have hgr := grown_row wn h6 #[.int .u64 1000, .slice A l.length c]
  generalize World.setRow wn h6 #[.int .u64 1000, .slice A l.length c] = we at hb2 hgr ⊢
  have HBE := Aside0.mk hb2
  have HGE := Aside0.mk hgr
  clear hb2 hgr
  refine hK.out _ _ ?_
  clear hK K
  refine pure_ (i := 6) (N := some 7) (v := ?_) (a' := ?_) #[true, true, true, true, true, true, true] rfl rfl (any_of HT_.out (by kernel_rfl)) (fun _ _ _ h => h) (Or.inl ⟨by rfl, ?_⟩) ?_ ?_
  rotate_left
  · intro w'
    go_simp
    with_reducible rfl
  rotate_left
  · simp only [Act.put, List.setIfInBounds_toArray, List.set_cons_zero, List.set_cons_succ, i64_w, i32_w]
    rfl
  refine done_ (done_of HT_.out (by kernel_rfl)) ?_
  have HMe := Aside0.mk (HM.out.kept HGE.out (fun e => by have := Option.some.inj e; have := HK.out; omega) (fun e => by have := Option.some.inj e; have := HK.out; omega) (fun k e => by cases e; have := HK.out; omega))
  have HVe := Aside0.mk (Kd.V_mono (ok' := fun k => k ≠ mb) (Kd.V_grown HV.out HGE.out (fun k hk e => hk.2.2 (Option.some.inj e))) (fun k hk => hk.1))
  have HGe := Aside0.mk (grown_loc HGW.out HGE.out (by rw [← HN0.out]; have := HK.out; omega))
  obtain ⟨q0, q1⟩ := cz2 HBE.out
  go_wp2
  exact bodyPost_ret (v := .tuple #[.agg #[.int .u64 1000, .slice A l.length c], .bool true]) (by simp [results, Try.f26, go_sem, q0, q1]) rfl ⟨_, _, _, rfl, HMe.out.tight, HGD.out, HI.out, HR.out, by omega, HVe.out, HGe.out⟩
end
end Go.Proofs.Ytlndljgoliepdaa.Mem
