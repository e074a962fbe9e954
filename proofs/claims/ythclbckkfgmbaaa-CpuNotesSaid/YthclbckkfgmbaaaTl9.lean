/- Insert; at whatever numbers. -/
import Derived.Test.YthclbckkfgmbaaaTl8
namespace Go.Proofs.Ythclbckkfgmbaaa.QTlbPlays
open Go.RowKit Go.Proofs.YthclbckkfgmbaaaW.PrintWords Go.Proofs.YthclbckkfgmbaaaW.PrintLast Go.Proofs.YthclbckkfgmbaaaW.PrintMore
set_option linter.unusedSimpArgs false
set_option linter.unusedVariables false
section
set_option maxHeartbeats 1000000
set_option maxRecDepth 100000
structure InsW (W : World) (p r : Nat) (e : Ent) (wr : World) : Prop where
  grown : W.grownBy wr (some r)
  c1 : wr.cell? ⟨W.heap.size, 0, none⟩ = some (.pointer (some ⟨p, 0, none⟩))
  b2 : wr.heap[W.heap.size + 1]? = some (.cells (entA e) 26 (0, 0))
theorem InsW.next {W p r e wr w2} (h : InsW W p r e wr) (hr : r < W.heap.size) (hg : wr.grownBy w2 (some r)) : InsW W p r e w2 := by
  refine ⟨grown_two h.grown hg, ?_, ?_⟩
  · have hlt := cell_lt h.c1
    exact (World.cell?_of_block (w := wr) (hg.block W.heap.size hlt (fun e => by have := Option.some.inj e; omega))).trans h.c1
  · exact (hg.block _ (blk_lt h.b2) (fun e => by have := Option.some.inj e; omega)).trans h.b2
theorem ins_begin (W : World) (p r : Nat) (e : Ent) : InsW W p r e ((W.alloc (.cells #[.pointer (some ⟨p, 0, none⟩)] 34)).alloc (.cells (entA e) 26)) ∧ W.grownBy ((W.alloc (.cells #[.pointer (some ⟨p, 0, none⟩)] 34)).alloc (.cells (entA e) 26)) none := by
  have hg := grown_two (World.grownBy_alloc W (.cells #[.pointer (some ⟨p, 0, none⟩)] 34) none) (World.grownBy_alloc _ (.cells (entA e) 26) none)
  refine ⟨⟨grown_but hg _, cell_grown (box_new W (.pointer (some ⟨p, 0, none⟩)) 34) (World.grownBy_alloc _ _ none), ?_⟩, hg⟩
  have := heap_alloc_new (W.alloc (.cells #[.pointer (some ⟨p, 0, none⟩)] 34)) (.cells (entA e) 26)
  rw [World.size_alloc] at this
  exact this
theorem tl_insert {B w0 p r es W} (h : Tl B w0 p r es W) (hw : OkL es) (e : Ent) (he : EntW e) (pick : Int) (hpick : (Lit.int .i64 pick).wf = true) (i err : Int) (es' : List (Option Ent)) (hv : insOf es e pick = (i, err, es')) :
    Calls Try.prog 19 #[.pointer (some ⟨p, 0, none⟩), .agg (entA e), .int .i64 pick] W fun x W' => x = .returned (.tuple #[.int .i64 i, .int .i64 err]) ∧ Tl B w0 p r es' W' ∧ W.grownBy W' (some r) := by
  have hu := Try.underlying26
  have hu2 := Try.underlying24
  have HM := Aside0.mk h
  have HE := Aside0.mk he
  have HRL := Aside0.mk h.rlt
  have HI := Aside0.mk (ins_begin W p r e)
  have hlen := h.len
  have HAG := Aside0.mk (fun (W' : World) (hg : W.grownBy W' none) => tl_against (h.same hg) hw e he)
  have HAN := Aside0.mk (fun (W' : World) (base : Nat) (A : Option Addr) (c : Nat) (hg : W.grownBy W' none) (c1 : W'.cell? ⟨W.heap.size, 0, none⟩ = some (.pointer (some ⟨p, 0, none⟩))) (hr : IRow base A c (plL es (againstQ e)) W') => ins_any (h.same hg) W.heap.size c1 (againstQ e) hr)
  have HPC := Aside0.mk (fun (W' : World) (es2 : List (Option Ent)) (hM : Tl B w0 p r es2 W') => tl_place hM pick hpick _ rfl)
  have hpl := plL_len es (againstQ e)
  have HSC := Aside0.mk (setAll_clear es (againstQ e))
  have HSP := Aside0.mk (fun i (hi : i ∈ plL es (againstQ e)) => (plL_spec hi).1)
  have HV := Aside0.mk hv
  rw [show insOf es e pick = ((if mayB e = false then (0, 1, es) else if (plL es (againstQ e)).any (lockAt es) = true then (0, 7, es) else match placeN (goneOf es e) pick with
    | none => (0, 7, goneOf es e)
    | some i => ((i : Int), 0, (goneOf es e).set i (some e))) : Int × Int × List (Option Ent)) from rfl] at HV
  rw [show clearQ es (againstQ e) = goneOf es e from rfl] at HSC
  clear h hw he hpick hv
  generalize plL es (againstQ e) = L at HAG HAN hpl HSC HSP HV
  have hl64 : L.length ≤ 64 := by omega
  cases hmay : mayB e with
  | false =>
    have hv2 := HV.out
    rw [if_pos hmay] at hv2
    injection hv2 with e1 e2; injection e2 with e2 e3; subst e1 e2 e3
    have HMY := Aside0.mk hmay
    clear hmay
    go_enter Try.func19, Try.ntmps19
    go_wp2_with fail
    refine (may_calls HE.out _).mono ?_
    rintro x W3 ⟨rfl, hg⟩
    rw [HMY.out]
    have HG3 := Aside0.mk (grown_two HI.out.2 hg)
    clear hg
    go_wp2
    exact bodyPost_ret (v := .tuple #[.int .i64 0, .int .i64 1]) (by simp [results, Try.f19]) rfl ⟨rfl, HM.out.same HG3.out, grown_but HG3.out _⟩
  | true =>
    have hv2 := HV.out
    rw [if_neg (by rw [hmay]; simp)] at hv2
    have HMY := Aside0.mk hmay
    have HV2 := Aside0.mk hv2
    clear hv2 hmay HV
    cases hany : L.any (lockAt es) with
    | true =>
      have hv3 := HV2.out
      rw [if_pos hany] at hv3
      injection hv3 with e1 e2; injection e2 with e2 e3; subst e1 e2 e3
      have HA := Aside0.mk hany
      clear hany
      go_enter Try.func19, Try.ntmps19
      go_wp2_with fail
      refine (may_calls HE.out _).mono ?_
      rintro x W3 ⟨rfl, hg⟩
      rw [HMY.out]
      have HG3 := Aside0.mk (grown_two HI.out.2 hg)
      have HI3 := Aside0.mk (HI.out.1.next HRL.out (grown_but hg _))
      clear hg
      have c1 := HI3.out.c1
      obtain ⟨q0, q1, q2, q3, q4, q5, q6, q7, q8, q9, q10⟩ := cz11 HI3.out.b2
      go_wp2_with fail
      refine (HAG.out _ HG3.out).mono ?_
      rintro x W4 ⟨A, c, rfl, hr, hg⟩
      have HR4 := Aside0.mk hr
      have HG4 := Aside0.mk (grown_two HG3.out hg)
      have HI4 := Aside0.mk (HI3.out.next HRL.out (grown_but hg _))
      clear hr hg c1 q0 q1 q2 q3 q4 q5 q6 q7 q8 q9 q10
      go_wp2_with fail
      refine (HAN.out _ _ A c HG4.out HI4.out.c1 HR4.out).mono ?_
      rintro x W5 ⟨rfl, hg5⟩
      rw [HA.out]
      have HG5 := Aside0.mk (grown_two HG4.out hg5)
      go_wp2
      exact bodyPost_ret (v := .tuple #[.int .i64 0, .int .i64 7]) (by simp [results, Try.f19]) rfl ⟨rfl, HM.out.same HG5.out, grown_but HG5.out _⟩
    | false =>
      have hv3 := HV2.out
      rw [if_neg (by rw [hany]; simp)] at hv3
      have HA := Aside0.mk hany
      have HV3 := Aside0.mk hv3
      clear hv3 hany HV2
      go_enter Try.func19, Try.ntmps19
      go_wp2_with fail
      refine (may_calls HE.out _).mono ?_
      rintro x W3 ⟨rfl, hg⟩
      rw [HMY.out]
      have HG3 := Aside0.mk (grown_two HI.out.2 hg)
      have HI3 := Aside0.mk (HI.out.1.next HRL.out (grown_but hg _))
      clear hg
      have c1 := HI3.out.c1
      obtain ⟨q0, q1, q2, q3, q4, q5, q6, q7, q8, q9, q10⟩ := cz11 HI3.out.b2
      go_wp2_with fail
      refine (HAG.out _ HG3.out).mono ?_
      rintro x W4 ⟨A, c, rfl, hr, hg⟩
      have HR4 := Aside0.mk hr
      have HG4 := Aside0.mk (grown_two HG3.out hg)
      have HI4 := Aside0.mk (HI3.out.next HRL.out (grown_but hg _))
      clear hr hg c1 q0 q1 q2 q3 q4 q5 q6 q7 q8 q9 q10
      go_wp2_with fail
      refine (HAN.out _ _ A c HG4.out HI4.out.c1 HR4.out).mono ?_
      rintro x W5 ⟨rfl, hg5⟩
      rw [HA.out]
      have HG5 := Aside0.mk (grown_two HG4.out hg5)
      have HI5 := Aside0.mk (HI4.out.next HRL.out (grown_but hg5 _))
      have HR5 := Aside0.mk (HR4.out.same hg5)
      clear hg5
      go_wp2_with fail
      go_loopw [23] (fun v23 wr => ∃ k : Nat, v23 = .int .i64 k ∧ k ≤ L.length ∧ Aside0 (Tl B w0 p r (setAll es (L.take k)) wr) ∧ Aside0 (IRow W.heap.size A c L wr) ∧ Aside0 (InsW W p r e wr)) (fun v23 _ => L.length - (intOf v23).toNat)
      case atStart => exact ⟨0, rfl, by omega, ⟨by simpa [setAll] using HM.out.same HG5.out⟩, ⟨HR5.out.lift (by first | exact Nat.le_refl _ | exact HG3.out.size)⟩, HI5⟩
      case round =>
        clear HI5 HI4 HI3 HI HR4 HR5 HM
        obtain ⟨k, rfl, hk, HM, HR, HI⟩ := hrel
        have c1 := HI.out.c1
        by_cases hk2 : k < L.length
        · have hk2' : (k : Int) < (L.length : Int) := by omega
          have hk0 : (0 : Int) ≤ (k : Int) := by omega
          obtain ⟨g, rfl, hc⟩ := HR.out.at k hk2
          have hmem : L.getD k 0 ∈ L := by simp [List.getD, hk2]
          have hil := HSP.out _ hmem
          have htk : L.take (k + 1) = L.take k ++ [L.getD k 0] := by
            rw [List.take_succ_eq_append_getElem hk2]
            simp [List.getD, hk2]
          have HTK := Aside0.mk htk
          clear hmem htk
          generalize L.getD k 0 = i at hc hil HTK
          have hi' : (i : Int) < (es.length : Int) := by omega
          have hi0 : (0 : Int) ≤ (i : Int) := by omega
          have hcell := HM.out.cell
          rw [setAll_len] at hcell
          have hfr := HM.out.frozen i
          obtain ⟨v, hv⟩ := cell_of_place (HM.out.at i (by rw [setAll_len]; exact hil))
          go_wp2
          go_roundw
          case rel => exact ⟨k + 1, by go_num, by omega, ⟨by rw [HTK.out, setAll_snoc]; exact HM.out.set i (by rw [setAll_len]; exact hil) none none (.inl ⟨rfl, rfl⟩)⟩, ⟨HR.out.kept (grown_cell _ ⟨r, i, none⟩ _) HRL.out⟩, ⟨HI.out.next HRL.out (grown_cell _ ⟨r, i, none⟩ _)⟩⟩
          case measure => simp [intOf]; omega
        · obtain rfl : k = L.length := by omega
          have HM2 := Aside0.mk (show Tl B w0 p r (goneOf es e) wr by have := HM.out; rw [List.take_length, HSC.out] at this; exact this)
          have hgl : (goneOf es e).length = es.length := clearQ_len es (againstQ e)
          generalize goneOf es e = es1 at HM2 HV3 hgl
          clear HM
          go_wp2_with fail
          refine (HPC.out _ es1 HM2.out).mono ?_
          rintro x W6 ⟨rfl, hg⟩
          have HM6 := Aside0.mk (HM2.out.same hg)
          have HI6 := Aside0.mk (HI.out.next HRL.out (grown_but hg _))
          clear hg HI HM2 c1
          cases hpl2 : placeN es1 pick with
          | none =>
            have hv4 := HV3.out
            rw [hpl2] at hv4
            injection hv4 with e1 e2; injection e2 with e2 e3; subst e1 e2 e3
            clear hpl2 HV3
            simp only [optV]
            go_wp2
            exact bodyPost_ret (v := .tuple #[.int .i64 0, .int .i64 7]) (by simp [results, Try.f19]) rfl ⟨rfl, HM6.out, HI6.out.grown⟩
          | some j =>
            have hv4 := HV3.out
            have hj := placeN_lt hpl2
            rw [hpl2] at hv4
            injection hv4 with e1 e2; injection e2 with e2 e3; subst e1 e2 e3
            clear hpl2 HV3
            simp only [optV]
            have hj' : (j : Int) < (es1.length : Int) := by omega
            have hj0 : (0 : Int) ≤ (j : Int) := by omega
            have c1 := HI6.out.c1
            have hcell := HM6.out.cell
            have hfr := HM6.out.frozen j
            obtain ⟨v, hv⟩ := cell_of_place (HM6.out.at j hj)
            go_wp2
            exact bodyPost_ret (v := .tuple #[.int .i64 (j : Int), .int .i64 0]) (by simp [results, Try.f19]) rfl ⟨rfl, HM6.out.set j hj (some (W.heap.size + 1)) (some e) (.inr ⟨_, e, rfl, rfl, HI6.out.b2⟩), (HI6.out.next HRL.out (grown_cell _ ⟨r, j, none⟩ _)).grown⟩
end
end Go.Proofs.Ythclbckkfgmbaaa.QTlbPlays
