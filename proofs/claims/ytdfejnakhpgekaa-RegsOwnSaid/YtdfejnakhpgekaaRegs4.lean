/- What All does with registers, and answers; the document's example of layer 7; no conditions. -/
import Derived.Test.YtdfejnakhpgekaaRegs3
namespace Go.Proofs.Ytdfejnakhpgekaa.QRegsPlays
open Go.RowKit Go.Maps Go.Proofs.YtdfejnakhpgekaaW.PrintWords Go.Proofs.YtdfejnakhpgekaaW.PrintLast Go.Proofs.YtdfejnakhpgekaaW.PrintMore
set_option linter.unusedSimpArgs false
set_option linter.unusedVariables false
section
set_option maxHeartbeats 1000000
set_option maxRecDepth 100000
/-- All registers, in order. -/
def allOf (D : DataW Unit) : List Int := keysL.map fun k => getOf D k.f0 k.f1
theorem key_wf (i : Nat) (h : i < 11) : (Lit.int .i64 (rd_T102 keysL i).f0).wf = true ∧ (Lit.int .u64 (rd_T102 keysL i).f1).wf = true := by
  match i, h with
  | 0, _ | 1, _ | 2, _ | 3, _ | 4, _ | 5, _ | 6, _ | 7, _ | 8, _ | 9, _ | 10, _ => exact ⟨by decide, by decide⟩
theorem take_key (D : DataW Unit) (i : Nat) (h : i < 11) : ((keysL.take i).map fun k => getOf D k.f0 k.f1) ++ [getOf D (rd_T102 keysL i).f0 (rd_T102 keysL i).f1] = (keysL.take (i + 1)).map fun k => getOf D k.f0 k.f1 := by
  match i, h with
  | 0, _ | 1, _ | 2, _ | 3, _ | 4, _ | 5, _ | 6, _ | 7, _ | 8, _ | 9, _ | 10, _ => rfl
theorem R_far_map {α : Type} {d : Kd α} {e base : Nat} {ok : Nat → Prop} {w : World} {v : Value} {xs : List α} (h : d.R e w base ok v xs) {g : Nat} {es : Array MapEntry} {c : Nat} (hb : w.heap[g]? = some (.map es c)) : some g ≠ v.ownBlock := fun x => by
  have := (Kd.R_bound h).1 g x.symm
  obtain ⟨_, _, _, q, _, cells, hc⟩ := this
  rw [hb] at hc; cases hc
theorem R_base {α : Type} {d : Kd α} {e base : Nat} {ok : Nat → Prop} {w : World} {v : Value} {xs : List α} (h : d.R e w base ok v xs) : ∀ k, v.ownBlock = some k → base ≤ k := fun k x => ((Kd.R_bound h).1 k x).2.1
theorem two_rows {α : Type} {d : Kd α} {e base base' : Nat} {ok ok' : Nat → Prop} {w : World} {v v' : Value} {xs : List Int} {ys : List α} (h : (Kd.int .u64).R 22 w base ok v xs) (h' : d.R e w base' ok' v' ys) (hne : e ≠ 22) : ∀ k, v.ownBlock = some k → some k ≠ v'.ownBlock := fun k x => by
  obtain ⟨_, _, _, q, hq, cells, hc⟩ := (Kd.R_bound h).1 k x
  have hq2 : q = 22 := by
    rcases List.mem_cons.1 hq with e | e
    · exact e
    · exact absurd e (by show q ∉ ([] : List Nat); simp)
  subst hq2
  exact Kd.R_ne h' hc hne
theorem grown_below {W W1 : World} (h : W.grownBy W1 none) : Below W.heap.size W W1 := ⟨h.os, h.tape, h.output, h.size, fun k hk => h.block k hk (by simp)⟩
theorem Regs.kept_own {B w0 p mb n D W W'} (h : Regs B w0 p mb n D W) {base : Nat} {ok : Nat → Prop} {v : Value} {xs : List Int} (hr : (Kd.int .u64).R 22 W base ok v xs) (hB : B ≤ base) (hg : W.grownBy W' v.ownBlock) : Regs B w0 p mb n D W' := by
  obtain ⟨es, c, hb, _⟩ := h.own
  exact h.kept hg (R_far_map hr hb) (Kd.R_ne hr h.row (by decide)) (fun k e => Nat.le_trans hB (R_base hr k e))
theorem all_calls {B w0 p mb n D W} (h : Regs B w0 p mb n D W) :
    Calls Try.prog 23 #[.pointer (some ⟨p, 0, none⟩)] W fun e W' => ∃ v0, e = .returned v0 ∧ Kd.R (Kd.int .u64) 22 W' W.heap.size (fun _ => True) v0 (allOf D) ∧ W.grownBy W' none := by
  have HM := Aside0.mk h
  have HB0 := Aside0.mk h.hB
  clear h
  have hu := Try.underlying102
  have h11 : keysL.length = 11 := rfl
  go_enter Try.func23, Try.ntmps23
  go_wp2_with (first | (go_at_call 69; refine (regs_keys.calls keysL _ rfl).mono ?_; rintro e w1 ⟨vk, rfl, hk, hb⟩; have HK := Aside0.mk hk; have HM1 := Aside0.mk (HM.out.same (below_grown hb)); have HG := Aside0.mk (below_grown hb); obtain ⟨Ak, ck, ek⟩ := Kd.R_slice hk; subst ek; clear hk hb HM) | go_in)
  go_loopw [3, 8] (fun v3 v8 wr => ∃ (i : Nat) (ys : List Int), v8 = .int .i64 i ∧ i ≤ 11 ∧ Aside0 (ys = ((keysL.take i).map fun k => getOf D k.f0 k.f1)) ∧ Aside0 (Kd.R (Kd.int .u64) 22 wr W.heap.size (fun _ => True) v3 ys) ∧ Aside0 (Kd.R k102 102 wr W.heap.size (fun _ => True) (.slice Ak keysL.length ck) keysL) ∧ Aside0 (Regs B w0 p mb n D wr) ∧ Aside0 (W.grownBy wr none)) (fun _ v8 _ => 11 - (intOf v8).toNat)
  case atStart => exact ⟨0, [], rfl, by omega, ⟨rfl⟩, ⟨Kd.R_nil _ _ _ _ _⟩, HK, HM1, HG⟩
  case round =>
    clear HK HM1 HG
    obtain ⟨i, ys, rfl, hi, HY, HO, HK, HM, HG⟩ := hrel
    by_cases h8 : i < 11
    · have h8' : (i : Int) < 11 := by omega
      obtain ⟨Ak', ck', ek, hck, hC⟩ := Kd.R_reads HK.out
      obtain ⟨rfl, rfl⟩ : Ak = Ak' ∧ ck = ck' := by injection ek with e1 e2 e3; exact ⟨e1, e3⟩
      obtain ⟨ad, rfl, hc0, hc1⟩ := at_T102 hC i (by omega) (by rw [h11]; omega)
      rw [Int.toNat_natCast] at hc0 hc1
      obtain ⟨kw0, kw1⟩ := key_wf i h8
      have HKW := Aside0.mk (And.intro kw0 kw1)
      have HTK := Aside0.mk ((congrArg (fun z => z ++ [getOf D (rd_T102 keysL i).f0 (rd_T102 keysL i).f1]) HY.out).trans (take_key D i h8))
      have HYL := Aside0.mk (show ys.length ≤ 11 by rw [HY.out, List.length_map, List.length_take]; omega)
      clear hC ek hck kw0 kw1
      generalize (rd_T102 keysL i).f0 = ka at hc0 HKW HTK
      generalize (rd_T102 keysL i).f1 = kq at hc1 HKW HTK
      obtain ⟨Ao, co, eo⟩ := Kd.R_slice HO.out
      subst eo
      go_wp2_with (first | ((with_reducible refine gate_dst (N := 5) rfl ?_); refine box_event ?hg (N := 5) ?hd (cs := #[.int .i64 0, .int .u64 0]) (t := 102) ?hr ?_; (case hd => rfl); (case hg => rfl); (case hr => first | (go_simp; done) | (go_simp; rfl)); intro gk hgb wb hbox hb; have HQ := Aside0.mk hbox; have GHQ := Aside0.mk (below_grown hb); have LHQ := Aside0.mk (Nat.le_of_eq hgb.symm); clear hgb hbox hb) | ((with_reducible refine gate_store (t := 102) (p := 5) rfl ?_); refine wpList_store_row rfl 102 (.tmp 5) (.tmp 11) rfl gk #[.int .i64 ka, .int .u64 kq] rfl rfl 102 _ HQ.out (by kernel_rfl) rfl (by kernel_rfl) ?_; have SHQ := Aside0.mk (setRow_heap _ gk _ #[.int .i64 ka, .int .u64 kq] _ _ HQ.out); have THQ := Aside0.mk (grown_row wb gk #[.int .i64 ka, .int .u64 kq]); have hgn := grown_new GHQ.out THQ.out LHQ.out; have HO2 := Aside0.mk (Kd.R_grown HO.out hgn (by simp)); have HK2 := Aside0.mk (Kd.R_grown HK.out hgn (by simp)); have HM2 := Aside0.mk (HM.out.same hgn); have HG2 := Aside0.mk (grown_two HG.out hgn); obtain ⟨k0, k1⟩ := cz2 SHQ.out; clear HO HK HM HG hgn) | (go_at_call 57; refine (get_calls HM2.out ka kq HKW.out.1 HKW.out.2).mono ?_; rintro e w3 ⟨rfl, hg⟩; have HO3 := Aside0.mk (Kd.R_grown HO2.out hg (by simp)); have HK3 := Aside0.mk (Kd.R_grown HK2.out hg (by simp)); have HM3 := Aside0.mk (HM2.out.same hg); have HG3 := Aside0.mk (grown_two HG2.out hg); clear HO2 HK2 HM2 HG2 hg) | ((with_reducible refine gate_builtin (b := .append) (xs := #[.tmp 12, .tmp 16]) rfl ?_); at_builtin; refine Kd.R_append (Kd.int .u64) (w0 := W) W.heap.size rfl (.tmp 12) (.tmp 16) 26 22 (.int .u64 0) 8 rfl Try.underlying26 info22 rfl (by decide) (by omega) (.slice Ao ys.length co) ys (getOf D ka kq) [.int .u64 (getOf D ka kq)] (fun _ => True) (fun _ => False) rfl rfl ?aP (fun _ hk => hk.elim) ?aF ?aO ?aB ?aS ?aL ?_; (case aP => exact rfl); (case aB => exact grown_below HG3.out); (case aF => exact (fun _ _ => trivial)); (case aO => exact HO3.out); (case aS => exact HG3.out.size); (case aL => have := HYL.out; omega); intro v4 w4 ho hb hg hat; have HO4 := Aside0.mk ho; have HK4 := Aside0.mk (Kd.R_grown2 HK3.out rfl hg (fun k e => two_rows HO3.out HK3.out (by decide) k e)); have HM4 := Aside0.mk (HM3.out.kept_own HO3.out HB0.out hg); have HG4 := Aside0.mk (HG3.out.andThen hg (fun k e => .inl (R_base HO3.out k e))); clear ho hb hg hat HO3 HK3 HM3 HG3) | go_in)
      go_roundw
      case rel => exact ⟨i + 1, _, by go_num, by omega, HTK, HO4, HK4, HM4, HG4⟩
      case measure => simp [intOf]; omega
    · obtain rfl : i = 11 := by omega
      go_wp2
      go_ret
      have hy := HY.out
      subst hy
      exact ⟨_, rfl, HO.out, HG.out⟩
theorem read_eq {B w0 p mb n D W} (h : Regs B w0 p mb n D W) (a q : Int) (ha : (Lit.int .i64 a).wf = true) (hq : (Lit.int .u64 q).wf = true) (ht : thereOf a q = true) (v : Int) (hv : getOf D a q = v) :
    Calls Try.prog 17 #[.pointer (some ⟨p, 0, none⟩), .int .i64 a, .int .u64 q] W fun e W' => e = .returned (.tuple #[.int .u64 v, .int .i64 0]) ∧ Regs B w0 p mb n D W' ∧ W.grownBy W' none := by
  subst hv
  exact (read_ok h a q ha hq ht).mono fun e W' x => ⟨x.1, h.same x.2, x.2⟩
theorem all_len (D : DataW Unit) : (allOf D).length = 11 := rfl
theorem put_ex : field_Put.f 4202496 0 13 5 = some 4202501 := by
  have := fPut 4202496 5 (by omega) 0 13 (by omega) (by omega)
  rw [show putOf 4202496 0 13 5 = 4202501 by decide] at this
  exact this
theorem lives_calls (W : World) : Calls Try.prog 18 #[] W fun e W' => e = .returned (.bool true) ∧ W.grownBy W' none := by
  have HB := Aside0.mk (Below.refl W.heap.size W)
  have R1 := Aside0.mk (show getOf (pk (.map []) 88 48 4202501) 88 48 = 4202501 by unfold getOf; rw [if_neg (by decide), rdk_same isMap_empty])
  have R2 := Aside0.mk (show getOf (pk (.map []) 88 48 4202501) 88 0 = 1407374883553281 by unfold getOf; rw [if_pos rfl, rdk_same isMap_empty]; rfl)
  have hal : (allOf (pk (.map []) 88 48 4202501)).length = 11 := all_len _
  go_enter Try.func18, Try.ntmps18
  go_wp2_with (first | (go_at_call 15; refine (new_calls HB.out (Nat.le_refl _)).mono ?_; rintro e wn ⟨p, mb, rfl, hM, hg⟩; have HM0 := Aside0.mk hM; clear hM hg) | (go_at_call 25; refine (miss_ok HM0.out 1 88 rfl rfl (by decide) 4202496 5 4202501 (by decide) (by decide) put_ex (by decide) (by decide)).mono ?_; rintro e w1 ⟨rfl, hM, hg⟩; have HM1 := Aside0.mk hM; clear HM0 hM hg) | (go_at_call 17; first | (refine (read_eq HM1.out 88 48 (by decide) (by decide) (by decide) 4202501 R1.out).mono ?_; rintro e wr2 ⟨rfl, hM, hg⟩; have HM2 := Aside0.mk hM; clear HM1 hM hg) | (refine (read_eq HM2.out 88 0 (by decide) (by decide) (by decide) 1407374883553281 R2.out).mono ?_; rintro e wr3 ⟨rfl, hM, hg⟩; have HM3 := Aside0.mk hM; clear HM2 hM hg)) | (go_at_call 23; refine (all_calls HM3.out).mono ?_; rintro e wa3 ⟨va, rfl, hO, hg⟩; have HO3 := Aside0.mk hO; have HM4 := Aside0.mk (HM3.out.same hg); obtain ⟨Aa, ca, ea⟩ := Kd.R_slice hO; subst ea; clear hO hg) | go_in)
  go_ret
  exact ⟨rfl, regs_end HM4.out⟩
end
end Go.Proofs.Ytdfejnakhpgekaa.QRegsPlays
