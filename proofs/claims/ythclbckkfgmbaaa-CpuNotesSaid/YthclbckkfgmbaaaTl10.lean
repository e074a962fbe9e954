/- Put; at whatever numbers. -/
import Derived.Test.YthclbckkfgmbaaaTl9
namespace Go.Proofs.Ythclbckkfgmbaaa.QTlbPlays
open Go.RowKit Go.Proofs.YthclbckkfgmbaaaW.PrintWords Go.Proofs.YthclbckkfgmbaaaW.PrintLast Go.Proofs.YthclbckkfgmbaaaW.PrintMore
set_option linter.unusedSimpArgs false
set_option linter.unusedVariables false
section
set_option maxHeartbeats 1000000
set_option maxRecDepth 100000
noncomputable def put7_T : Bool × List (List Nat × List Nat) := rtab .any (opsOf Try.f66 7)
theorem put7_tab : rtab .any (opsOf Try.f66 7) = put7_T := rfl
def putOf (es : List (Option Ent)) (k : Int) (e : Ent) : Int × List (Option Ent) :=
  if mayB e = false then (1, es) else if inB es k = false then (5, es) else if (plL es (againstQ e)).any (fun i => !decide ((i : Int) = k)) = true then (9, es) else (0, es.set k.toNat (some e))
structure PutW (W : World) (r : Nat) (k : Int) (e : Ent) (wr : World) : Prop where
  grown : W.grownBy wr none
  c1 : wr.cell? ⟨W.heap.size, 0, none⟩ = some (.int .i64 k)
  b2 : wr.heap[W.heap.size + 1]? = some (.cells (entA e) 26 (0, 0))
theorem PutW.next {W r k e wr w2} (h : PutW W r k e wr) (hg : wr.grownBy w2 none) : PutW W r k e w2 := ⟨grown_two h.grown hg, cell_grown h.c1 hg, blk_grown h.b2 hg⟩
theorem put_begin (W : World) (r : Nat) (k : Int) (e : Ent) : PutW W r k e ((W.alloc (.cells #[.int .i64 k] 3)).alloc (.cells (entA e) 26)) := by
  have hg := grown_two (World.grownBy_alloc W (.cells #[.int .i64 k] 3) none) (World.grownBy_alloc _ (.cells (entA e) 26) none)
  refine ⟨hg, cell_grown (box_new W (.int .i64 k) 3) (World.grownBy_alloc _ _ none), ?_⟩
  have := heap_alloc_new (W.alloc (.cells #[.int .i64 k] 3)) (.cells (entA e) 26)
  rw [World.size_alloc] at this
  exact this
theorem put_any {B w0 p r es W} (h : Tl B w0 p r es W) (k : Int) (b1 : Nat) (c1 : W.cell? ⟨b1, 0, none⟩ = some (.int .i64 k)) {base A c} (q : Ent → Bool) (hr : IRow base A c (plL es q) W) :
    Calls Try.prog 51 #[.slice A (plL es q).length c, .func (.func 94) #[] #[.pointer (some ⟨b1, 0, none⟩)]] W fun x W' => x = .returned (.bool ((plL es q).any (fun i => !decide ((i : Int) = k)))) ∧ W.grownBy W' none :=
  contains_func hr (Nat.le_trans (plL_len es q) h.len) 94 _ (fun i => !decide ((i : Int) = k)) (enters_ Try.func94 (by kernel_rfl) rfl) (fun W' i hi hg => by
    rw [app1]
    exact fn_ne i k b1 W' (cell_grown c1 hg))
theorem tl_put {B w0 p r es W} (h : Tl B w0 p r es W) (hw : OkL es) (k : Int) (e : Ent) (he : EntW e) (err : Int) (es' : List (Option Ent)) (hv : putOf es k e = (err, es')) :
    Calls Try.prog 66 #[.pointer (some ⟨p, 0, none⟩), .int .i64 k, .agg (entA e)] W fun x W' => x = .returned (.int .i64 err) ∧ Tl B w0 p r es' W' ∧ W.grownBy W' (some r) := by
  have hu := Try.underlying26
  have hu2 := Try.underlying24
  have HM := Aside0.mk h
  have HE := Aside0.mk he
  have HRL := Aside0.mk h.rlt
  have HI := Aside0.mk (put_begin W r k e)
  have hlen := h.len
  have HAG := Aside0.mk (fun (W' : World) (hg : W.grownBy W' none) => tl_against (h.same hg) hw e he)
  have HAN := Aside0.mk (fun (W' : World) (base : Nat) (A : Option Addr) (c : Nat) (hg : W.grownBy W' none) (c1 : W'.cell? ⟨W.heap.size, 0, none⟩ = some (.int .i64 k)) (hr : IRow base A c (plL es (againstQ e)) W') => put_any (h.same hg) k W.heap.size c1 (againstQ e) hr)
  have HIN := Aside0.mk (fun (W' : World) (hg : W.grownBy W' none) => tl_in (h.same hg) k _ rfl)
  have hpl := plL_len es (againstQ e)
  have HV := Aside0.mk hv
  rw [show putOf es k e = ((if mayB e = false then (1, es) else if inB es k = false then (5, es) else if (plL es (againstQ e)).any (fun i => !decide ((i : Int) = k)) = true then (9, es) else (0, es.set k.toNat (some e))) : Int × List (Option Ent)) from rfl] at HV
  clear h hw he hv
  generalize plL es (againstQ e) = L at HAG HAN hpl HV
  have hl64 : L.length ≤ 64 := by omega
  cases hmay : mayB e with
  | false =>
    have hv2 := HV.out
    rw [if_pos hmay] at hv2
    injection hv2 with e1 e2; subst e1 e2
    have HMY := Aside0.mk hmay
    clear hmay
    go_enter Try.func66, Try.ntmps66
    go_wp2_with fail
    refine (may_calls HE.out _).mono ?_
    rintro x W3 ⟨rfl, hg⟩
    have HI3 := Aside0.mk (HI.out.next hg)
    clear hg
    rw [HMY.out]
    have c1 := HI3.out.c1
    go_wp2
    go_ret
    exact ⟨rfl, HM.out.same HI3.out.grown, grown_but HI3.out.grown _⟩
  | true =>
    have hv2 := HV.out
    rw [if_neg (by rw [hmay]; simp)] at hv2
    have HMY := Aside0.mk hmay
    have HV2 := Aside0.mk hv2
    clear hv2 hmay HV
    cases hin : inB es k with
    | false =>
      have hv3 := HV2.out
      rw [if_pos hin] at hv3
      injection hv3 with e1 e2; subst e1 e2
      have HA := Aside0.mk hin
      clear hin
      go_enter Try.func66, Try.ntmps66
      go_wp2_with fail
      refine (may_calls HE.out _).mono ?_
      rintro x W3 ⟨rfl, hg⟩
      have HI3 := Aside0.mk (HI.out.next hg)
      clear hg
      rw [HMY.out]
      have c1 := HI3.out.c1
      go_wp2_with fail
      refine (HIN.out _ HI3.out.grown).mono ?_
      rintro x W4 ⟨rfl, -, hg⟩
      have HI4 := Aside0.mk (HI3.out.next hg)
      clear hg
      rw [HA.out]
      clear c1
      obtain ⟨q0, q1, q2, q3, q4, q5, q6, q7, q8, q9, q10⟩ := cz11 HI4.out.b2
      go_wp2
      go_ret
      exact ⟨rfl, HM.out.same HI4.out.grown, grown_but HI4.out.grown _⟩
    | true =>
      have hv3 := HV2.out
      rw [if_neg (by rw [hin]; simp)] at hv3
      have HA := Aside0.mk hin
      have HV3 := Aside0.mk hv3
      clear hv3 HV2
      cases hany : L.any (fun i => !decide ((i : Int) = k)) with
      | true =>
        have hv4 := HV3.out
        rw [if_pos hany] at hv4
        injection hv4 with e1 e2; subst e1 e2
        have HN := Aside0.mk hany
        clear hin hany
        go_enter Try.func66, Try.ntmps66
        go_wp2_with fail
        refine (may_calls HE.out _).mono ?_
        rintro x W3 ⟨rfl, hg⟩
        have HI3 := Aside0.mk (HI.out.next hg)
        clear hg
        rw [HMY.out]
        have c1 := HI3.out.c1
        go_wp2_with fail
        refine (HIN.out _ HI3.out.grown).mono ?_
        rintro x W4 ⟨rfl, -, hg⟩
        have HI4 := Aside0.mk (HI3.out.next hg)
        clear hg
        rw [HA.out]
        clear c1
        obtain ⟨q0, q1, q2, q3, q4, q5, q6, q7, q8, q9, q10⟩ := cz11 HI4.out.b2
        go_wp2_with fail
        refine (HAG.out _ HI4.out.grown).mono ?_
        rintro x W5 ⟨A, c, rfl, hr, hg⟩
        have HI5 := Aside0.mk (HI4.out.next hg)
        clear hg
        have HR5 := Aside0.mk hr
        clear hr q0 q1 q2 q3 q4 q5 q6 q7 q8 q9 q10
        go_wp2_with fail
        refine (HAN.out _ _ A c HI5.out.grown HI5.out.c1 HR5.out).mono ?_
        rintro x W6 ⟨rfl, hg⟩
        have HI6 := Aside0.mk (HI5.out.next hg)
        clear hg
        rw [HN.out]
        go_wp2
        go_ret
        exact ⟨rfl, HM.out.same HI6.out.grown, grown_but HI6.out.grown _⟩
      | false =>
        have hv4 := HV3.out
        rw [if_neg (by rw [hany]; simp)] at hv4
        injection hv4 with e1 e2; subst e1 e2
        have HN := Aside0.mk hany
        have hdn : 0 ≤ k ∧ k < (es.length : Int) := of_decide_eq_true hin
        clear hin hany
        obtain ⟨hk0, hk1⟩ := hdn
        obtain ⟨k, rfl⟩ := Int.eq_ofNat_of_zero_le hk0
        have hkl : k < es.length := by omega
        rw [Int.toNat_natCast]
        go_enter Try.func66, Try.ntmps66
        go_wp2_with fail
        refine (may_calls HE.out _).mono ?_
        rintro x W3 ⟨rfl, hg⟩
        have HI3 := Aside0.mk (HI.out.next hg)
        clear hg
        rw [HMY.out]
        have c1 := HI3.out.c1
        go_wp2_with fail
        refine (HIN.out _ HI3.out.grown).mono ?_
        rintro x W4 ⟨rfl, -, hg⟩
        have HI4 := Aside0.mk (HI3.out.next hg)
        clear hg
        rw [HA.out]
        clear c1
        obtain ⟨q0, q1, q2, q3, q4, q5, q6, q7, q8, q9, q10⟩ := cz11 HI4.out.b2
        go_wp2_with fail
        refine (HAG.out _ HI4.out.grown).mono ?_
        rintro x W5 ⟨A, c, rfl, hr, hg⟩
        have HI5 := Aside0.mk (HI4.out.next hg)
        clear hg
        have HR5 := Aside0.mk hr
        clear hr q0 q1 q2 q3 q4 q5 q6 q7 q8 q9 q10
        go_wp2_with fail
        refine (HAN.out _ _ A c HI5.out.grown HI5.out.c1 HR5.out).mono ?_
        rintro x W6 ⟨rfl, hg⟩
        have HI6 := Aside0.mk (HI5.out.next hg)
        clear hg
        rw [HN.out]
        go_wp2
        have HI7 := Aside0.mk (HI6.out.next (grown_drew _ none))
        have HM6 := Aside0.mk (HM.out.same HI7.out.grown)
        obtain ⟨v, hv⟩ := cell_of_place (HM6.out.at k hkl)
        have hS7 : (W6.drew.cell? ⟨p, 0, none⟩ = some (.slice (some ⟨r, 0, none⟩) es.length es.length) ∧ W6.drew.cell? ⟨W.heap.size, 0, none⟩ = some (.int .i64 (k : Nat)) ∧ W6.drew.cell? ⟨r, k, none⟩ = some v ∧ W6.drew.frozen? ⟨r, k, none⟩ = false) := ⟨HM6.out.cell, HI7.out.c1, hv, HM6.out.frozen k⟩
        refine start_ (n := 7) (S := fun w' => w'.cell? ⟨p, 0, none⟩ = some (.slice (some ⟨r, 0, none⟩) es.length es.length) ∧ w'.cell? ⟨W.heap.size, 0, none⟩ = some (.int .i64 (k : Nat)) ∧ w'.cell? ⟨r, k, none⟩ = some v ∧ w'.frozen? ⟨r, k, none⟩ = false) (ds := [6]) #[false, false, false, false, false, false, false] (by kernel_rfl) rfl rfl hS7 (fun hHeld => ?_)
        refine with_tab put7_tab (fun HT_ => ?_)
        refine pure_ (i := 0) (N := some 22) (v := ?_) (a' := ?_) #[true, false, false, false, false, false, false] rfl rfl (any_of HT_.out (by kernel_rfl)) (fun _ _ _ h => h) (Or.inl ⟨by rfl, ?_⟩) ?_ ?_
        rotate_left
        · intro w'
          go_simp
          with_reducible rfl
        rotate_left
        · simp only [Act.put, List.setIfInBounds_toArray, List.set_cons_zero, List.set_cons_succ, i64_w, i32_w]
          rfl
        refine pure_ (i := 1) (N := some 23) (v := ?_) (a' := ?_) #[true, true, false, false, false, false, false] rfl rfl (any_of HT_.out (by kernel_rfl)) (fun _ _ _ h => h) (Or.inl ⟨by rfl, ?_⟩) ?_ ?_
        rotate_left
        · intro w'
          go_simp
          with_reducible rfl
        rotate_left
        · simp only [Act.put, List.setIfInBounds_toArray, List.set_cons_zero, List.set_cons_succ, i64_w, i32_w]
          rfl
        refine pure_ (i := 2) (N := some 24) (v := ?_) (a' := ?_) #[true, true, true, false, false, false, false] rfl rfl (any_of HT_.out (by kernel_rfl)) (fun _ _ _ h => h) (Or.inl ⟨by rfl, ?_⟩) ?_ ?_
        rotate_left
        · intro w'
          go_simp
          with_reducible rfl
        rotate_left
        · simp only [Act.put, List.setIfInBounds_toArray, List.set_cons_zero, List.set_cons_succ, i64_w, i32_w]
          rfl
        refine take_ (i := 3) (N := some 25) (v := ?_) (a' := ?_) #[true, true, true, true, false, false, false] rfl rfl (take_of HT_.out (by kernel_rfl)) (fun _ _ _ h => h) (Or.inl ⟨by rfl, ?_⟩) hHeld ?_ ?_
        rotate_left
        · rintro w' ⟨s1, s2, s3, s4⟩
          go_simp
          with_reducible rfl
        rotate_left
        · simp only [Act.put, List.setIfInBounds_toArray, List.set_cons_zero, List.set_cons_succ, i64_w, i32_w]
          rfl
        refine take_ (i := 4) (N := some 26) (v := ?_) (a' := ?_) #[true, true, true, true, true, false, false] rfl rfl (take_of HT_.out (by kernel_rfl)) (fun _ _ _ h => h) (Or.inl ⟨by rfl, ?_⟩) hHeld ?_ ?_
        rotate_left
        · rintro w' ⟨s1, s2, s3, s4⟩
          go_simp
          with_reducible rfl
        rotate_left
        · simp only [Act.put, List.setIfInBounds_toArray, List.set_cons_zero, List.set_cons_succ, i64_w, i32_w]
          rfl
        refine pure_ (i := 5) (N := some 27) (v := ?_) (a' := ?_) #[true, true, true, true, true, true, false] rfl rfl (any_of HT_.out (by kernel_rfl)) (fun _ _ _ h => h) (Or.inl ⟨by rfl, ?_⟩) ?_ ?_
        rotate_left
        · intro w'
          go_simp
          with_reducible rfl
        rotate_left
        · simp only [Act.put, List.setIfInBounds_toArray, List.set_cons_zero, List.set_cons_succ, i64_w, i32_w]
          rfl
        refine last_ (i := 6) (N := none) #[true, true, true, true, true, true, true] rfl rfl (one_of HT_.out (by kernel_rfl)) (by decide) (fun K hK => ?_)
        obtain ⟨s1, s2, s3, s4⟩ := hS7
        refine skip_ (w1 := W6.drew.setCell ⟨r, k, none⟩ (.pointer (some ⟨W.heap.size + 1, 0, none⟩))) (by rfl) rfl ?_ ?_
        · first | (go_simp; done) | (go_simp; rfl)
        refine hK.out _ _ ?_
        clear hK K
        refine done_ (done_of HT_.out (by kernel_rfl)) ?_
        go_wp2
        go_ret
        exact ⟨rfl, HM6.out.set k hkl (some (W.heap.size + 1)) (some e) (.inr ⟨_, e, rfl, rfl, HI7.out.b2⟩), grown_two (grown_but HI7.out.grown _) (grown_cell _ ⟨r, k, none⟩ _)⟩
end
end Go.Proofs.Ythclbckkfgmbaaa.QTlbPlays
