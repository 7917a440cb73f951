-- Written by a program of this session (own_print.py) that runs the kit's printer. Lean checks it.
import Derived.Test.YtfobedaepflidaaF0
import Derived.Test.YtfobedaepflidaaF4
namespace Go.Proofs.Ytfobedaepflidaa.F
open Go.RowKit Go.Proofs.YtfobedaepflidaaW.PrintWords Go.Proofs.YtfobedaepflidaaW.PrintLast Go.Proofs.YtfobedaepflidaaW.PrintMore
attribute [local go_sem] max2_int min2_int max_two min_two max_three min_three max_four min_four   -- for this text's walks alone
set_option linter.unusedVariables false
set_option linter.unusedSimpArgs false

attribute [local go_sem ↓ high] ld23a sv23a
attribute [local go_sem high] ld23 sv23
/-! ### estoversref26_form: function 19 -/
def estoversref26_form.bad (a0_0 : Bool) (a0_1 : Bool) (a0_2 : Int) (a0_3 : Bool) (a0_4 : Bool) (a0_5 : Bool) (a0_6 : Bool) (a0_7 : Int) (a0_8 : Bool) (a0_9 : Bool) (a0_10 : Bool) (a0_11 : Bool) (a0_12 : Bool) (a0_13 : Bool) (a0_14 : Bool) (a0_15 : Bool) (a0_16 : Int) : List Bool := [(!a0_4 && (a0_3 || a0_5 || a0_6 || a0_13 || a0_14 || a0_15)), (decide (0 < a0_16) && !(a0_7 == 0)), ((a0_7 == 0) && (a0_10 || a0_11 || (!a0_4 && a0_12))), (((a0_7 == 1) || (a0_7 == 3)) && (a0_12 || (!a0_4 && !a0_10))), (((a0_7 == 2) && !a0_10) || (a0_3 && a0_10) || (a0_11 && !a0_10)), (((a0_7 == 3) && !a0_9) || (a0_9 && ((a0_7 == 0) || (a0_7 == 2)) && !a0_12)), (a0_8 && (!(a0_7 == 1) || !(a0_2 == 3) || (!a0_11 && !(a0_3 && a0_14))))]
def estoversref26_form.f (a0_0 : Bool) (a0_1 : Bool) (a0_2 : Int) (a0_3 : Bool) (a0_4 : Bool) (a0_5 : Bool) (a0_6 : Bool) (a0_7 : Int) (a0_8 : Bool) (a0_9 : Bool) (a0_10 : Bool) (a0_11 : Bool) (a0_12 : Bool) (a0_13 : Bool) (a0_14 : Bool) (a0_15 : Bool) (a0_16 : Int) : Option Bool := some (!((estoversref26_form.bad a0_0 a0_1 a0_2 a0_3 a0_4 a0_5 a0_6 a0_7 a0_8 a0_9 a0_10 a0_11 a0_12 a0_13 a0_14 a0_15 a0_16).any id))
set_option maxHeartbeats 8000000 in
set_option maxRecDepth 100000 in
theorem estoversref26_form.calls (a0_0 : Bool) (a0_1 : Bool) (a0_2 : Int) (a0_3 : Bool) (a0_4 : Bool) (a0_5 : Bool) (a0_6 : Bool) (a0_7 : Int) (a0_8 : Bool) (a0_9 : Bool) (a0_10 : Bool) (a0_11 : Bool) (a0_12 : Bool) (a0_13 : Bool) (a0_14 : Bool) (a0_15 : Bool) (a0_16 : Int) (r : Bool) (w : World) (h : estoversref26_form.f a0_0 a0_1 a0_2 a0_3 a0_4 a0_5 a0_6 a0_7 a0_8 a0_9 a0_10 a0_11 a0_12 a0_13 a0_14 a0_15 a0_16 = some r) :
    Calls Try.prog 19 #[.agg #[.bool a0_0, .bool a0_1, .int .i64 a0_2, .bool a0_3, .bool a0_4, .bool a0_5, .bool a0_6, .int .i64 a0_7, .bool a0_8, .bool a0_9, .bool a0_10, .bool a0_11, .bool a0_12, .bool a0_13, .bool a0_14, .bool a0_15, .int .i64 a0_16]] w fun e w' => e = .returned (.bool r) ∧ Below w.heap.size w w' := by
  have hu23 := Try.underlying23
  have HB := Aside0.mk (Below.refl w.heap.size w)
  have H := Aside0.mk h
  clear h
  go_enter Try.func19, Try.ntmps19
  go_upto_region 2 with (first | ((with_reducible refine gate_dst (N := 1) rfl ?_); refine box_event ?hg (N := 1) ?hd (cs := #[.bool a0_0, .bool a0_1, .int .i64 a0_2, .bool a0_3, .bool a0_4, .bool a0_5, .bool a0_6, .int .i64 a0_7, .bool a0_8, .bool a0_9, .bool a0_10, .bool a0_11, .bool a0_12, .bool a0_13, .bool a0_14, .bool a0_15, .int .i64 a0_16]) (t := 23) ?hr ?_; (case hd => rfl); (case hg => rfl); (case hr => first | (go_simp; done) | (go_simp; rfl)); intro g hg w3 hbox hb; have n0_ := Aside0.mk (below_step HB.out hb); have BK := Aside0.mk hbox; clear HB hb hbox hg; have HB := n0_; clear n0_; have hc0 : w3.cell? ⟨g, 0, none⟩ = some (.bool a0_0) := (blk_cell BK.out 0).trans rfl; have hc1 : w3.cell? ⟨g, 1, none⟩ = some (.bool a0_1) := (blk_cell BK.out 1).trans rfl; have hc2 : w3.cell? ⟨g, 2, none⟩ = some (.int .i64 a0_2) := (blk_cell BK.out 2).trans rfl; have hc3 : w3.cell? ⟨g, 3, none⟩ = some (.bool a0_3) := (blk_cell BK.out 3).trans rfl; have hc4 : w3.cell? ⟨g, 4, none⟩ = some (.bool a0_4) := (blk_cell BK.out 4).trans rfl; have hc5 : w3.cell? ⟨g, 5, none⟩ = some (.bool a0_5) := (blk_cell BK.out 5).trans rfl; have hc6 : w3.cell? ⟨g, 6, none⟩ = some (.bool a0_6) := (blk_cell BK.out 6).trans rfl; have hc7 : w3.cell? ⟨g, 7, none⟩ = some (.int .i64 a0_7) := (blk_cell BK.out 7).trans rfl; have hc8 : w3.cell? ⟨g, 8, none⟩ = some (.bool a0_8) := (blk_cell BK.out 8).trans rfl; have hc9 : w3.cell? ⟨g, 9, none⟩ = some (.bool a0_9) := (blk_cell BK.out 9).trans rfl; have hc10 : w3.cell? ⟨g, 10, none⟩ = some (.bool a0_10) := (blk_cell BK.out 10).trans rfl; have hc11 : w3.cell? ⟨g, 11, none⟩ = some (.bool a0_11) := (blk_cell BK.out 11).trans rfl; have hc12 : w3.cell? ⟨g, 12, none⟩ = some (.bool a0_12) := (blk_cell BK.out 12).trans rfl; have hc13 : w3.cell? ⟨g, 13, none⟩ = some (.bool a0_13) := (blk_cell BK.out 13).trans rfl; have hc14 : w3.cell? ⟨g, 14, none⟩ = some (.bool a0_14) := (blk_cell BK.out 14).trans rfl; have hc15 : w3.cell? ⟨g, 15, none⟩ = some (.bool a0_15) := (blk_cell BK.out 15).trans rfl; have hc16 : w3.cell? ⟨g, 16, none⟩ = some (.int .i64 a0_16) := (blk_cell BK.out 16).trans rfl))
  repeat (go_quiet (fail))
  (try simp only [Act.put, List.setIfInBounds_toArray, List.set_cons_zero, List.set_cons_succ])
  have n0_ := Aside0.mk (blk_drewN BK.out nq)
  have n1_ := Aside0.mk (pw_below_drewN HB.out nq)
  clear BK HB hc0 hc1 hc2 hc3 hc4 hc5 hc6 hc7 hc8 hc9 hc10 hc11 hc12 hc13 hc14 hc15 hc16
  generalize w3.drewN nq = w4 at n0_ n1_ ⊢
  have BK := n0_
  have HB := n1_
  clear n0_ n1_
  have hc0 : w4.cell? ⟨g, 0, none⟩ = some (.bool a0_0) := (blk_cell BK.out 0).trans rfl
  have hc1 : w4.cell? ⟨g, 1, none⟩ = some (.bool a0_1) := (blk_cell BK.out 1).trans rfl
  have hc2 : w4.cell? ⟨g, 2, none⟩ = some (.int .i64 a0_2) := (blk_cell BK.out 2).trans rfl
  have hc3 : w4.cell? ⟨g, 3, none⟩ = some (.bool a0_3) := (blk_cell BK.out 3).trans rfl
  have hc4 : w4.cell? ⟨g, 4, none⟩ = some (.bool a0_4) := (blk_cell BK.out 4).trans rfl
  have hc5 : w4.cell? ⟨g, 5, none⟩ = some (.bool a0_5) := (blk_cell BK.out 5).trans rfl
  have hc6 : w4.cell? ⟨g, 6, none⟩ = some (.bool a0_6) := (blk_cell BK.out 6).trans rfl
  have hc7 : w4.cell? ⟨g, 7, none⟩ = some (.int .i64 a0_7) := (blk_cell BK.out 7).trans rfl
  have hc8 : w4.cell? ⟨g, 8, none⟩ = some (.bool a0_8) := (blk_cell BK.out 8).trans rfl
  have hc9 : w4.cell? ⟨g, 9, none⟩ = some (.bool a0_9) := (blk_cell BK.out 9).trans rfl
  have hc10 : w4.cell? ⟨g, 10, none⟩ = some (.bool a0_10) := (blk_cell BK.out 10).trans rfl
  have hc11 : w4.cell? ⟨g, 11, none⟩ = some (.bool a0_11) := (blk_cell BK.out 11).trans rfl
  have hc12 : w4.cell? ⟨g, 12, none⟩ = some (.bool a0_12) := (blk_cell BK.out 12).trans rfl
  have hc13 : w4.cell? ⟨g, 13, none⟩ = some (.bool a0_13) := (blk_cell BK.out 13).trans rfl
  have hc14 : w4.cell? ⟨g, 14, none⟩ = some (.bool a0_14) := (blk_cell BK.out 14).trans rfl
  have hc15 : w4.cell? ⟨g, 15, none⟩ = some (.bool a0_15) := (blk_cell BK.out 15).trans rfl
  have hc16 : w4.cell? ⟨g, 16, none⟩ = some (.int .i64 a0_16) := (blk_cell BK.out 16).trans rfl
  generalize hn : (a0_7 == 0) = n
  have HN := Aside0.mk hn
  clear hn
  generalize hp : (a0_7 == 1) = p
  have HP := Aside0.mk hp
  clear hp
  generalize hs : (a0_7 == 2) = s
  have HS := Aside0.mk hs
  clear hs
  generalize hv : (a0_7 == 3) = v
  have HV := Aside0.mk hv
  clear hv
  go_upto_region 2 with fail
  go_cut [45] from 19 to 45 (fun sv wx => sv = .bool (!a0_4 && (a0_3 || a0_5 || a0_6 || a0_13 || a0_14 || a0_15)) ∧ w4 = wx)
  case first =>
    cases a0_4
    ·
      cases a0_3
      ·
        cases a0_5
        ·
          cases a0_6
          ·
            cases a0_13
            ·
              cases a0_14
              ·
                go_wp2
                go_meet
                exact ⟨by simp [*], rfl⟩
              ·
                go_wp2
                go_meet
                exact ⟨by simp [*], rfl⟩
            ·
              go_wp2
              go_meet
              exact ⟨by simp [*], rfl⟩
          ·
            go_wp2
            go_meet
            exact ⟨by simp [*], rfl⟩
        ·
          go_wp2
          go_meet
          exact ⟨by simp [*], rfl⟩
      ·
        go_wp2
        go_meet
        exact ⟨by simp [*], rfl⟩
    ·
      go_wp2
      go_meet
      exact ⟨by simp [*], rfl⟩
  case rest =>
  obtain ⟨rfl, rfl⟩ := hcut
  generalize he0 : (!a0_4 && (a0_3 || a0_5 || a0_6 || a0_13 || a0_14 || a0_15)) = b0
  have HE0 := Aside0.mk he0
  clear he0
  cases b0
  case true =>
    go_wp2
    go_ret
    refine ⟨?_, HB.out⟩
    have h0 := H.out
    obtain rfl := HN.out; obtain rfl := HP.out; obtain rfl := HS.out; obtain rfl := HV.out
    simp only [estoversref26_form.f, estoversref26_form.bad, List.any_cons, List.any_nil, id, HE0.out, Bool.true_or, Bool.or_true, Bool.or_false, Bool.false_or, Bool.not_true, Bool.not_false] at h0
    obtain rfl := Option.some.inj h0
    rfl
  case false =>
  go_upto_region 4 with fail
  go_cut [52] from 46 to 52 (fun sv wx => sv = .bool (decide (0 < a0_16) && !n) ∧ w4 = wx)
  case first =>
    cases hx0 : (decide (0 < a0_16))
    ·
      go_wp2
      go_meet
      exact ⟨by simp [*], rfl⟩
    ·
      go_wp2
      go_meet
      exact ⟨by simp [*], rfl⟩
  case rest =>
  obtain ⟨rfl, rfl⟩ := hcut
  generalize he1 : (decide (0 < a0_16) && !n) = b1
  have HE1 := Aside0.mk he1
  clear he1
  cases b1
  case true =>
    go_wp2
    go_ret
    refine ⟨?_, HB.out⟩
    have h0 := H.out
    obtain rfl := HN.out; obtain rfl := HP.out; obtain rfl := HS.out; obtain rfl := HV.out
    simp only [estoversref26_form.f, estoversref26_form.bad, List.any_cons, List.any_nil, id, HE1.out, Bool.true_or, Bool.or_true, Bool.or_false, Bool.false_or, Bool.not_true, Bool.not_false] at h0
    obtain rfl := Option.some.inj h0
    rfl
  case false =>
  go_upto_region 6 with fail
  go_cut [70] from 53 to 70 (fun sv wx => sv = .bool (n && (a0_10 || a0_11 || (!a0_4 && a0_12))) ∧ w4 = wx)
  case first =>
    cases n
    ·
      go_wp2
      go_meet
      exact ⟨by simp [*], rfl⟩
    ·
      cases a0_10
      ·
        cases a0_11
        ·
          cases a0_4
          ·
            go_wp2
            go_meet
            exact ⟨by simp [*], rfl⟩
          ·
            go_wp2
            go_meet
            exact ⟨by simp [*], rfl⟩
        ·
          go_wp2
          go_meet
          exact ⟨by simp [*], rfl⟩
      ·
        go_wp2
        go_meet
        exact ⟨by simp [*], rfl⟩
  case rest =>
  obtain ⟨rfl, rfl⟩ := hcut
  generalize he2 : (n && (a0_10 || a0_11 || (!a0_4 && a0_12))) = b2
  have HE2 := Aside0.mk he2
  clear he2
  cases b2
  case true =>
    go_wp2
    go_ret
    refine ⟨?_, HB.out⟩
    have h0 := H.out
    obtain rfl := HN.out; obtain rfl := HP.out; obtain rfl := HS.out; obtain rfl := HV.out
    simp only [estoversref26_form.f, estoversref26_form.bad, List.any_cons, List.any_nil, id, HE2.out, Bool.true_or, Bool.or_true, Bool.or_false, Bool.false_or, Bool.not_true, Bool.not_false] at h0
    obtain rfl := Option.some.inj h0
    rfl
  case false =>
  go_upto_region 8 with fail
  go_cut [88] from 71 to 88 (fun sv wx => sv = .bool ((p || v) && (a0_12 || (!a0_4 && !a0_10))) ∧ w4 = wx)
  case first =>
    cases p
    ·
      cases v
      ·
        go_wp2
        go_meet
        exact ⟨by simp [*], rfl⟩
      ·
        cases a0_12
        ·
          cases a0_4
          ·
            go_wp2
            go_meet
            exact ⟨by simp [*], rfl⟩
          ·
            go_wp2
            go_meet
            exact ⟨by simp [*], rfl⟩
        ·
          go_wp2
          go_meet
          exact ⟨by simp [*], rfl⟩
    ·
      cases a0_12
      ·
        cases a0_4
        ·
          go_wp2
          go_meet
          exact ⟨by simp [*], rfl⟩
        ·
          go_wp2
          go_meet
          exact ⟨by simp [*], rfl⟩
      ·
        go_wp2
        go_meet
        exact ⟨by simp [*], rfl⟩
  case rest =>
  obtain ⟨rfl, rfl⟩ := hcut
  generalize he3 : ((p || v) && (a0_12 || (!a0_4 && !a0_10))) = b3
  have HE3 := Aside0.mk he3
  clear he3
  cases b3
  case true =>
    go_wp2
    go_ret
    refine ⟨?_, HB.out⟩
    have h0 := H.out
    obtain rfl := HN.out; obtain rfl := HP.out; obtain rfl := HS.out; obtain rfl := HV.out
    simp only [estoversref26_form.f, estoversref26_form.bad, List.any_cons, List.any_nil, id, HE3.out, Bool.true_or, Bool.or_true, Bool.or_false, Bool.false_or, Bool.not_true, Bool.not_false] at h0
    obtain rfl := Option.some.inj h0
    rfl
  case false =>
  go_upto_region 10 with fail
  go_cut [111] from 89 to 111 (fun sv wx => sv = .bool ((s && !a0_10) || (a0_3 && a0_10) || (a0_11 && !a0_10)) ∧ w4 = wx)
  case first =>
    cases s
    ·
      cases a0_3
      ·
        cases a0_11
        ·
          go_wp2
          go_meet
          exact ⟨by simp [*], rfl⟩
        ·
          go_wp2
          go_meet
          exact ⟨by simp [*], rfl⟩
      ·
        cases a0_10
        ·
          cases a0_11
          ·
            go_wp2
            go_meet
            exact ⟨by simp [*], rfl⟩
          ·
            go_wp2
            go_meet
            exact ⟨by simp [*], rfl⟩
        ·
          go_wp2
          go_meet
          exact ⟨by simp [*], rfl⟩
    ·
      cases a0_10
      ·
        go_wp2
        go_meet
        exact ⟨by simp [*], rfl⟩
      ·
        cases a0_3
        ·
          cases a0_11
          ·
            go_wp2
            go_meet
            exact ⟨by simp [*], rfl⟩
          ·
            go_wp2
            go_meet
            exact ⟨by simp [*], rfl⟩
        ·
          go_wp2
          go_meet
          exact ⟨by simp [*], rfl⟩
  case rest =>
  obtain ⟨rfl, rfl⟩ := hcut
  generalize he4 : ((s && !a0_10) || (a0_3 && a0_10) || (a0_11 && !a0_10)) = b4
  have HE4 := Aside0.mk he4
  clear he4
  cases b4
  case true =>
    go_wp2
    go_ret
    refine ⟨?_, HB.out⟩
    have h0 := H.out
    obtain rfl := HN.out; obtain rfl := HP.out; obtain rfl := HS.out; obtain rfl := HV.out
    simp only [estoversref26_form.f, estoversref26_form.bad, List.any_cons, List.any_nil, id, HE4.out, Bool.true_or, Bool.or_true, Bool.or_false, Bool.false_or, Bool.not_true, Bool.not_false] at h0
    obtain rfl := Option.some.inj h0
    rfl
  case false =>
  go_upto_region 12 with fail
  go_cut [132] from 112 to 132 (fun sv wx => sv = .bool ((v && !a0_9) || (a0_9 && (n || s) && !a0_12)) ∧ w4 = wx)
  case first =>
    cases v
    ·
      cases a0_9
      ·
        go_wp2
        go_meet
        exact ⟨by simp [*], rfl⟩
      ·
        cases n
        ·
          cases s
          ·
            go_wp2
            go_meet
            exact ⟨by simp [*], rfl⟩
          ·
            go_wp2
            go_meet
            exact ⟨by simp [*], rfl⟩
        ·
          go_wp2
          go_meet
          exact ⟨by simp [*], rfl⟩
    ·
      cases a0_9
      ·
        go_wp2
        go_meet
        exact ⟨by simp [*], rfl⟩
      ·
        cases n
        ·
          cases s
          ·
            go_wp2
            go_meet
            exact ⟨by simp [*], rfl⟩
          ·
            go_wp2
            go_meet
            exact ⟨by simp [*], rfl⟩
        ·
          go_wp2
          go_meet
          exact ⟨by simp [*], rfl⟩
  case rest =>
  obtain ⟨rfl, rfl⟩ := hcut
  generalize he5 : ((v && !a0_9) || (a0_9 && (n || s) && !a0_12)) = b5
  have HE5 := Aside0.mk he5
  clear he5
  cases b5
  case true =>
    go_wp2
    go_ret
    refine ⟨?_, HB.out⟩
    have h0 := H.out
    obtain rfl := HN.out; obtain rfl := HP.out; obtain rfl := HS.out; obtain rfl := HV.out
    simp only [estoversref26_form.f, estoversref26_form.bad, List.any_cons, List.any_nil, id, HE5.out, Bool.true_or, Bool.or_true, Bool.or_false, Bool.false_or, Bool.not_true, Bool.not_false] at h0
    obtain rfl := Option.some.inj h0
    rfl
  case false =>
  go_upto_region 14 with fail
  go_cut [157] from 133 to 157 (fun sv wx => sv = .bool (a0_8 && (!p || !(a0_2 == 3) || (!a0_11 && !(a0_3 && a0_14)))) ∧ Aside0 (Below w.heap.size w wx))
  case first =>
    cases a0_8
    ·
      go_wp2
      go_meet
      exact ⟨by simp [*], HB⟩
    ·
      cases p
      ·
        go_wp2
        go_meet
        exact ⟨by simp [*], HB⟩
      ·
        cases hq : (a0_2 == 3)
        ·
          go_wp2_with (first | (go_at_call 18; (with_reducible refine (estoversref26_writes.calls a0_0 a0_1 a0_2 a0_3 a0_4 a0_5 a0_6 a0_7 true a0_9 a0_10 a0_11 a0_12 a0_13 a0_14 a0_15 a0_16 false _ (by rw [estoversref26_writes.f, hq])).mono ?_); rintro e w5 ⟨rfl, hb⟩; have n0_ := Aside0.mk (blk_below BK.out hb); have n1_ := Aside0.mk (below_step HB.out hb); clear BK HB; have BK := n0_; have HB := n1_; clear n0_ n1_ hb; have hx0 : w5.cell? ⟨g, 0, none⟩ = some (.bool a0_0) := (blk_cell BK.out 0).trans rfl; have hx1 : w5.cell? ⟨g, 1, none⟩ = some (.bool a0_1) := (blk_cell BK.out 1).trans rfl; have hx2 : w5.cell? ⟨g, 2, none⟩ = some (.int .i64 a0_2) := (blk_cell BK.out 2).trans rfl; have hx3 : w5.cell? ⟨g, 3, none⟩ = some (.bool a0_3) := (blk_cell BK.out 3).trans rfl; have hx4 : w5.cell? ⟨g, 4, none⟩ = some (.bool a0_4) := (blk_cell BK.out 4).trans rfl; have hx5 : w5.cell? ⟨g, 5, none⟩ = some (.bool a0_5) := (blk_cell BK.out 5).trans rfl; have hx6 : w5.cell? ⟨g, 6, none⟩ = some (.bool a0_6) := (blk_cell BK.out 6).trans rfl; have hx7 : w5.cell? ⟨g, 7, none⟩ = some (.int .i64 a0_7) := (blk_cell BK.out 7).trans rfl; have hx8 : w5.cell? ⟨g, 8, none⟩ = some (.bool true) := (blk_cell BK.out 8).trans rfl; have hx9 : w5.cell? ⟨g, 9, none⟩ = some (.bool a0_9) := (blk_cell BK.out 9).trans rfl; have hx10 : w5.cell? ⟨g, 10, none⟩ = some (.bool a0_10) := (blk_cell BK.out 10).trans rfl; have hx11 : w5.cell? ⟨g, 11, none⟩ = some (.bool a0_11) := (blk_cell BK.out 11).trans rfl; have hx12 : w5.cell? ⟨g, 12, none⟩ = some (.bool a0_12) := (blk_cell BK.out 12).trans rfl; have hx13 : w5.cell? ⟨g, 13, none⟩ = some (.bool a0_13) := (blk_cell BK.out 13).trans rfl; have hx14 : w5.cell? ⟨g, 14, none⟩ = some (.bool a0_14) := (blk_cell BK.out 14).trans rfl; have hx15 : w5.cell? ⟨g, 15, none⟩ = some (.bool a0_15) := (blk_cell BK.out 15).trans rfl; have hx16 : w5.cell? ⟨g, 16, none⟩ = some (.int .i64 a0_16) := (blk_cell BK.out 16).trans rfl))
          go_meet
          exact ⟨by simp [*], HB⟩
        ·
          cases a0_11
          ·
            cases a0_3
            ·
              go_wp2_with (first | (go_at_call 18; (with_reducible refine (estoversref26_writes.calls a0_0 a0_1 a0_2 false a0_4 a0_5 a0_6 a0_7 true a0_9 a0_10 false a0_12 a0_13 a0_14 a0_15 a0_16 true _ (by rw [estoversref26_writes.f, hq])).mono ?_); rintro e w5 ⟨rfl, hb⟩; have n0_ := Aside0.mk (blk_below BK.out hb); have n1_ := Aside0.mk (below_step HB.out hb); clear BK HB; have BK := n0_; have HB := n1_; clear n0_ n1_ hb; have hx0 : w5.cell? ⟨g, 0, none⟩ = some (.bool a0_0) := (blk_cell BK.out 0).trans rfl; have hx1 : w5.cell? ⟨g, 1, none⟩ = some (.bool a0_1) := (blk_cell BK.out 1).trans rfl; have hx2 : w5.cell? ⟨g, 2, none⟩ = some (.int .i64 a0_2) := (blk_cell BK.out 2).trans rfl; have hx3 : w5.cell? ⟨g, 3, none⟩ = some (.bool false) := (blk_cell BK.out 3).trans rfl; have hx4 : w5.cell? ⟨g, 4, none⟩ = some (.bool a0_4) := (blk_cell BK.out 4).trans rfl; have hx5 : w5.cell? ⟨g, 5, none⟩ = some (.bool a0_5) := (blk_cell BK.out 5).trans rfl; have hx6 : w5.cell? ⟨g, 6, none⟩ = some (.bool a0_6) := (blk_cell BK.out 6).trans rfl; have hx7 : w5.cell? ⟨g, 7, none⟩ = some (.int .i64 a0_7) := (blk_cell BK.out 7).trans rfl; have hx8 : w5.cell? ⟨g, 8, none⟩ = some (.bool true) := (blk_cell BK.out 8).trans rfl; have hx9 : w5.cell? ⟨g, 9, none⟩ = some (.bool a0_9) := (blk_cell BK.out 9).trans rfl; have hx10 : w5.cell? ⟨g, 10, none⟩ = some (.bool a0_10) := (blk_cell BK.out 10).trans rfl; have hx11 : w5.cell? ⟨g, 11, none⟩ = some (.bool false) := (blk_cell BK.out 11).trans rfl; have hx12 : w5.cell? ⟨g, 12, none⟩ = some (.bool a0_12) := (blk_cell BK.out 12).trans rfl; have hx13 : w5.cell? ⟨g, 13, none⟩ = some (.bool a0_13) := (blk_cell BK.out 13).trans rfl; have hx14 : w5.cell? ⟨g, 14, none⟩ = some (.bool a0_14) := (blk_cell BK.out 14).trans rfl; have hx15 : w5.cell? ⟨g, 15, none⟩ = some (.bool a0_15) := (blk_cell BK.out 15).trans rfl; have hx16 : w5.cell? ⟨g, 16, none⟩ = some (.int .i64 a0_16) := (blk_cell BK.out 16).trans rfl))
              go_meet
              exact ⟨by simp [*], HB⟩
            ·
              cases a0_14
              ·
                go_wp2_with (first | (go_at_call 18; (with_reducible refine (estoversref26_writes.calls a0_0 a0_1 a0_2 true a0_4 a0_5 a0_6 a0_7 true a0_9 a0_10 false a0_12 a0_13 false a0_15 a0_16 true _ (by rw [estoversref26_writes.f, hq])).mono ?_); rintro e w5 ⟨rfl, hb⟩; have n0_ := Aside0.mk (blk_below BK.out hb); have n1_ := Aside0.mk (below_step HB.out hb); clear BK HB; have BK := n0_; have HB := n1_; clear n0_ n1_ hb; have hx0 : w5.cell? ⟨g, 0, none⟩ = some (.bool a0_0) := (blk_cell BK.out 0).trans rfl; have hx1 : w5.cell? ⟨g, 1, none⟩ = some (.bool a0_1) := (blk_cell BK.out 1).trans rfl; have hx2 : w5.cell? ⟨g, 2, none⟩ = some (.int .i64 a0_2) := (blk_cell BK.out 2).trans rfl; have hx3 : w5.cell? ⟨g, 3, none⟩ = some (.bool true) := (blk_cell BK.out 3).trans rfl; have hx4 : w5.cell? ⟨g, 4, none⟩ = some (.bool a0_4) := (blk_cell BK.out 4).trans rfl; have hx5 : w5.cell? ⟨g, 5, none⟩ = some (.bool a0_5) := (blk_cell BK.out 5).trans rfl; have hx6 : w5.cell? ⟨g, 6, none⟩ = some (.bool a0_6) := (blk_cell BK.out 6).trans rfl; have hx7 : w5.cell? ⟨g, 7, none⟩ = some (.int .i64 a0_7) := (blk_cell BK.out 7).trans rfl; have hx8 : w5.cell? ⟨g, 8, none⟩ = some (.bool true) := (blk_cell BK.out 8).trans rfl; have hx9 : w5.cell? ⟨g, 9, none⟩ = some (.bool a0_9) := (blk_cell BK.out 9).trans rfl; have hx10 : w5.cell? ⟨g, 10, none⟩ = some (.bool a0_10) := (blk_cell BK.out 10).trans rfl; have hx11 : w5.cell? ⟨g, 11, none⟩ = some (.bool false) := (blk_cell BK.out 11).trans rfl; have hx12 : w5.cell? ⟨g, 12, none⟩ = some (.bool a0_12) := (blk_cell BK.out 12).trans rfl; have hx13 : w5.cell? ⟨g, 13, none⟩ = some (.bool a0_13) := (blk_cell BK.out 13).trans rfl; have hx14 : w5.cell? ⟨g, 14, none⟩ = some (.bool false) := (blk_cell BK.out 14).trans rfl; have hx15 : w5.cell? ⟨g, 15, none⟩ = some (.bool a0_15) := (blk_cell BK.out 15).trans rfl; have hx16 : w5.cell? ⟨g, 16, none⟩ = some (.int .i64 a0_16) := (blk_cell BK.out 16).trans rfl))
                go_meet
                exact ⟨by simp [*], HB⟩
              ·
                go_wp2_with (first | (go_at_call 18; (with_reducible refine (estoversref26_writes.calls a0_0 a0_1 a0_2 true a0_4 a0_5 a0_6 a0_7 true a0_9 a0_10 false a0_12 a0_13 true a0_15 a0_16 true _ (by rw [estoversref26_writes.f, hq])).mono ?_); rintro e w5 ⟨rfl, hb⟩; have n0_ := Aside0.mk (blk_below BK.out hb); have n1_ := Aside0.mk (below_step HB.out hb); clear BK HB; have BK := n0_; have HB := n1_; clear n0_ n1_ hb; have hx0 : w5.cell? ⟨g, 0, none⟩ = some (.bool a0_0) := (blk_cell BK.out 0).trans rfl; have hx1 : w5.cell? ⟨g, 1, none⟩ = some (.bool a0_1) := (blk_cell BK.out 1).trans rfl; have hx2 : w5.cell? ⟨g, 2, none⟩ = some (.int .i64 a0_2) := (blk_cell BK.out 2).trans rfl; have hx3 : w5.cell? ⟨g, 3, none⟩ = some (.bool true) := (blk_cell BK.out 3).trans rfl; have hx4 : w5.cell? ⟨g, 4, none⟩ = some (.bool a0_4) := (blk_cell BK.out 4).trans rfl; have hx5 : w5.cell? ⟨g, 5, none⟩ = some (.bool a0_5) := (blk_cell BK.out 5).trans rfl; have hx6 : w5.cell? ⟨g, 6, none⟩ = some (.bool a0_6) := (blk_cell BK.out 6).trans rfl; have hx7 : w5.cell? ⟨g, 7, none⟩ = some (.int .i64 a0_7) := (blk_cell BK.out 7).trans rfl; have hx8 : w5.cell? ⟨g, 8, none⟩ = some (.bool true) := (blk_cell BK.out 8).trans rfl; have hx9 : w5.cell? ⟨g, 9, none⟩ = some (.bool a0_9) := (blk_cell BK.out 9).trans rfl; have hx10 : w5.cell? ⟨g, 10, none⟩ = some (.bool a0_10) := (blk_cell BK.out 10).trans rfl; have hx11 : w5.cell? ⟨g, 11, none⟩ = some (.bool false) := (blk_cell BK.out 11).trans rfl; have hx12 : w5.cell? ⟨g, 12, none⟩ = some (.bool a0_12) := (blk_cell BK.out 12).trans rfl; have hx13 : w5.cell? ⟨g, 13, none⟩ = some (.bool a0_13) := (blk_cell BK.out 13).trans rfl; have hx14 : w5.cell? ⟨g, 14, none⟩ = some (.bool true) := (blk_cell BK.out 14).trans rfl; have hx15 : w5.cell? ⟨g, 15, none⟩ = some (.bool a0_15) := (blk_cell BK.out 15).trans rfl; have hx16 : w5.cell? ⟨g, 16, none⟩ = some (.int .i64 a0_16) := (blk_cell BK.out 16).trans rfl))
                go_meet
                exact ⟨by simp [*], HB⟩
          ·
            go_wp2_with (first | (go_at_call 18; (with_reducible refine (estoversref26_writes.calls a0_0 a0_1 a0_2 a0_3 a0_4 a0_5 a0_6 a0_7 true a0_9 a0_10 true a0_12 a0_13 a0_14 a0_15 a0_16 true _ (by rw [estoversref26_writes.f, hq])).mono ?_); rintro e w5 ⟨rfl, hb⟩; have n0_ := Aside0.mk (blk_below BK.out hb); have n1_ := Aside0.mk (below_step HB.out hb); clear BK HB; have BK := n0_; have HB := n1_; clear n0_ n1_ hb; have hx0 : w5.cell? ⟨g, 0, none⟩ = some (.bool a0_0) := (blk_cell BK.out 0).trans rfl; have hx1 : w5.cell? ⟨g, 1, none⟩ = some (.bool a0_1) := (blk_cell BK.out 1).trans rfl; have hx2 : w5.cell? ⟨g, 2, none⟩ = some (.int .i64 a0_2) := (blk_cell BK.out 2).trans rfl; have hx3 : w5.cell? ⟨g, 3, none⟩ = some (.bool a0_3) := (blk_cell BK.out 3).trans rfl; have hx4 : w5.cell? ⟨g, 4, none⟩ = some (.bool a0_4) := (blk_cell BK.out 4).trans rfl; have hx5 : w5.cell? ⟨g, 5, none⟩ = some (.bool a0_5) := (blk_cell BK.out 5).trans rfl; have hx6 : w5.cell? ⟨g, 6, none⟩ = some (.bool a0_6) := (blk_cell BK.out 6).trans rfl; have hx7 : w5.cell? ⟨g, 7, none⟩ = some (.int .i64 a0_7) := (blk_cell BK.out 7).trans rfl; have hx8 : w5.cell? ⟨g, 8, none⟩ = some (.bool true) := (blk_cell BK.out 8).trans rfl; have hx9 : w5.cell? ⟨g, 9, none⟩ = some (.bool a0_9) := (blk_cell BK.out 9).trans rfl; have hx10 : w5.cell? ⟨g, 10, none⟩ = some (.bool a0_10) := (blk_cell BK.out 10).trans rfl; have hx11 : w5.cell? ⟨g, 11, none⟩ = some (.bool true) := (blk_cell BK.out 11).trans rfl; have hx12 : w5.cell? ⟨g, 12, none⟩ = some (.bool a0_12) := (blk_cell BK.out 12).trans rfl; have hx13 : w5.cell? ⟨g, 13, none⟩ = some (.bool a0_13) := (blk_cell BK.out 13).trans rfl; have hx14 : w5.cell? ⟨g, 14, none⟩ = some (.bool a0_14) := (blk_cell BK.out 14).trans rfl; have hx15 : w5.cell? ⟨g, 15, none⟩ = some (.bool a0_15) := (blk_cell BK.out 15).trans rfl; have hx16 : w5.cell? ⟨g, 16, none⟩ = some (.int .i64 a0_16) := (blk_cell BK.out 16).trans rfl))
            go_meet
            exact ⟨by simp [*], HB⟩
  case rest =>
  obtain ⟨rfl, HB2⟩ := hcut
  generalize he6 : (a0_8 && (!p || !(a0_2 == 3) || (!a0_11 && !(a0_3 && a0_14)))) = b6
  have HE6 := Aside0.mk he6
  clear he6
  cases b6
  case true =>
    go_wp2
    go_ret
    refine ⟨?_, HB2.out⟩
    have h0 := H.out
    obtain rfl := HN.out; obtain rfl := HP.out; obtain rfl := HS.out; obtain rfl := HV.out
    simp only [estoversref26_form.f, estoversref26_form.bad, List.any_cons, List.any_nil, id, HE6.out, Bool.true_or, Bool.or_true, Bool.or_false, Bool.false_or, Bool.not_true, Bool.not_false] at h0
    obtain rfl := Option.some.inj h0
    rfl
  case false =>
    go_wp2
    go_ret
    refine ⟨?_, HB2.out⟩
    have h0 := H.out
    obtain rfl := HN.out; obtain rfl := HP.out; obtain rfl := HS.out; obtain rfl := HV.out
    simp only [estoversref26_form.f, estoversref26_form.bad, List.any_cons, List.any_nil, id, HE0.out, HE1.out, HE2.out, HE3.out, HE4.out, HE5.out, HE6.out, Bool.true_or, Bool.or_true, Bool.or_false, Bool.false_or, Bool.not_true, Bool.not_false] at h0
    obtain rfl := Option.some.inj h0
    rfl

end Go.Proofs.Ytfobedaepflidaa.F
