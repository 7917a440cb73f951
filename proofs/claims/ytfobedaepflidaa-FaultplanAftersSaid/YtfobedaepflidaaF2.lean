-- Written by a program of this session (own_print.py) that runs the kit's printer. Lean checks it.
import Derived.Test.YtfobedaepflidaaF0
namespace Go.Proofs.Ytfobedaepflidaa.F
open Go.RowKit Go.Proofs.YtfobedaepflidaaW.PrintWords Go.Proofs.YtfobedaepflidaaW.PrintLast Go.Proofs.YtfobedaepflidaaW.PrintMore
attribute [local go_sem] max2_int min2_int max_two min_two max_three min_three max_four min_four   -- for this text's walks alone
set_option linter.unusedVariables false
set_option linter.unusedSimpArgs false

attribute [local go_sem ↓ high] ld23a sv23a
attribute [local go_sem high] ld23 sv23
/-! ### faultplan_suits: function 17 -/
theorem wpList_cut {P : Program} {ops : Array Oper} {Q : Exit → Act → World → Prop} {l1 rest : List Oper} {a : Act} {w : World} (R : Act → World → Prop)
    (hrest : ∀ a' w', R a' w' → wpList P ops Q rest a' w')
    (first : ∀ (J : Act → World → Prop) (Q1 : Exit → Act → World → Prop), (∀ a' w', R a' w' → J a' w') → (∀ a' w', Met J a' w' → Q1 .normal a' w') → wpList P ops Q1 l1 a w) :
    wpList P ops Q (l1 ++ rest) a w := by
  have h := first R (fun e a w => match e with | .normal => R a w | e => Q e a w) (fun _ _ h => h) (fun _ _ h => h)
  clear first
  have hlet : LetsOut (fun (e : Exit) (a : Act) (w : World) => match e with | .normal => R a w | e => Q e a w) → LetsOut Q := fun ⟨a, w, h⟩ => ⟨a, w, h⟩
  induction l1 generalizing a w with
  | nil => exact hrest _ _ h
  | cons o l1 ih =>
    simp only [List.cons_append, wpList] at h ⊢
    split
    · rename_i hw
      rw [if_pos hw] at h
      rcases h with h | h
      · refine .inl ?_
        revert h
        unfold Oper.wp
        cases (execOp a.eval o).run P w with
        | ok n w1 =>
          cases n with
          | value v => exact fun h => ih h
          | skip => exact fun h => ih h
          | defer d => exact fun h => ih h
          | enter f args =>
            intro h
            refine Calls.mono h ?_
            intro e w2 he
            cases e with
            | returned v => exact ih he
            | panicked c => exact he
            | outgrown => exact hlet he
          | row r args => exact fun h => Rows.mono h fun v w2 he => ih he
          | _ => exact fun h => h.elim
        | halt e w1 =>
          cases e <;> first | exact fun h => h | exact fun h => h.elim
      · exact .inr ⟨h.1, hlet h.2⟩
    · rename_i hw
      rw [if_neg hw] at h
      exact ih h

/-- o' does what o does, and is wanted where o is -/
def LikeOp (ops' ops : Array Oper) (o' o : Oper) : Prop :=
  o'.dst = o.dst ∧ o'.op = o.op ∧ o'.type = o.type ∧ ∀ tmps, Region.wanted o' (yielded ops' tmps) = Region.wanted o (yielded ops tmps)
theorem LikeOp.wp {ops' ops : Array Oper} {o' o : Oper} (h : LikeOp ops' ops o' o) {P : Program} {a : Act} {w : World} {K : Act → World → Prop} {Q : Exit → Act → World → Prop} :
    o'.wp P a w K Q = o.wp P a w K Q ∧ o'.asks P a w = o.asks P a w := by
  obtain ⟨d', p', t', q', f', g'⟩ := o'
  obtain ⟨d, p, t, q, f, g⟩ := o
  obtain ⟨h1, h2, h3, -⟩ := h
  subst h1; subst h2; subst h3
  exact ⟨rfl, rfl⟩
inductive LikeList (ops' ops : Array Oper) : List Oper → List Oper → Prop
  | nil : LikeList ops' ops [] []
  | cons {o' o : Oper} {l' l : List Oper} : LikeOp ops' ops o' o → LikeList ops' ops l' l → LikeList ops' ops (o' :: l') (o :: l)
theorem wpList_like {P : Program} {ops ops' : Array Oper} {Q : Exit → Act → World → Prop} {l' l : List Oper} (h : LikeList ops' ops l' l) :
    ∀ {a : Act} {w : World}, wpList P ops' Q l' a w → wpList P ops Q l a w := by
  induction h with
  | nil => exact fun h => h
  | cons ho hl ih =>
    intro a w h
    unfold wpList at h ⊢
    rw [← ho.2.2.2 a.tmps]
    split
    · rename_i hw
      rw [if_pos hw] at h
      rcases h with h | h
      · rw [(ho.wp).1] at h
        exact .inl (Oper.wp_mono (fun _ _ h => ih h) h)
      · rw [(ho.wp (K := fun _ _ => True) (Q := Q)).2] at h
        exact .inr h
    · rename_i hw
      rw [if_neg hw] at h
      rw [← ho.1]
      exact ih h
/-- an operation without the order's edges, its guard's number less k -/
def alone (k : Nat) (o : Oper) : Oper := ⟨o.dst, o.op, o.type, "", #[], match o.guard with | some (j, b) => some (j - k, b) | none => none⟩
/-- us in the place of what stands from k on -/
def over : List Value → Nat → List Value → List Value
  | l, 0, [] => l
  | _ :: l, 0, u :: us => u :: over l 0 us
  | x :: l, k + 1, us => x :: over l k us
  | [], _, _ => []
/-- the first n operations of what is left of a region (they begin at number k) are cut off -/
theorem wpList_part {P : Program} {ops : Array Oper} {Q : Exit → Act → World → Prop} {l : List Oper} {L : List Value} {r : List Deferred} {w : World} (k n : Nat)
    (R : List Value → List Deferred → Act → World → Prop)
    (like : LikeList ((l.take n).map (alone k)).toArray ops ((l.take n).map (alone k)) (l.take n))
    (hrest : ∀ a' w', R L r a' w' → wpList P ops Q (l.drop n) a' w')
    (first : ∀ (J : Act → World → Prop) (Q1 : Exit → Act → World → Prop), (∀ a' w', R L r a' w' → J a' w') → (∀ a' w', Met J a' w' → Q1 .normal a' w') → wpList P ((l.take n).map (alone k)).toArray Q1 ((l.take n).map (alone k)) ⟨L.toArray, r⟩ w) :
    wpList P ops Q l ⟨L.toArray, r⟩ w := by
  have h := wpList_cut (P := P) (ops := ops) (Q := Q) (l1 := l.take n) (rest := l.drop n) (a := ⟨L.toArray, r⟩) (w := w) (R L r) hrest fun J Q1 h1 h2 => wpList_like like (first J Q1 h1 h2)
  rwa [List.take_append_drop] at h

def faultplan_suits.bad (a0_0 : Bool) (a0_1 : Bool) (a0_2 : Int) (a0_3 : Bool) (a0_4 : Bool) (a0_5 : Bool) (a0_6 : Bool) (a0_7 : Int) (a0_8 : Bool) (a0_9 : Bool) (a0_10 : Bool) (a0_11 : Bool) (a0_12 : Bool) (a0_13 : Bool) (a0_14 : Bool) (a0_15 : Bool) (a0_16 : Int) : List Bool := [(!a0_4 && (a0_3 || a0_5 || a0_6 || a0_13 || a0_14 || a0_15)), (decide (0 < a0_16) && !(a0_7 == 0)), ((a0_7 == 0) && (a0_10 || a0_11 || (!a0_4 && a0_12))), (((a0_7 == 1) || (a0_7 == 3)) && (a0_12 || (!a0_4 && !a0_10))), ((a0_7 == 2) && !a0_10), (a0_3 && a0_10), (a0_11 && !a0_10), ((a0_7 == 3) && !a0_9), (a0_9 && ((a0_7 == 0) || (a0_7 == 2)) && !a0_12), (a0_8 && ((a0_7 != 1) || a0_2 == 1 || (!a0_11 && !(a0_3 && a0_14))))]
def faultplan_suits.f (a0_0 : Bool) (a0_1 : Bool) (a0_2 : Int) (a0_3 : Bool) (a0_4 : Bool) (a0_5 : Bool) (a0_6 : Bool) (a0_7 : Int) (a0_8 : Bool) (a0_9 : Bool) (a0_10 : Bool) (a0_11 : Bool) (a0_12 : Bool) (a0_13 : Bool) (a0_14 : Bool) (a0_15 : Bool) (a0_16 : Int) : Option Bool := if a0_2 = 1 ∨ a0_2 = 3 then some (!((faultplan_suits.bad a0_0 a0_1 a0_2 a0_3 a0_4 a0_5 a0_6 a0_7 a0_8 a0_9 a0_10 a0_11 a0_12 a0_13 a0_14 a0_15 a0_16).any id)) else none
set_option maxHeartbeats 8000000 in
set_option maxRecDepth 100000 in
theorem faultplan_suits.calls (a0_0 : Bool) (a0_1 : Bool) (a0_2 : Int) (a0_3 : Bool) (a0_4 : Bool) (a0_5 : Bool) (a0_6 : Bool) (a0_7 : Int) (a0_8 : Bool) (a0_9 : Bool) (a0_10 : Bool) (a0_11 : Bool) (a0_12 : Bool) (a0_13 : Bool) (a0_14 : Bool) (a0_15 : Bool) (a0_16 : Int) (r : Bool) (w : World) (h : faultplan_suits.f a0_0 a0_1 a0_2 a0_3 a0_4 a0_5 a0_6 a0_7 a0_8 a0_9 a0_10 a0_11 a0_12 a0_13 a0_14 a0_15 a0_16 = some r) :
    Calls Try.prog 17 #[.agg #[.bool a0_0, .bool a0_1, .int .i64 a0_2, .bool a0_3, .bool a0_4, .bool a0_5, .bool a0_6, .int .i64 a0_7, .bool a0_8, .bool a0_9, .bool a0_10, .bool a0_11, .bool a0_12, .bool a0_13, .bool a0_14, .bool a0_15, .int .i64 a0_16]] w fun e w' => e = .returned (.bool r) ∧ Below w.heap.size w w' := by
  have hu23 := Try.underlying23
  have HB := Aside0.mk (Below.refl w.heap.size w)
  have H := Aside0.mk h
  clear h
  go_enter Try.func17, Try.ntmps17
  go_upto_region 1 with (first | ((with_reducible refine gate_dst (N := 1) rfl ?_); refine box_event ?hg (N := 1) ?hd (cs := #[.bool a0_0, .bool a0_1, .int .i64 a0_2, .bool a0_3, .bool a0_4, .bool a0_5, .bool a0_6, .int .i64 a0_7, .bool a0_8, .bool a0_9, .bool a0_10, .bool a0_11, .bool a0_12, .bool a0_13, .bool a0_14, .bool a0_15, .int .i64 a0_16]) (t := 23) ?hr ?_; (case hd => rfl); (case hg => rfl); (case hr => first | (go_simp; done) | (go_simp; rfl)); intro g hg w3 hbox hb; have n0_ := Aside0.mk (below_step HB.out hb); have BK := Aside0.mk hbox; clear HB hb hbox hg; have HB := n0_; clear n0_; have hc0 : w3.cell? ⟨g, 0, none⟩ = some (.bool a0_0) := (blk_cell BK.out 0).trans rfl; have hc1 : w3.cell? ⟨g, 1, none⟩ = some (.bool a0_1) := (blk_cell BK.out 1).trans rfl; have hc2 : w3.cell? ⟨g, 2, none⟩ = some (.int .i64 a0_2) := (blk_cell BK.out 2).trans rfl; have hc3 : w3.cell? ⟨g, 3, none⟩ = some (.bool a0_3) := (blk_cell BK.out 3).trans rfl; have hc4 : w3.cell? ⟨g, 4, none⟩ = some (.bool a0_4) := (blk_cell BK.out 4).trans rfl; have hc5 : w3.cell? ⟨g, 5, none⟩ = some (.bool a0_5) := (blk_cell BK.out 5).trans rfl; have hc6 : w3.cell? ⟨g, 6, none⟩ = some (.bool a0_6) := (blk_cell BK.out 6).trans rfl; have hc7 : w3.cell? ⟨g, 7, none⟩ = some (.int .i64 a0_7) := (blk_cell BK.out 7).trans rfl; have hc8 : w3.cell? ⟨g, 8, none⟩ = some (.bool a0_8) := (blk_cell BK.out 8).trans rfl; have hc9 : w3.cell? ⟨g, 9, none⟩ = some (.bool a0_9) := (blk_cell BK.out 9).trans rfl; have hc10 : w3.cell? ⟨g, 10, none⟩ = some (.bool a0_10) := (blk_cell BK.out 10).trans rfl; have hc11 : w3.cell? ⟨g, 11, none⟩ = some (.bool a0_11) := (blk_cell BK.out 11).trans rfl; have hc12 : w3.cell? ⟨g, 12, none⟩ = some (.bool a0_12) := (blk_cell BK.out 12).trans rfl; have hc13 : w3.cell? ⟨g, 13, none⟩ = some (.bool a0_13) := (blk_cell BK.out 13).trans rfl; have hc14 : w3.cell? ⟨g, 14, none⟩ = some (.bool a0_14) := (blk_cell BK.out 14).trans rfl; have hc15 : w3.cell? ⟨g, 15, none⟩ = some (.bool a0_15) := (blk_cell BK.out 15).trans rfl; have hc16 : w3.cell? ⟨g, 16, none⟩ = some (.int .i64 a0_16) := (blk_cell BK.out 16).trans rfl))
  go_upto_region 2 with fail
  go_cut [4] from 12 to 19 (fun s4 wx => s4 = .bool ((a0_7 == 1) || (a0_7 == 3)) ∧ w3 = wx)
  case first =>
    cases h1 : (a0_7 == 1)
    · go_wp2
      go_meet
      exact ⟨by simp [*], rfl⟩
    · go_wp2
      go_meet
      exact ⟨by simp [*], rfl⟩
  case rest =>
  obtain ⟨rfl, rfl⟩ := hcut
  go_upto_region 4 with fail
  generalize hm : ((a0_7 == 1) || (a0_7 == 3)) = m
  have HM := Aside0.mk hm
  clear hm
  generalize hn : (a0_7 == 0) = n
  have HN := Aside0.mk hn
  clear hn
  generalize hs : (a0_7 == 2) = s
  have HS := Aside0.mk hs
  clear hs
  go_step
  simp only [List.append_eq, List.cons_append, List.nil_append]
  refine wpList_part 0 27 (fun L r a' w' => ∃ u23 u24 u25 u26 u27 u28 u29 u30 u31 u32 u33 u34 u35 u36 u37 u38 u39 u40 u41 u42 u43 u44 u45 u46 u47 u48 u49, (u49 = .bool (!a0_4 && (a0_3 || a0_5 || a0_6 || a0_13 || a0_14 || a0_15)) ∧ w3 = w') ∧ a' = ⟨(over L 23 [u23, u24, u25, u26, u27, u28, u29, u30, u31, u32, u33, u34, u35, u36, u37, u38, u39, u40, u41, u42, u43, u44, u45, u46, u47, u48, u49]).toArray, r⟩) ?like ?rest ?first
  all_goals simp only [List.take_succ_cons, List.take_zero, List.drop_succ_cons, List.drop_zero, List.map_cons, List.map_nil, alone, Nat.reduceSub]
  case like => repeat (first | exact LikeList.nil | refine LikeList.cons ⟨rfl, rfl, rfl, fun _ => rfl⟩ ?_)
  case first =>
    intro _ _ _ _
    cases a0_4
    ·
      cases a0_3
      ·
        cases a0_5
        ·
          cases a0_6
          ·
            cases a0_13
            ·
              cases a0_14
              ·
                go_wp2
                go_meet
                exact ⟨by simp [*], rfl⟩
              ·
                go_wp2
                go_meet
                exact ⟨by simp [*], rfl⟩
            ·
              go_wp2
              go_meet
              exact ⟨by simp [*], rfl⟩
          ·
            go_wp2
            go_meet
            exact ⟨by simp [*], rfl⟩
        ·
          go_wp2
          go_meet
          exact ⟨by simp [*], rfl⟩
      ·
        go_wp2
        go_meet
        exact ⟨by simp [*], rfl⟩
    ·
      go_wp2
      go_meet
      exact ⟨by simp [*], rfl⟩
  case rest =>
  rintro _ wc ⟨u23, u24, u25, u26, u27, u28, u29, u30, u31, u32, u33, u34, u35, u36, u37, u38, u39, u40, u41, u42, u43, u44, u45, u46, u47, u48, u49, ⟨rfl, rfl⟩, rfl⟩
  dsimp only [over]
  generalize he0 : (!a0_4 && (a0_3 || a0_5 || a0_6 || a0_13 || a0_14 || a0_15)) = b0
  have HE0 := Aside0.mk he0
  clear he0
  refine wpList_part 27 7 (fun L r a' w' => ∃ u50 u51 u52 u53 u54 u55 u56, (u56 = .bool (decide (0 < a0_16) && !n) ∧ w3 = w') ∧ a' = ⟨(over L 50 [u50, u51, u52, u53, u54, u55, u56]).toArray, r⟩) ?like ?rest ?first
  all_goals simp only [List.take_succ_cons, List.take_zero, List.drop_succ_cons, List.drop_zero, List.map_cons, List.map_nil, alone, Nat.reduceSub]
  case like => repeat (first | exact LikeList.nil | refine LikeList.cons ⟨rfl, rfl, rfl, fun _ => rfl⟩ ?_)
  case first =>
    intro _ _ _ _
    cases hx0 : (decide (0 < a0_16))
    ·
      go_wp2
      go_meet
      exact ⟨by simp [*], rfl⟩
    ·
      go_wp2
      go_meet
      exact ⟨by simp [*], rfl⟩
  case rest =>
  rintro _ wc ⟨u50, u51, u52, u53, u54, u55, u56, ⟨rfl, rfl⟩, rfl⟩
  dsimp only [over]
  generalize he1 : (decide (0 < a0_16) && !n) = b1
  have HE1 := Aside0.mk he1
  clear he1
  refine wpList_part 34 18 (fun L r a' w' => ∃ u57 u58 u59 u60 u61 u62 u63 u64 u65 u66 u67 u68 u69 u70 u71 u72 u73 u74, (u74 = .bool (n && (a0_10 || a0_11 || (!a0_4 && a0_12))) ∧ w3 = w') ∧ a' = ⟨(over L 57 [u57, u58, u59, u60, u61, u62, u63, u64, u65, u66, u67, u68, u69, u70, u71, u72, u73, u74]).toArray, r⟩) ?like ?rest ?first
  all_goals simp only [List.take_succ_cons, List.take_zero, List.drop_succ_cons, List.drop_zero, List.map_cons, List.map_nil, alone, Nat.reduceSub]
  case like => repeat (first | exact LikeList.nil | refine LikeList.cons ⟨rfl, rfl, rfl, fun _ => rfl⟩ ?_)
  case first =>
    intro _ _ _ _
    cases n
    ·
      go_wp2
      go_meet
      exact ⟨by simp [*], rfl⟩
    ·
      cases a0_10
      ·
        cases a0_11
        ·
          cases a0_4
          ·
            go_wp2
            go_meet
            exact ⟨by simp [*], rfl⟩
          ·
            go_wp2
            go_meet
            exact ⟨by simp [*], rfl⟩
        ·
          go_wp2
          go_meet
          exact ⟨by simp [*], rfl⟩
      ·
        go_wp2
        go_meet
        exact ⟨by simp [*], rfl⟩
  case rest =>
  rintro _ wc ⟨u57, u58, u59, u60, u61, u62, u63, u64, u65, u66, u67, u68, u69, u70, u71, u72, u73, u74, ⟨rfl, rfl⟩, rfl⟩
  dsimp only [over]
  generalize he2 : (n && (a0_10 || a0_11 || (!a0_4 && a0_12))) = b2
  have HE2 := Aside0.mk he2
  clear he2
  refine wpList_part 52 15 (fun L r a' w' => ∃ u75 u76 u77 u78 u79 u80 u81 u82 u83 u84 u85 u86 u87 u88 u89, (u89 = .bool (m && (a0_12 || (!a0_4 && !a0_10))) ∧ w3 = w') ∧ a' = ⟨(over L 75 [u75, u76, u77, u78, u79, u80, u81, u82, u83, u84, u85, u86, u87, u88, u89]).toArray, r⟩) ?like ?rest ?first
  all_goals simp only [List.take_succ_cons, List.take_zero, List.drop_succ_cons, List.drop_zero, List.map_cons, List.map_nil, alone, Nat.reduceSub]
  case like => repeat (first | exact LikeList.nil | refine LikeList.cons ⟨rfl, rfl, rfl, fun _ => rfl⟩ ?_)
  case first =>
    intro _ _ _ _
    cases m
    ·
      go_wp2
      go_meet
      exact ⟨by simp [*], rfl⟩
    ·
      cases a0_12
      ·
        cases a0_4
        ·
          go_wp2
          go_meet
          exact ⟨by simp [*], rfl⟩
        ·
          go_wp2
          go_meet
          exact ⟨by simp [*], rfl⟩
      ·
        go_wp2
        go_meet
        exact ⟨by simp [*], rfl⟩
  case rest =>
  rintro _ wc ⟨u75, u76, u77, u78, u79, u80, u81, u82, u83, u84, u85, u86, u87, u88, u89, ⟨rfl, rfl⟩, rfl⟩
  dsimp only [over]
  generalize he3 : (m && (a0_12 || (!a0_4 && !a0_10))) = b3
  have HE3 := Aside0.mk he3
  clear he3
  refine wpList_part 67 6 (fun L r a' w' => ∃ u90 u91 u92 u93 u94 u95, (u95 = .bool (s && !a0_10) ∧ w3 = w') ∧ a' = ⟨(over L 90 [u90, u91, u92, u93, u94, u95]).toArray, r⟩) ?like ?rest ?first
  all_goals simp only [List.take_succ_cons, List.take_zero, List.drop_succ_cons, List.drop_zero, List.map_cons, List.map_nil, alone, Nat.reduceSub]
  case like => repeat (first | exact LikeList.nil | refine LikeList.cons ⟨rfl, rfl, rfl, fun _ => rfl⟩ ?_)
  case first =>
    intro _ _ _ _
    cases s
    ·
      go_wp2
      go_meet
      exact ⟨by simp [*], rfl⟩
    ·
      go_wp2
      go_meet
      exact ⟨by simp [*], rfl⟩
  case rest =>
  rintro _ wc ⟨u90, u91, u92, u93, u94, u95, ⟨rfl, rfl⟩, rfl⟩
  dsimp only [over]
  generalize he4 : (s && !a0_10) = b4
  have HE4 := Aside0.mk he4
  clear he4
  refine wpList_part 73 6 (fun L r a' w' => ∃ u96 u97 u98 u99 u100 u101, (u101 = .bool (a0_3 && a0_10) ∧ w3 = w') ∧ a' = ⟨(over L 96 [u96, u97, u98, u99, u100, u101]).toArray, r⟩) ?like ?rest ?first
  all_goals simp only [List.take_succ_cons, List.take_zero, List.drop_succ_cons, List.drop_zero, List.map_cons, List.map_nil, alone, Nat.reduceSub]
  case like => repeat (first | exact LikeList.nil | refine LikeList.cons ⟨rfl, rfl, rfl, fun _ => rfl⟩ ?_)
  case first =>
    intro _ _ _ _
    cases a0_3
    ·
      go_wp2
      go_meet
      exact ⟨by simp [*], rfl⟩
    ·
      go_wp2
      go_meet
      exact ⟨by simp [*], rfl⟩
  case rest =>
  rintro _ wc ⟨u96, u97, u98, u99, u100, u101, ⟨rfl, rfl⟩, rfl⟩
  dsimp only [over]
  generalize he5 : (a0_3 && a0_10) = b5
  have HE5 := Aside0.mk he5
  clear he5
  refine wpList_part 79 7 (fun L r a' w' => ∃ u102 u103 u104 u105 u106 u107 u108, (u108 = .bool (a0_11 && !a0_10) ∧ w3 = w') ∧ a' = ⟨(over L 102 [u102, u103, u104, u105, u106, u107, u108]).toArray, r⟩) ?like ?rest ?first
  all_goals simp only [List.take_succ_cons, List.take_zero, List.drop_succ_cons, List.drop_zero, List.map_cons, List.map_nil, alone, Nat.reduceSub]
  case like => repeat (first | exact LikeList.nil | refine LikeList.cons ⟨rfl, rfl, rfl, fun _ => rfl⟩ ?_)
  case first =>
    intro _ _ _ _
    cases a0_11
    ·
      go_wp2
      go_meet
      exact ⟨by simp [*], rfl⟩
    ·
      go_wp2
      go_meet
      exact ⟨by simp [*], rfl⟩
  case rest =>
  rintro _ wc ⟨u102, u103, u104, u105, u106, u107, u108, ⟨rfl, rfl⟩, rfl⟩
  dsimp only [over]
  generalize he6 : (a0_11 && !a0_10) = b6
  have HE6 := Aside0.mk he6
  clear he6
  refine wpList_part 86 8 (fun L r a' w' => ∃ u109 u110 u111 u112 u113 u114 u115 u116, (u116 = .bool ((a0_7 == 3) && !a0_9) ∧ w3 = w') ∧ a' = ⟨(over L 109 [u109, u110, u111, u112, u113, u114, u115, u116]).toArray, r⟩) ?like ?rest ?first
  all_goals simp only [List.take_succ_cons, List.take_zero, List.drop_succ_cons, List.drop_zero, List.map_cons, List.map_nil, alone, Nat.reduceSub]
  case like => repeat (first | exact LikeList.nil | refine LikeList.cons ⟨rfl, rfl, rfl, fun _ => rfl⟩ ?_)
  case first =>
    intro _ _ _ _
    cases hx0 : (a0_7 == 3)
    ·
      go_wp2
      go_meet
      exact ⟨by simp [*], rfl⟩
    ·
      go_wp2
      go_meet
      exact ⟨by simp [*], rfl⟩
  case rest =>
  rintro _ wc ⟨u109, u110, u111, u112, u113, u114, u115, u116, ⟨rfl, rfl⟩, rfl⟩
  dsimp only [over]
  generalize he7 : ((a0_7 == 3) && !a0_9) = b7
  have HE7 := Aside0.mk he7
  clear he7
  refine wpList_part 94 13 (fun L r a' w' => ∃ u117 u118 u119 u120 u121 u122 u123 u124 u125 u126 u127 u128 u129, (u129 = .bool (a0_9 && (n || s) && !a0_12) ∧ w3 = w') ∧ a' = ⟨(over L 117 [u117, u118, u119, u120, u121, u122, u123, u124, u125, u126, u127, u128, u129]).toArray, r⟩) ?like ?rest ?first
  all_goals simp only [List.take_succ_cons, List.take_zero, List.drop_succ_cons, List.drop_zero, List.map_cons, List.map_nil, alone, Nat.reduceSub]
  case like => repeat (first | exact LikeList.nil | refine LikeList.cons ⟨rfl, rfl, rfl, fun _ => rfl⟩ ?_)
  case first =>
    intro _ _ _ _
    cases a0_9
    ·
      go_wp2
      go_meet
      exact ⟨by simp [*], rfl⟩
    ·
      cases n
      ·
        cases s
        ·
          go_wp2
          go_meet
          exact ⟨by simp [*], rfl⟩
        ·
          go_wp2
          go_meet
          exact ⟨by simp [*], rfl⟩
      ·
        go_wp2
        go_meet
        exact ⟨by simp [*], rfl⟩
  case rest =>
  rintro _ wc ⟨u117, u118, u119, u120, u121, u122, u123, u124, u125, u126, u127, u128, u129, ⟨rfl, rfl⟩, rfl⟩
  dsimp only [over]
  generalize he8 : (a0_9 && (n || s) && !a0_12) = b8
  have HE8 := Aside0.mk he8
  clear he8
  refine wpList_part 107 27 (fun L r a' w' => ∃ u130 u131 u132 u133 u134 u135 u136 u137 u138 u139 u140 u141 u142 u143 u144 u145 u146 u147 u148 u149 u150 u151 u152 u153 u154 u155 u156, (u156 = .bool (a0_8 && ((a0_7 != 1) || a0_2 == 1 || (!a0_11 && !(a0_3 && a0_14)))) ∧ w3 = w') ∧ a' = ⟨(over L 130 [u130, u131, u132, u133, u134, u135, u136, u137, u138, u139, u140, u141, u142, u143, u144, u145, u146, u147, u148, u149, u150, u151, u152, u153, u154, u155, u156]).toArray, r⟩) ?like ?rest ?first
  all_goals simp only [List.take_succ_cons, List.take_zero, List.drop_succ_cons, List.drop_zero, List.map_cons, List.map_nil, alone, Nat.reduceSub]
  case like => repeat (first | exact LikeList.nil | refine LikeList.cons ⟨rfl, rfl, rfl, fun _ => rfl⟩ ?_)
  case first =>
    intro _ _ _ _
    have HP : a0_2 = 1 ∨ a0_2 = 3 := by
      have h0 := H.out
      unfold faultplan_suits.f at h0
      split at h0
      · assumption
      · cases h0
    have e1 : bits .and .i64 1 2 = 0 := by decide
    have e3 : bits .and .i64 3 2 = 2 := by decide
    rcases HP with rfl | rfl
    ·
      cases a0_8
      ·
        go_wp2
        go_meet
        exact ⟨by simp [*], rfl⟩
      ·
        cases hx1 : (a0_7 != 1)
        ·
          go_wp2
          go_meet
          exact ⟨by simp [*], rfl⟩
        ·
          go_wp2
          go_meet
          exact ⟨by simp [*], rfl⟩
    ·
      cases a0_8
      ·
        go_wp2
        go_meet
        exact ⟨by simp [*], rfl⟩
      ·
        cases hx1 : (a0_7 != 1)
        ·
          cases a0_11
          ·
            cases a0_3
            ·
              go_wp2
              go_meet
              exact ⟨by simp [*], rfl⟩
            ·
              go_wp2
              go_meet
              exact ⟨by simp [*], rfl⟩
          ·
            go_wp2
            go_meet
            exact ⟨by simp [*], rfl⟩
        ·
          go_wp2
          go_meet
          exact ⟨by simp [*], rfl⟩
  case rest =>
  rintro _ wc ⟨u130, u131, u132, u133, u134, u135, u136, u137, u138, u139, u140, u141, u142, u143, u144, u145, u146, u147, u148, u149, u150, u151, u152, u153, u154, u155, u156, ⟨rfl, rfl⟩, rfl⟩
  dsimp only [over]
  generalize he9 : (a0_8 && ((a0_7 != 1) || a0_2 == 1 || (!a0_11 && !(a0_3 && a0_14)))) = b9
  have HE9 := Aside0.mk he9
  clear he9
  refine Kd.event_run (v := .slice (some ⟨w3.heap.size, 0, none⟩) 10 10) (w1 := w3.alloc (.cells #[.bool b0, .bool b1, .bool b2, .bool b3, .bool b4, .bool b5, .bool b6, .bool b7, .bool b8, .bool b9] 4)) rfl ?hrun ?_
  case hrun => first | (go_simp; done) | (go_simp; rfl)
  have hblk := blk_new w3 (.cells #[.bool b0, .bool b1, .bool b2, .bool b3, .bool b4, .bool b5, .bool b6, .bool b7, .bool b8, .bool b9] 4)
  have HB2 := Aside0.mk (below_step HB.out (below_alloc (Below.refl _ w3) (.cells #[.bool b0, .bool b1, .bool b2, .bool b3, .bool b4, .bool b5, .bool b6, .bool b7, .bool b8, .bool b9] 4)))
  clear HB BK
  generalize w3.alloc (.cells #[.bool b0, .bool b1, .bool b2, .bool b3, .bool b4, .bool b5, .bool b6, .bool b7, .bool b8, .bool b9] 4) = w4 at *
  generalize w3.heap.size = q at *

  have hd0 : w4.cell? ⟨q, 0, none⟩ = some (.bool b0) := (blk_cell hblk 0).trans rfl
  have hd1 : w4.cell? ⟨q, 1, none⟩ = some (.bool b1) := (blk_cell hblk 1).trans rfl
  have hd2 : w4.cell? ⟨q, 2, none⟩ = some (.bool b2) := (blk_cell hblk 2).trans rfl
  have hd3 : w4.cell? ⟨q, 3, none⟩ = some (.bool b3) := (blk_cell hblk 3).trans rfl
  have hd4 : w4.cell? ⟨q, 4, none⟩ = some (.bool b4) := (blk_cell hblk 4).trans rfl
  have hd5 : w4.cell? ⟨q, 5, none⟩ = some (.bool b5) := (blk_cell hblk 5).trans rfl
  have hd6 : w4.cell? ⟨q, 6, none⟩ = some (.bool b6) := (blk_cell hblk 6).trans rfl
  have hd7 : w4.cell? ⟨q, 7, none⟩ = some (.bool b7) := (blk_cell hblk 7).trans rfl
  have hd8 : w4.cell? ⟨q, 8, none⟩ = some (.bool b8) := (blk_cell hblk 8).trans rfl
  have hd9 : w4.cell? ⟨q, 9, none⟩ = some (.bool b9) := (blk_cell hblk 9).trans rfl
  have HR : Aside0 (r = !(b0 || (b1 || (b2 || (b3 || (b4 || (b5 || (b6 || (b7 || (b8 || (b9))))))))))) := by
    refine Aside0.mk ?_
    have h0 := H.out
    obtain rfl := HE0.out; obtain rfl := HE1.out; obtain rfl := HE2.out; obtain rfl := HE3.out; obtain rfl := HE4.out; obtain rfl := HE5.out; obtain rfl := HE6.out; obtain rfl := HE7.out; obtain rfl := HE8.out; obtain rfl := HE9.out
    obtain rfl := HM.out; obtain rfl := HN.out; obtain rfl := HS.out
    unfold faultplan_suits.f at h0
    split at h0
    · simp only [faultplan_suits.bad, List.any_cons, List.any_nil, id, Bool.or_false] at h0
      exact (Option.some.inj h0).symm
    · cases h0
  clear H HE0 HE1 HE2 HE3 HE4 HE5 HE6 HE7 HE8 HE9 HM HN HS hblk
  go_wp2
  refine wp_loop_rounds 11 ?_
  cases b0
  case true =>
    rw [rounds_succ]
    go_wp2
    go_ret
    exact ⟨by rw [HR.out]; simp, HB2.out⟩
  case false =>
  rw [rounds_succ]
  go_wp2
  cases b1
  case true =>
    rw [rounds_succ]
    go_wp2
    go_ret
    exact ⟨by rw [HR.out]; simp, HB2.out⟩
  case false =>
  rw [rounds_succ]
  go_wp2
  cases b2
  case true =>
    rw [rounds_succ]
    go_wp2
    go_ret
    exact ⟨by rw [HR.out]; simp, HB2.out⟩
  case false =>
  rw [rounds_succ]
  go_wp2
  cases b3
  case true =>
    rw [rounds_succ]
    go_wp2
    go_ret
    exact ⟨by rw [HR.out]; simp, HB2.out⟩
  case false =>
  rw [rounds_succ]
  go_wp2
  cases b4
  case true =>
    rw [rounds_succ]
    go_wp2
    go_ret
    exact ⟨by rw [HR.out]; simp, HB2.out⟩
  case false =>
  rw [rounds_succ]
  go_wp2
  cases b5
  case true =>
    rw [rounds_succ]
    go_wp2
    go_ret
    exact ⟨by rw [HR.out]; simp, HB2.out⟩
  case false =>
  rw [rounds_succ]
  go_wp2
  cases b6
  case true =>
    rw [rounds_succ]
    go_wp2
    go_ret
    exact ⟨by rw [HR.out]; simp, HB2.out⟩
  case false =>
  rw [rounds_succ]
  go_wp2
  cases b7
  case true =>
    rw [rounds_succ]
    go_wp2
    go_ret
    exact ⟨by rw [HR.out]; simp, HB2.out⟩
  case false =>
  rw [rounds_succ]
  go_wp2
  cases b8
  case true =>
    rw [rounds_succ]
    go_wp2
    go_ret
    exact ⟨by rw [HR.out]; simp, HB2.out⟩
  case false =>
  rw [rounds_succ]
  go_wp2
  cases b9
  case true =>
    rw [rounds_succ]
    go_wp2
    go_ret
    exact ⟨by rw [HR.out]; simp, HB2.out⟩
  case false =>
  rw [rounds_succ]
  go_wp2
  rw [rounds_succ]
  go_wp2
  go_ret
  exact ⟨by rw [HR.out]; simp, HB2.out⟩

end Go.Proofs.Ytfobedaepflidaa.F
