/-
  The law TimefunLater: true of every moment and length of time.
-/
import Derived.Test.YteaebpmgbpnbeaaGreatDoorFo
import Derived.Test.YteaebpmgbpnbeaaGreatDoorFf
import Derived.Test.YteaebpmgbpnbeaaGreatDoorGk
namespace Go.Proofs.YteaebpmgbpnbeaaGreatDoor
open Go Go.Pe Go.RowKit

theorem isV_eq {P : Prop} {v x : Value} (h : isV P (.agg ⟨[v]⟩) (.agg ⟨[x]⟩)) (hp : P) : x = v := by
  rcases h with ⟨_, e⟩ | ⟨hn, _⟩
  · simpa using e
  · exact absurd hp hn


theorem arLater {base : World} (B : Begun base) {y m d s o n y2 m2 d2 s2 o2 : Int} {z z2 b : Bool} {x : Value} (hL : Tot base 29 [momentC y m d s z o, .int .i64 n] (.tuple #[momentC y2 m2 d2 s2 z2 o2, .bool b])) (hb : b = true → dateOk y2 m2 d2 ∧ timeOk s2 z2 o2) (hx : isVMoment y2 m2 d2 s2 z2 o2 (.agg ⟨[x]⟩)) (hn : spanOk n) :
    Tot base 24 [.string sPlus, momentV y m d s z o, daysV n, .agg ⟨[x]⟩, .bool b] (.bool true) := by
  cases b
  · exact arith_tot (r := .nilIface) (aLaterF _ _ _ _ _ _ _ _ _ _ _ _ _ _ hL hn) rfl (.inl rfl) (plainly_null B) (by kernel_rfl) (by kernel_rfl) (isV_pure (by kernel_rfl) _ hx)
  · have h := hb rfl
    obtain rfl := isV_eq hx h
    exact arith_tot (aLaterT _ _ _ _ _ _ _ _ _ _ _ _ _ _ hL h.1 h.2 hn) rfl (.inr ⟨_, _, rfl⟩) (plainly_moment B h.1 h.2) (by kernel_rfl) (by kernel_rfl) (by kernel_rfl)

theorem arLater2 {base : World} (B : Begun base) {y m d s o n y2 m2 d2 s2 o2 : Int} {z z2 b : Bool} {x : Value} (hL : Tot base 29 [momentC y m d s z o, .int .i64 n] (.tuple #[momentC y2 m2 d2 s2 z2 o2, .bool b])) (hb : b = true → dateOk y2 m2 d2 ∧ timeOk s2 z2 o2) (hx : isVMoment y2 m2 d2 s2 z2 o2 (.agg ⟨[x]⟩)) (hn : spanOk n) :
    Tot base 24 [.string sPlus, daysV n, momentV y m d s z o, .agg ⟨[x]⟩, .bool b] (.bool true) := by
  cases b
  · exact arith_tot (r := .nilIface) (aLater2F _ _ _ _ _ _ _ _ _ _ _ _ _ _ hL hn) rfl (.inl rfl) (plainly_null B) (by kernel_rfl) (by kernel_rfl) (isV_pure (by kernel_rfl) _ hx)
  · have h := hb rfl
    obtain rfl := isV_eq hx h
    exact arith_tot (aLater2T _ _ _ _ _ _ _ _ _ _ _ _ _ _ hL h.1 h.2 hn) rfl (.inr ⟨_, _, rfl⟩) (plainly_moment B h.1 h.2) (by kernel_rfl) (by kernel_rfl) (by kernel_rfl)

theorem arMonths {base : World} (B : Begun base) {y m d s o n y2 m2 d2 s2 o2 : Int} {z z2 b : Bool} {x : Value} (hL : Tot base 30 [momentC y m d s z o, .int .i64 n] (.tuple #[momentC y2 m2 d2 s2 z2 o2, .bool b])) (hb : b = true → dateOk y2 m2 d2 ∧ timeOk s2 z2 o2) (hx : isVMoment y2 m2 d2 s2 z2 o2 (.agg ⟨[x]⟩)) (hn : spanOk n) :
    Tot base 24 [.string sPlus, momentV y m d s z o, monthsV n, .agg ⟨[x]⟩, .bool b] (.bool true) := by
  cases b
  · exact arith_tot (r := .nilIface) (aMonthsF _ _ _ _ _ _ _ _ _ _ _ _ _ _ hL hn) rfl (.inl rfl) (plainly_null B) (by kernel_rfl) (by kernel_rfl) (isV_pure (by kernel_rfl) _ hx)
  · have h := hb rfl
    obtain rfl := isV_eq hx h
    exact arith_tot (aMonthsT _ _ _ _ _ _ _ _ _ _ _ _ _ _ hL h.1 h.2 hn) rfl (.inr ⟨_, _, rfl⟩) (plainly_moment B h.1 h.2) (by kernel_rfl) (by kernel_rfl) (by kernel_rfl)

theorem arDLater {base : World} (B : Begun base) {y m d n y2 m2 d2 : Int} {b : Bool} {x : Value} (hL : Tot base 31 [dateC y m d, .int .i64 n] (.tuple #[dateC y2 m2 d2, .bool b])) (hb : b = true → dateOk y2 m2 d2) (hx : isVDate y2 m2 d2 (.agg ⟨[x]⟩)) (hn : spanOk n) :
    Tot base 24 [.string sPlus, dateV y m d, daysV n, .agg ⟨[x]⟩, .bool b] (.bool true) := by
  cases b
  · exact arith_tot (r := .nilIface) (aDLaterF _ _ _ _ _ _ _ _ hL hn) rfl (.inl rfl) (plainly_null B) (by kernel_rfl) (by kernel_rfl) (isV_pure (by kernel_rfl) _ hx)
  · have h := hb rfl
    obtain rfl := isV_eq hx h
    exact arith_tot (aDLaterT _ _ _ _ _ _ _ _ hL h hn) rfl (.inr ⟨_, _, rfl⟩) (plainly_date B h) (by kernel_rfl) (by kernel_rfl) (by kernel_rfl)

theorem arCMonths {base : World} (B : Begun base) {y m d n y2 m2 d2 : Int} {b : Bool} {x : Value} (hL : Tot base 32 [dateC y m d, .int .i64 n] (.tuple #[dateC y2 m2 d2, .bool b])) (hb : b = true → dateOk y2 m2 d2) (hx : isVDate y2 m2 d2 (.agg ⟨[x]⟩)) (hn : spanOk n) :
    Tot base 24 [.string sPlus, monthsV n, dateV y m d, .agg ⟨[x]⟩, .bool b] (.bool true) := by
  cases b
  · exact arith_tot (r := .nilIface) (aCMonthsF _ _ _ _ _ _ _ _ hL hn) rfl (.inl rfl) (plainly_null B) (by kernel_rfl) (by kernel_rfl) (isV_pure (by kernel_rfl) _ hx)
  · have h := hb rfl
    obtain rfl := isV_eq hx h
    exact arith_tot (aCMonthsT _ _ _ _ _ _ _ _ hL h hn) rfl (.inr ⟨_, _, rfl⟩) (plainly_date B h) (by kernel_rfl) (by kernel_rfl) (by kernel_rfl)

theorem arCLater {base : World} (B : Begun base) {s o n s2 o2 k : Int} {z z2 : Bool} {x : Value} (hL : Tot base 33 [timeC s z o, .int .i64 (n)] (.tuple #[timeC s2 z2 o2, .int .i64 k])) (h : timeOk s2 z2 o2) (hx : isVTime s2 z2 o2 (.agg ⟨[x]⟩)) (hn : spanOk n) :
    Tot base 24 [.string sPlus, timeV s z o, daysV n, .agg ⟨[x]⟩, .bool true] (.bool true) := by
  obtain rfl := isV_eq hx h
  exact arith_tot (aCLater _ _ _ _ _ _ _ _ _ hL h hn) rfl (.inr ⟨_, _, rfl⟩) (plainly_time B h) (by kernel_rfl) (by kernel_rfl) (by kernel_rfl)

theorem arCSooner {base : World} (B : Begun base) {s o n s2 o2 k : Int} {z z2 : Bool} {x : Value} (hL : Tot base 33 [timeC s z o, .int .i64 (-n)] (.tuple #[timeC s2 z2 o2, .int .i64 k])) (h : timeOk s2 z2 o2) (hx : isVTime s2 z2 o2 (.agg ⟨[x]⟩)) (hn : spanOk n) :
    Tot base 24 [.string sMinus, timeV s z o, daysV n, .agg ⟨[x]⟩, .bool true] (.bool true) := by
  obtain rfl := isV_eq hx h
  exact arith_tot (aCSooner _ _ _ _ _ _ _ _ _ hL h hn) rfl (.inr ⟨_, _, rfl⟩) (plainly_time B h) (by kernel_rfl) (by kernel_rfl) (by kernel_rfl)

theorem arTimeMonths {base : World} (B : Begun base) {s o n : Int} {z : Bool} (hn : spanOk n) : Tot base 24 [.string sPlus, timeV s z o, monthsV n, timeV s z o, .bool false] (.bool true) :=
  arith_tot (r := .nilIface) (aTimeMonths _ _ _ _ _ hn) rfl (.inl rfl) (plainly_null B) (by kernel_rfl) (by kernel_rfl) (by kernel_rfl)

theorem arMomMom {base : World} (B : Begun base) {y m d s o y2 m2 d2 s2 o2 : Int} {z z2 : Bool} : Tot base 24 [.string sPlus, momentV y m d s z o, momentV y2 m2 d2 s2 z2 o2, momentV y m d s z o, .bool false] (.bool true) :=
  arith_tot (r := .nilIface) (aMomMom _ _ _ _ _ _ _ _ _ _ _ _ _) rfl (.inl rfl) (plainly_null B) (by kernel_rfl) (by kernel_rfl) (by kernel_rfl)

theorem arBtw {base : World} (B : Begun base) {y m d s o y2 m2 d2 s2 o2 k : Int} {z z2 b : Bool} {x : Value} (hL : Tot base 34 [momentC y2 m2 d2 s2 z2 o2, momentC y m d s z o] (.tuple #[.int .i64 k, .bool b])) (hx : isVDays k (.agg ⟨[x]⟩)) :
    Tot base 24 [.string sMinus, momentV y m d s z o, momentV y2 m2 d2 s2 z2 o2, .agg ⟨[x]⟩, .bool b] (.bool true) := by
  cases b
  · exact arith_tot (r := .nilIface) (aBtwF _ _ _ _ _ _ _ _ _ _ _ _ _ _ hL) rfl (.inl rfl) (plainly_null B) (by kernel_rfl) (by kernel_rfl) (isV_pure (by kernel_rfl) _ hx)
  · rcases id hx with ⟨h, e⟩ | ⟨h, e⟩
    · obtain rfl := isV_eq hx h
      exact arith_tot (aBtwT _ _ _ _ _ _ _ _ _ _ _ _ _ _ hL h) rfl (.inr ⟨_, _, rfl⟩) (plainly_days B _) (by kernel_rfl) (by kernel_rfl) (by kernel_rfl)
    · obtain rfl : x = .nilIface := by simpa [nullV] using e
      exact arith_tot (aBtwN _ _ _ _ _ _ _ _ _ _ _ _ _ _ hL h) rfl (.inl rfl) (plainly_null B) (by kernel_rfl) (by kernel_rfl) (by kernel_rfl)

theorem arDBtw {base : World} (B : Begun base) {y m d y2 m2 d2 k : Int}  {x : Value} (hL : Tot base 34 [momentC y2 m2 d2 0 true 0, momentC y m d 0 true 0] (.tuple #[.int .i64 k, .bool true])) (hx : isVDays k (.agg ⟨[x]⟩)) :
    Tot base 24 [.string sMinus, dateV y m d, dateV y2 m2 d2, .agg ⟨[x]⟩, .bool true] (.bool true) := by
  rcases id hx with ⟨h, e⟩ | ⟨h, e⟩
  · obtain rfl := isV_eq hx h
    exact arith_tot (aDBtwT _ _ _ _ _ _ _ _ hL h) rfl (.inr ⟨_, _, rfl⟩) (plainly_days B _) (by kernel_rfl) (by kernel_rfl) (by kernel_rfl)
  · obtain rfl : x = .nilIface := by simpa [nullV] using e
    exact arith_tot (aDBtwN _ _ _ _ _ _ _ _ hL h) rfl (.inl rfl) (plainly_null B) (by kernel_rfl) (by kernel_rfl) (by kernel_rfl)

theorem arMDBtw {base : World} (B : Begun base) {y m d s o y2 m2 d2 k : Int} {z b : Bool} {x : Value} (hL : Tot base 34 [momentC y2 m2 d2 0 true 0, momentC y m d s z o] (.tuple #[.int .i64 k, .bool b])) (hx : isVDays k (.agg ⟨[x]⟩)) :
    Tot base 24 [.string sMinus, momentV y m d s z o, dateV y2 m2 d2, .agg ⟨[x]⟩, .bool b] (.bool true) := by
  cases b
  · exact arith_tot (r := .nilIface) (aMDBtwF _ _ _ _ _ _ _ _ _ _ _ hL) rfl (.inl rfl) (plainly_null B) (by kernel_rfl) (by kernel_rfl) (isV_pure (by kernel_rfl) _ hx)
  · rcases id hx with ⟨h, e⟩ | ⟨h, e⟩
    · obtain rfl := isV_eq hx h
      exact arith_tot (aMDBtwT _ _ _ _ _ _ _ _ _ _ _ hL h) rfl (.inr ⟨_, _, rfl⟩) (plainly_days B _) (by kernel_rfl) (by kernel_rfl) (by kernel_rfl)
    · obtain rfl : x = .nilIface := by simpa [nullV] using e
      exact arith_tot (aMDBtwN _ _ _ _ _ _ _ _ _ _ _ hL h) rfl (.inl rfl) (plainly_null B) (by kernel_rfl) (by kernel_rfl) (by kernel_rfl)

theorem arCBtw {base : World} (B : Begun base) {s o s2 o2 k : Int} {z z2 b : Bool} {x : Value} (hL : Tot base 36 [timeC s2 z2 o2, timeC s z o] (.tuple #[.int .i64 k, .bool b])) (hx : isVDays k (.agg ⟨[x]⟩)) :
    Tot base 24 [.string sMinus, timeV s z o, timeV s2 z2 o2, .agg ⟨[x]⟩, .bool b] (.bool true) := by
  cases b
  · exact arith_tot (r := .nilIface) (aCBtwF _ _ _ _ _ _ _ _ hL) rfl (.inl rfl) (plainly_null B) (by kernel_rfl) (by kernel_rfl) (isV_pure (by kernel_rfl) _ hx)
  · rcases id hx with ⟨h, e⟩ | ⟨h, e⟩
    · obtain rfl := isV_eq hx h
      exact arith_tot (aCBtwT _ _ _ _ _ _ _ _ hL h) rfl (.inr ⟨_, _, rfl⟩) (plainly_days B _) (by kernel_rfl) (by kernel_rfl) (by kernel_rfl)
    · obtain rfl : x = .nilIface := by simpa [nullV] using e
      exact arith_tot (aCBtwN _ _ _ _ _ _ _ _ hL h) rfl (.inl rfl) (plainly_null B) (by kernel_rfl) (by kernel_rfl) (by kernel_rfl)

theorem span_mod (a : Int) : spanOk (Int.tmod a 9007199254740992) := by
  obtain ⟨h1, h2, _⟩ : -9007199254740992 < Int.tmod a 9007199254740992 ∧ Int.tmod a 9007199254740992 < 9007199254740992 ∧ True := ⟨by have := Int.lt_tmod_of_pos a (b := 9007199254740992) (by decide); omega, Int.tmod_lt_of_pos a (by decide), trivial⟩
  unfold spanOk
  omega

/-- The law's run. -/
theorem later_hk' {base : World} (B : Begun base) {N : Int → Int → Int → Int} (hN : NumOk base N) (r1 r2 r3 r4 r5 q1 q2 q3 q4 q5 a : Int) (r6 q6 : Bool) :
    ReckE (envB (rulesLater base)) 30 4 [.agg ⟨[.int .i64 r1, .int .i64 r2, .int .i64 r3, .int .i64 r4, .int .i64 r5, .bool r6]⟩, .agg ⟨[.int .i64 q1, .int .i64 q2, .int .i64 q3, .int .i64 q4, .int .i64 q5, .bool q6]⟩, .int .i64 a] (· = .bool true) := by
  have hn := span_mod a
  constructor
  rw [later_law (fun u mw => u = .bool true ∧ Tryz.prog.globals.size ≤ mw), wSub hn]
  generalize Int.tmod a 9007199254740992 = n at hn ⊢
  refine ⟨rfl, ?_⟩
  intro y m d s z o hd ht y1 m1 d1 s1 z1 o1 hd1 ht1
  refine ⟨rfl, rfl, ?_⟩
  intro x hx x1 hx1 x2 hx2
  obtain rfl := isV_eq hx ⟨hd, ht⟩
  obtain rfl := isV_eq hx1 hd
  obtain rfl := isV_eq hx2 ht
  refine ⟨rfl, rfl, rfl, ?_⟩
  intro x3 hx3 x4 hx4
  obtain rfl := isV_eq hx3 hn
  obtain rfl := isV_eq hx4 hn
  refine ⟨rfl, rfl, later_e hN _ hd ht, ?_⟩
  intro y2 m2 d2 s2 z2 o2 b hb hL
  refine ⟨rfl, mmonths_e hN _ ht, ?_⟩
  intro y3 m3 d3 s3 z3 o3 b1 hb1 hM
  refine ⟨rfl, dlater_e hN _ hd, ?_⟩
  intro y4 m4 d4 b2 hb2 hD
  refine ⟨rfl, cmonths_e hN _, ?_⟩
  intro y5 m5 d5 b3 hb3 hC
  refine ⟨rfl, clater_e hN _ ht, ?_⟩
  intro s4 z4 o4 k4 ht4 hT4
  refine ⟨rfl, clater_e hN _ ht, ?_⟩
  intro s5 z5 o5 k5 ht5 hT5
  refine ⟨rfl, ?_⟩
  intro x5 hx5
  refine ⟨arLater B hL hb hx5 hn, ?_⟩
  intro x6 hx6
  refine ⟨arLater2 B hL hb hx6 hn, ?_⟩
  intro x7 hx7
  refine ⟨arMonths B hM hb1 hx7 hn, ?_⟩
  intro x8 hx8
  refine ⟨arDLater B hD hb2 hx8 hn, ?_⟩
  intro x9 hx9
  refine ⟨arCMonths B hC hb3 hx9 hn, ?_⟩
  intro x10 hx10
  refine ⟨arCLater B hT4 ht4 hx10 hn, ?_⟩
  intro x11 hx11
  refine ⟨arCSooner B hT5 ht5 hx11 hn, ?_⟩
  refine ⟨arTimeMonths B hn, ?_⟩
  intro x12 hx12 x13 hx13 x14 hx14
  obtain rfl := isV_eq hx12 ⟨hd1, ht1⟩
  obtain rfl := isV_eq hx13 hd1
  obtain rfl := isV_eq hx14 ht1
  refine ⟨rfl, rfl, rfl, between_e hN hd1 ht1 hd ht, ?_⟩
  intro k b4 hB
  refine ⟨⟨hd1, hd⟩, ?_⟩
  intro k1 hB1
  refine ⟨cbetween_e, ?_⟩
  intro k2 b5 hB2
  refine ⟨rfl, between_e hN hd1 zero_time' hd ht, ?_⟩
  intro k3 b6 hB3
  refine ⟨mb_e hN hd1 ht1 hd ht, ?_, ?_⟩
  · intro k4 hk4 hMB
    have hs4 : spanOk k4 := by
      unfold monthsB at hk4
      unfold spanOk
      omega
    refine ⟨_, tMbT _ _ _ _ _ _ _ _ _ _ _ _ _ _ hMB hs4, rfl, ?_⟩
    intro x16 hx16
    refine ⟨arBtw B hB hx16, ?_⟩
    intro x17 hx17
    refine ⟨arDBtw B hB1 hx17, ?_⟩
    intro x18 hx18
    refine ⟨arCBtw B hB2 hx18, ?_⟩
    intro x19 hx19
    refine ⟨arMDBtw B hB3 hx19, ?_⟩
    refine ⟨arMomMom B, .inr ⟨⟨_, _, rfl, by kernel_rfl⟩, ?_⟩⟩
    intro x20 hx20
    obtain rfl := isV_eq hx20 hs4
    exact ⟨rfl, plainly_months B _, rfl, Nat.le_of_ble_eq_true (by kernel_rfl)⟩
  · intro hMB
    refine ⟨_, tMbF _ _ _ _ _ _ _ _ _ _ _ _ _ hMB, rfl, ?_⟩
    intro x16 hx16
    refine ⟨arBtw B hB hx16, ?_⟩
    intro x17 hx17
    refine ⟨arDBtw B hB1 hx17, ?_⟩
    intro x18 hx18
    refine ⟨arCBtw B hB2 hx18, ?_⟩
    intro x19 hx19
    refine ⟨arMDBtw B hB3 hx19, ?_⟩
    exact ⟨arMomMom B, .inl ⟨rfl, rfl, Nat.le_of_ble_eq_true (by kernel_rfl)⟩⟩

theorem rulesLater_ok {base : World} {N : Int → Int → Int → Int} (hN : NumOk base N) : ∀ x ∈ rulesLater base, RuleOk Tryz.prog base x.1 x.2 :=
  List.forall_mem_cons.2 ⟨ruleOk_at (awake_tot base), List.forall_mem_cons.2 ⟨makeD_ok, List.forall_mem_cons.2 ⟨true_ok, List.forall_mem_cons.2 ⟨same_ok base, List.forall_mem_cons.2 ⟨momE_ok, List.forall_mem_cons.2 ⟨momE_ok,
    List.forall_mem_cons.2 ⟨dayE_ok, List.forall_mem_cons.2 ⟨dayE_ok, List.forall_mem_cons.2 ⟨timeE_ok, List.forall_mem_cons.2 ⟨intE_ok, List.forall_mem_cons.2 ⟨datesB_ok hN, List.forall_mem_cons.2 ⟨intE_ok, List.forall_mem_cons.2 ⟨mbE_ok,
    List.forall_mem_cons.2 ⟨ex_ok, List.forall_mem_cons.2 ⟨null_ok, rulesC_ok opq_way (rules4_ok base)⟩⟩⟩⟩⟩⟩⟩⟩⟩⟩⟩⟩⟩⟩⟩

/-- The law's run, at every argument. -/
theorem later_calls {W : World} (hs : W.ShapedOpen Tryz.prog) (hT : Lib.TabIs Tryz.prog W "internal/strconv.uint64pow10" .u64 pow10s) (r1 r2 r3 r4 r5 : Int) (r6 : Bool) (q1 q2 q3 q4 q5 : Int) (q6 : Bool) (a : Int) (_ : rng a) :
    Calls Tryz.prog 4 #[.agg #[.int .i64 r1, .int .i64 r2, .int .i64 r3, .int .i64 r4, .int .i64 r5, .bool r6], .agg #[.int .i64 q1, .int .i64 q2, .int .i64 q3, .int .i64 q4, .int .i64 q5, .bool q6], .int .i64 a] W
      fun e w' => e = .returned (.bool true) ∧ Below W.heap.size W w' := by
  obtain ⟨N, hN⟩ := num_ex W
  exact law_calls hs hT (envB_ok (rulesLater_ok hN)) envB_loops rfl Tryz.func4 (by kernel_rfl) (List.forall_mem_cons.2 ⟨by kernel_rfl, List.forall_mem_cons.2 ⟨by kernel_rfl, pure1 (by kernel_rfl)⟩⟩)
    (later_hk' (begun_of hs hT) hN r1 r2 r3 r4 r5 q1 q2 q3 q4 q5 a r6 q6)

end Go.Proofs.YteaebpmgbpnbeaaGreatDoor
