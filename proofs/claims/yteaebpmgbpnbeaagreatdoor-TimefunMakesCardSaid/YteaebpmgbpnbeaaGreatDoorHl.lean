/-
  The law TimefunMakes: true of every moment and of all numbers.
-/
import Derived.Test.YteaebpmgbpnbeaaGreatDoorGl
import Derived.Test.YteaebpmgbpnbeaaGreatDoorHk
namespace Go.Proofs.YteaebpmgbpnbeaaGreatDoor
open Go Go.Pe Go.RowKit

theorem isV_nil {P : Prop} {v x : Value} (h : isV P v (.agg ⟨[x]⟩)) (hn : ¬ P) : x = .nilIface := by
  rcases h with ⟨hp, _⟩ | ⟨_, e⟩
  · exact absurd hp hn
  · simpa [nullV] using e

theorem isV_uniq {P : Prop} {v x y : Value} (h : isV P (.agg ⟨[v]⟩) (.agg ⟨[x]⟩)) (h2 : isV P (.agg ⟨[v]⟩) (.agg ⟨[y]⟩)) : x = y := by
  rcases h with ⟨hp, e⟩ | ⟨hn, e⟩
  · rw [isV_eq h2 hp]
    simpa using e
  · rw [isV_nil h2 hn]
    simpa [nullV] using e

theorem isV_one {P : Prop} {t : TypeId} {v x : Value} (h : isV P (.agg ⟨[.iface t v]⟩) (.agg ⟨[x]⟩)) : (List.all [x] fun x => x.oneCell') = true := by
  rcases h with ⟨_, e⟩ | ⟨_, e⟩
  · obtain rfl : x = .iface t v := by simpa using e
    rfl
  · obtain rfl : x = .nilIface := by simpa [nullV] using e
    rfl

theorem dateOf_ex (base : World) {a b c : Int} (ha : rng a) (hb : rng b) (hc : rng c) : ∃ x, Tot base 64 [intV a, intV b, intV c] (.agg ⟨[x]⟩) ∧ isVDate a b c (.agg ⟨[x]⟩) := by
  by_cases h : dateOk a b c
  · exact ⟨_, tDateOfT a b c ha hb hc h, .inl ⟨h, rfl⟩⟩
  · exact ⟨_, tDateOfF a b c ha hb hc h, .inr ⟨h, rfl⟩⟩

theorem makes_hk_ttt {base : World} (B : Begun base) {a b c f s o s2 o2 : Int} {z z2 : Bool} (r1 r2 r3 r4 r5 : Int) (r6 : Bool) (ha : rng a) (hb : rng b) (hc : rng c)
    (hOf : Tot base 67 [.int .i64 a, .int .i64 b, .int .i64 c] (.tuple #[timeC s z o, .bool true])) (hAt : Tot base 68 [timeC s z o, .int .i64 f] (.tuple #[timeC s2 z2 o2, .bool true]))
    (hs : timeOk s z o) (hs2 : timeOk s2 z2 o2) (hf : spanOk f) : ReckE (envB (rulesMakes base a b c f (.tuple #[timeC s z o, .bool true]) (timeC s z o) (.tuple #[timeC s2 z2 o2, .bool true]) true)) 30 7
      [.agg ⟨[.int .i64 r1, .int .i64 r2, .int .i64 r3, .int .i64 r4, .int .i64 r5, .bool r6]⟩, .int .i64 a, .int .i64 b, .int .i64 c, .int .i64 f] (· = .bool true) := by
  obtain ⟨xd, txd, hxd⟩ := dateOf_ex base ha hb hc
  constructor
  rw [makes_ttt fun u mw => u = .bool true ∧ Tryz.prog.globals.size ≤ mw]
  refine ⟨rfl, ?_⟩
  intro y m d s1 z1 o1 hd ht
  refine ⟨rfl, ?_⟩
  intro x hx x1 hx1 x2 hx2
  obtain rfl := isV_eq hx ⟨hd, ht⟩
  obtain rfl := isV_eq hx1 hd
  obtain rfl := isV_eq hx2 ht
  refine ⟨rfl, rfl, rfl, rfl, _, tDateM _ _ _ _ _ _ hd ht, rfl, plainly_date B hd, _, tDateD _ _ _ hd, rfl, plainly_date B hd, _, tTimeM _ _ _ _ _ _ hd ht, rfl, plainly_time B ht, _, tTimeT _ _ _ ht, rfl, plainly_time B ht, _, tTimeD _ _ _ hd, ?_⟩
  intro x8 hx8
  obtain rfl := isV_eq hx8 zero_time'
  refine ⟨rfl, plainly_time B zero_time', _, tMomentM _ _ _ _ _ _ hd ht, rfl, plainly_moment B hd ht, _, tMomentD _ _ _ hd, ?_⟩
  intro x11 hx11
  obtain rfl := isV_eq hx11 ⟨hd, zero_time'⟩
  refine ⟨rfl, plainly_moment B hd zero_time', _, tMomOfM _ _ _ _ _ _ _ _ _ hd ht, rfl, plainly_moment B hd ht, _, tMomOfD _ _ _ _ _ _ hd ht, rfl, plainly_moment B hd ht, ha, hb, hc, xd, txd, isV_one hxd, ha, hb, hc, ?_⟩
  refine ⟨_, tTimeOfT _ _ _ _ _ _ _ _ _ _ _ _ ha hb hc hOf hAt hs, rfl, ha, hb, hc, ?_⟩
  intro x16 hx16
  obtain rfl := isV_eq hx16 hf
  refine ⟨_, tTimeAtTT _ _ _ _ _ _ _ _ _ _ _ ha hb hc hOf hAt hs2, rfl, rfl, rfl, rfl, rfl, ?_⟩
  intro x18 hx18
  obtain rfl := isV_eq hx18 hs
  refine ⟨rfl, ?_⟩
  intro x19 hx19
  obtain rfl := isV_eq hx19 hs2
  refine ⟨rfl, rfl, ?_⟩
  intro x20 hx20
  refine ⟨isV_uniq hxd hx20, plainly_isV B (plainly_date B) hxd, rfl, plainly_time B hs, rfl, plainly_time B hs2, ?_⟩
  exact ⟨_, tDateOfN _ _ _ _ _ _, .inl ⟨rfl, _, tMomOfN _ _ _ _ _ _, .inl ⟨rfl, rfl, Nat.le_of_ble_eq_true (by kernel_rfl)⟩⟩⟩

theorem makes_hk_ttf {base : World} (B : Begun base) {a b c f s o s2 o2 : Int} {z z2 : Bool} (r1 r2 r3 r4 r5 : Int) (r6 : Bool) (ha : rng a) (hb : rng b) (hc : rng c)
    (hOf : Tot base 67 [.int .i64 a, .int .i64 b, .int .i64 c] (.tuple #[timeC s z o, .bool true])) (hAt : Tot base 68 [timeC s z o, .int .i64 f] (.tuple #[timeC s2 z2 o2, .bool true]))
    (hs : timeOk s z o) (hs2 : timeOk s2 z2 o2) (hf : ¬ spanOk f) : ReckE (envB (rulesMakes base a b c f (.tuple #[timeC s z o, .bool true]) (timeC s z o) (.tuple #[timeC s2 z2 o2, .bool true]) false)) 30 7
      [.agg ⟨[.int .i64 r1, .int .i64 r2, .int .i64 r3, .int .i64 r4, .int .i64 r5, .bool r6]⟩, .int .i64 a, .int .i64 b, .int .i64 c, .int .i64 f] (· = .bool true) := by
  obtain ⟨xd, txd, hxd⟩ := dateOf_ex base ha hb hc
  constructor
  rw [makes_ttf fun u mw => u = .bool true ∧ Tryz.prog.globals.size ≤ mw]
  refine ⟨rfl, ?_⟩
  intro y m d s1 z1 o1 hd ht
  refine ⟨rfl, ?_⟩
  intro x hx x1 hx1 x2 hx2
  obtain rfl := isV_eq hx ⟨hd, ht⟩
  obtain rfl := isV_eq hx1 hd
  obtain rfl := isV_eq hx2 ht
  refine ⟨rfl, rfl, rfl, rfl, _, tDateM _ _ _ _ _ _ hd ht, rfl, plainly_date B hd, _, tDateD _ _ _ hd, rfl, plainly_date B hd, _, tTimeM _ _ _ _ _ _ hd ht, rfl, plainly_time B ht, _, tTimeT _ _ _ ht, rfl, plainly_time B ht, _, tTimeD _ _ _ hd, ?_⟩
  intro x8 hx8
  obtain rfl := isV_eq hx8 zero_time'
  refine ⟨rfl, plainly_time B zero_time', _, tMomentM _ _ _ _ _ _ hd ht, rfl, plainly_moment B hd ht, _, tMomentD _ _ _ hd, ?_⟩
  intro x11 hx11
  obtain rfl := isV_eq hx11 ⟨hd, zero_time'⟩
  refine ⟨rfl, plainly_moment B hd zero_time', _, tMomOfM _ _ _ _ _ _ _ _ _ hd ht, rfl, plainly_moment B hd ht, _, tMomOfD _ _ _ _ _ _ hd ht, rfl, plainly_moment B hd ht, ha, hb, hc, xd, txd, isV_one hxd, ha, hb, hc, ?_⟩
  refine ⟨_, tTimeOfT _ _ _ _ _ _ _ _ _ _ _ _ ha hb hc hOf hAt hs, rfl, ha, hb, hc, ?_⟩
  intro x16 hx16
  obtain rfl := isV_nil hx16 hf
  refine ⟨_, tTimeOfT _ _ _ _ _ _ _ _ _ _ _ _ ha hb hc hOf hAt hs, rfl, rfl, rfl, rfl, rfl, ?_⟩
  intro x18 hx18
  obtain rfl := isV_eq hx18 hs
  refine ⟨rfl, ?_⟩
  intro x19 hx19
  refine ⟨isV_one hx19, rfl, rfl, ?_⟩
  intro x20 hx20
  refine ⟨isV_uniq hxd hx20, plainly_isV B (plainly_date B) hxd, rfl, plainly_time B hs, rfl, plainly_time B hs, ?_⟩
  exact ⟨_, tDateOfN _ _ _ _ _ _, .inl ⟨rfl, _, tMomOfN _ _ _ _ _ _, .inl ⟨rfl, rfl, Nat.le_of_ble_eq_true (by kernel_rfl)⟩⟩⟩

theorem makes_hk_tft {base : World} (B : Begun base) {a b c f s o s2 o2 : Int} {z z2 : Bool} (r1 r2 r3 r4 r5 : Int) (r6 : Bool) (ha : rng a) (hb : rng b) (hc : rng c)
    (hOf : Tot base 67 [.int .i64 a, .int .i64 b, .int .i64 c] (.tuple #[timeC s z o, .bool true])) (hAt : Tot base 68 [timeC s z o, .int .i64 f] (.tuple #[timeC s2 z2 o2, .bool false]))
    (hs : timeOk s z o) (hf : spanOk f) : ReckE (envB (rulesMakes base a b c f (.tuple #[timeC s z o, .bool true]) (timeC s z o) (.tuple #[timeC s2 z2 o2, .bool false]) true)) 30 7
      [.agg ⟨[.int .i64 r1, .int .i64 r2, .int .i64 r3, .int .i64 r4, .int .i64 r5, .bool r6]⟩, .int .i64 a, .int .i64 b, .int .i64 c, .int .i64 f] (· = .bool true) := by
  obtain ⟨xd, txd, hxd⟩ := dateOf_ex base ha hb hc
  constructor
  rw [makes_tft fun u mw => u = .bool true ∧ Tryz.prog.globals.size ≤ mw]
  refine ⟨rfl, ?_⟩
  intro y m d s1 z1 o1 hd ht
  refine ⟨rfl, ?_⟩
  intro x hx x1 hx1 x2 hx2
  obtain rfl := isV_eq hx ⟨hd, ht⟩
  obtain rfl := isV_eq hx1 hd
  obtain rfl := isV_eq hx2 ht
  refine ⟨rfl, rfl, rfl, rfl, _, tDateM _ _ _ _ _ _ hd ht, rfl, plainly_date B hd, _, tDateD _ _ _ hd, rfl, plainly_date B hd, _, tTimeM _ _ _ _ _ _ hd ht, rfl, plainly_time B ht, _, tTimeT _ _ _ ht, rfl, plainly_time B ht, _, tTimeD _ _ _ hd, ?_⟩
  intro x8 hx8
  obtain rfl := isV_eq hx8 zero_time'
  refine ⟨rfl, plainly_time B zero_time', _, tMomentM _ _ _ _ _ _ hd ht, rfl, plainly_moment B hd ht, _, tMomentD _ _ _ hd, ?_⟩
  intro x11 hx11
  obtain rfl := isV_eq hx11 ⟨hd, zero_time'⟩
  refine ⟨rfl, plainly_moment B hd zero_time', _, tMomOfM _ _ _ _ _ _ _ _ _ hd ht, rfl, plainly_moment B hd ht, _, tMomOfD _ _ _ _ _ _ hd ht, rfl, plainly_moment B hd ht, ha, hb, hc, xd, txd, isV_one hxd, ha, hb, hc, ?_⟩
  refine ⟨_, tTimeOfT _ _ _ _ _ _ _ _ _ _ _ _ ha hb hc hOf hAt hs, rfl, ha, hb, hc, ?_⟩
  intro x16 hx16
  obtain rfl := isV_eq hx16 hf
  refine ⟨_, tTimeAtTF _ _ _ _ _ _ _ _ _ _ _ ha hb hc hOf hAt, rfl, rfl, rfl, rfl, rfl, ?_⟩
  intro x18 hx18
  obtain rfl := isV_eq hx18 hs
  refine ⟨rfl, ?_⟩
  intro x19 hx19
  refine ⟨isV_one hx19, rfl, rfl, rfl, ?_⟩
  intro x20 hx20
  refine ⟨isV_uniq hxd hx20, plainly_isV B (plainly_date B) hxd, rfl, plainly_time B hs, rfl, plainly_null B, ?_⟩
  exact ⟨_, tDateOfN _ _ _ _ _ _, .inl ⟨rfl, _, tMomOfN _ _ _ _ _ _, .inl ⟨rfl, rfl, Nat.le_of_ble_eq_true (by kernel_rfl)⟩⟩⟩

theorem makes_hk_tff {base : World} (B : Begun base) {a b c f s o s2 o2 : Int} {z z2 : Bool} (r1 r2 r3 r4 r5 : Int) (r6 : Bool) (ha : rng a) (hb : rng b) (hc : rng c)
    (hOf : Tot base 67 [.int .i64 a, .int .i64 b, .int .i64 c] (.tuple #[timeC s z o, .bool true])) (hAt : Tot base 68 [timeC s z o, .int .i64 f] (.tuple #[timeC s2 z2 o2, .bool false]))
    (hs : timeOk s z o) (hf : ¬ spanOk f) : ReckE (envB (rulesMakes base a b c f (.tuple #[timeC s z o, .bool true]) (timeC s z o) (.tuple #[timeC s2 z2 o2, .bool false]) false)) 30 7
      [.agg ⟨[.int .i64 r1, .int .i64 r2, .int .i64 r3, .int .i64 r4, .int .i64 r5, .bool r6]⟩, .int .i64 a, .int .i64 b, .int .i64 c, .int .i64 f] (· = .bool true) := by
  obtain ⟨xd, txd, hxd⟩ := dateOf_ex base ha hb hc
  constructor
  rw [makes_tff fun u mw => u = .bool true ∧ Tryz.prog.globals.size ≤ mw]
  refine ⟨rfl, ?_⟩
  intro y m d s1 z1 o1 hd ht
  refine ⟨rfl, ?_⟩
  intro x hx x1 hx1 x2 hx2
  obtain rfl := isV_eq hx ⟨hd, ht⟩
  obtain rfl := isV_eq hx1 hd
  obtain rfl := isV_eq hx2 ht
  refine ⟨rfl, rfl, rfl, rfl, _, tDateM _ _ _ _ _ _ hd ht, rfl, plainly_date B hd, _, tDateD _ _ _ hd, rfl, plainly_date B hd, _, tTimeM _ _ _ _ _ _ hd ht, rfl, plainly_time B ht, _, tTimeT _ _ _ ht, rfl, plainly_time B ht, _, tTimeD _ _ _ hd, ?_⟩
  intro x8 hx8
  obtain rfl := isV_eq hx8 zero_time'
  refine ⟨rfl, plainly_time B zero_time', _, tMomentM _ _ _ _ _ _ hd ht, rfl, plainly_moment B hd ht, _, tMomentD _ _ _ hd, ?_⟩
  intro x11 hx11
  obtain rfl := isV_eq hx11 ⟨hd, zero_time'⟩
  refine ⟨rfl, plainly_moment B hd zero_time', _, tMomOfM _ _ _ _ _ _ _ _ _ hd ht, rfl, plainly_moment B hd ht, _, tMomOfD _ _ _ _ _ _ hd ht, rfl, plainly_moment B hd ht, ha, hb, hc, xd, txd, isV_one hxd, ha, hb, hc, ?_⟩
  refine ⟨_, tTimeOfT _ _ _ _ _ _ _ _ _ _ _ _ ha hb hc hOf hAt hs, rfl, ha, hb, hc, ?_⟩
  intro x16 hx16
  obtain rfl := isV_nil hx16 hf
  refine ⟨_, tTimeOfT _ _ _ _ _ _ _ _ _ _ _ _ ha hb hc hOf hAt hs, rfl, rfl, rfl, rfl, rfl, ?_⟩
  intro x18 hx18
  obtain rfl := isV_eq hx18 hs
  refine ⟨rfl, ?_⟩
  intro x19 hx19
  refine ⟨isV_one hx19, rfl, rfl, rfl, ?_⟩
  intro x20 hx20
  refine ⟨isV_uniq hxd hx20, plainly_isV B (plainly_date B) hxd, rfl, plainly_time B hs, rfl, plainly_time B hs, ?_⟩
  exact ⟨_, tDateOfN _ _ _ _ _ _, .inl ⟨rfl, _, tMomOfN _ _ _ _ _ _, .inl ⟨rfl, rfl, Nat.le_of_ble_eq_true (by kernel_rfl)⟩⟩⟩

theorem makes_hk_ftt {base : World} (B : Begun base) {a b c f s o s2 o2 : Int} {z z2 : Bool} (r1 r2 r3 r4 r5 : Int) (r6 : Bool) (ha : rng a) (hb : rng b) (hc : rng c)
    (hOf : Tot base 67 [.int .i64 a, .int .i64 b, .int .i64 c] (.tuple #[timeC s z o, .bool false])) (hAt : Tot base 68 [timeC s z o, .int .i64 f] (.tuple #[timeC s2 z2 o2, .bool true]))
    (hs2 : timeOk s2 z2 o2) (hf : spanOk f) : ReckE (envB (rulesMakes base a b c f (.tuple #[timeC s z o, .bool false]) (timeC s z o) (.tuple #[timeC s2 z2 o2, .bool true]) true)) 30 7
      [.agg ⟨[.int .i64 r1, .int .i64 r2, .int .i64 r3, .int .i64 r4, .int .i64 r5, .bool r6]⟩, .int .i64 a, .int .i64 b, .int .i64 c, .int .i64 f] (· = .bool true) := by
  obtain ⟨xd, txd, hxd⟩ := dateOf_ex base ha hb hc
  constructor
  rw [makes_ftt fun u mw => u = .bool true ∧ Tryz.prog.globals.size ≤ mw]
  refine ⟨rfl, ?_⟩
  intro y m d s1 z1 o1 hd ht
  refine ⟨rfl, ?_⟩
  intro x hx x1 hx1 x2 hx2
  obtain rfl := isV_eq hx ⟨hd, ht⟩
  obtain rfl := isV_eq hx1 hd
  obtain rfl := isV_eq hx2 ht
  refine ⟨rfl, rfl, rfl, rfl, _, tDateM _ _ _ _ _ _ hd ht, rfl, plainly_date B hd, _, tDateD _ _ _ hd, rfl, plainly_date B hd, _, tTimeM _ _ _ _ _ _ hd ht, rfl, plainly_time B ht, _, tTimeT _ _ _ ht, rfl, plainly_time B ht, _, tTimeD _ _ _ hd, ?_⟩
  intro x8 hx8
  obtain rfl := isV_eq hx8 zero_time'
  refine ⟨rfl, plainly_time B zero_time', _, tMomentM _ _ _ _ _ _ hd ht, rfl, plainly_moment B hd ht, _, tMomentD _ _ _ hd, ?_⟩
  intro x11 hx11
  obtain rfl := isV_eq hx11 ⟨hd, zero_time'⟩
  refine ⟨rfl, plainly_moment B hd zero_time', _, tMomOfM _ _ _ _ _ _ _ _ _ hd ht, rfl, plainly_moment B hd ht, _, tMomOfD _ _ _ _ _ _ hd ht, rfl, plainly_moment B hd ht, ha, hb, hc, xd, txd, isV_one hxd, ha, hb, hc, ?_⟩
  refine ⟨_, tTimeOfF _ _ _ _ _ _ _ _ _ _ _ _ ha hb hc hOf hAt, rfl, ha, hb, hc, ?_⟩
  intro x16 hx16
  obtain rfl := isV_eq hx16 hf
  refine ⟨_, tTimeAtF _ _ _ _ _ _ _ _ _ _ _ _ ha hb hc hOf hAt, rfl, rfl, rfl, rfl, rfl, ?_⟩
  intro x18 hx18
  refine ⟨isV_one hx18, rfl, ?_⟩
  intro x19 hx19
  refine ⟨isV_one hx19, rfl, rfl, ?_⟩
  intro x20 hx20
  refine ⟨isV_uniq hxd hx20, plainly_isV B (plainly_date B) hxd, rfl, plainly_null B, rfl, plainly_null B, ?_⟩
  exact ⟨_, tDateOfN _ _ _ _ _ _, .inl ⟨rfl, _, tMomOfN _ _ _ _ _ _, .inl ⟨rfl, rfl, Nat.le_of_ble_eq_true (by kernel_rfl)⟩⟩⟩

theorem makes_hk_ftf {base : World} (B : Begun base) {a b c f s o s2 o2 : Int} {z z2 : Bool} (r1 r2 r3 r4 r5 : Int) (r6 : Bool) (ha : rng a) (hb : rng b) (hc : rng c)
    (hOf : Tot base 67 [.int .i64 a, .int .i64 b, .int .i64 c] (.tuple #[timeC s z o, .bool false])) (hAt : Tot base 68 [timeC s z o, .int .i64 f] (.tuple #[timeC s2 z2 o2, .bool true]))
    (hs2 : timeOk s2 z2 o2) (hf : ¬ spanOk f) : ReckE (envB (rulesMakes base a b c f (.tuple #[timeC s z o, .bool false]) (timeC s z o) (.tuple #[timeC s2 z2 o2, .bool true]) false)) 30 7
      [.agg ⟨[.int .i64 r1, .int .i64 r2, .int .i64 r3, .int .i64 r4, .int .i64 r5, .bool r6]⟩, .int .i64 a, .int .i64 b, .int .i64 c, .int .i64 f] (· = .bool true) := by
  obtain ⟨xd, txd, hxd⟩ := dateOf_ex base ha hb hc
  constructor
  rw [makes_ftf fun u mw => u = .bool true ∧ Tryz.prog.globals.size ≤ mw]
  refine ⟨rfl, ?_⟩
  intro y m d s1 z1 o1 hd ht
  refine ⟨rfl, ?_⟩
  intro x hx x1 hx1 x2 hx2
  obtain rfl := isV_eq hx ⟨hd, ht⟩
  obtain rfl := isV_eq hx1 hd
  obtain rfl := isV_eq hx2 ht
  refine ⟨rfl, rfl, rfl, rfl, _, tDateM _ _ _ _ _ _ hd ht, rfl, plainly_date B hd, _, tDateD _ _ _ hd, rfl, plainly_date B hd, _, tTimeM _ _ _ _ _ _ hd ht, rfl, plainly_time B ht, _, tTimeT _ _ _ ht, rfl, plainly_time B ht, _, tTimeD _ _ _ hd, ?_⟩
  intro x8 hx8
  obtain rfl := isV_eq hx8 zero_time'
  refine ⟨rfl, plainly_time B zero_time', _, tMomentM _ _ _ _ _ _ hd ht, rfl, plainly_moment B hd ht, _, tMomentD _ _ _ hd, ?_⟩
  intro x11 hx11
  obtain rfl := isV_eq hx11 ⟨hd, zero_time'⟩
  refine ⟨rfl, plainly_moment B hd zero_time', _, tMomOfM _ _ _ _ _ _ _ _ _ hd ht, rfl, plainly_moment B hd ht, _, tMomOfD _ _ _ _ _ _ hd ht, rfl, plainly_moment B hd ht, ha, hb, hc, xd, txd, isV_one hxd, ha, hb, hc, ?_⟩
  refine ⟨_, tTimeOfF _ _ _ _ _ _ _ _ _ _ _ _ ha hb hc hOf hAt, rfl, ha, hb, hc, ?_⟩
  intro x16 hx16
  obtain rfl := isV_nil hx16 hf
  refine ⟨_, tTimeOfF _ _ _ _ _ _ _ _ _ _ _ _ ha hb hc hOf hAt, rfl, rfl, rfl, rfl, rfl, ?_⟩
  intro x18 hx18
  refine ⟨isV_one hx18, rfl, ?_⟩
  intro x19 hx19
  refine ⟨isV_one hx19, rfl, rfl, rfl, ?_⟩
  intro x20 hx20
  refine ⟨isV_uniq hxd hx20, plainly_isV B (plainly_date B) hxd, rfl, plainly_null B, rfl, plainly_null B, ?_⟩
  exact ⟨_, tDateOfN _ _ _ _ _ _, .inl ⟨rfl, _, tMomOfN _ _ _ _ _ _, .inl ⟨rfl, rfl, Nat.le_of_ble_eq_true (by kernel_rfl)⟩⟩⟩

theorem makes_hk_fft {base : World} (B : Begun base) {a b c f s o s2 o2 : Int} {z z2 : Bool} (r1 r2 r3 r4 r5 : Int) (r6 : Bool) (ha : rng a) (hb : rng b) (hc : rng c)
    (hOf : Tot base 67 [.int .i64 a, .int .i64 b, .int .i64 c] (.tuple #[timeC s z o, .bool false])) (hAt : Tot base 68 [timeC s z o, .int .i64 f] (.tuple #[timeC s2 z2 o2, .bool false]))
    (hf : spanOk f) : ReckE (envB (rulesMakes base a b c f (.tuple #[timeC s z o, .bool false]) (timeC s z o) (.tuple #[timeC s2 z2 o2, .bool false]) true)) 30 7
      [.agg ⟨[.int .i64 r1, .int .i64 r2, .int .i64 r3, .int .i64 r4, .int .i64 r5, .bool r6]⟩, .int .i64 a, .int .i64 b, .int .i64 c, .int .i64 f] (· = .bool true) := by
  obtain ⟨xd, txd, hxd⟩ := dateOf_ex base ha hb hc
  constructor
  rw [makes_fft fun u mw => u = .bool true ∧ Tryz.prog.globals.size ≤ mw]
  refine ⟨rfl, ?_⟩
  intro y m d s1 z1 o1 hd ht
  refine ⟨rfl, ?_⟩
  intro x hx x1 hx1 x2 hx2
  obtain rfl := isV_eq hx ⟨hd, ht⟩
  obtain rfl := isV_eq hx1 hd
  obtain rfl := isV_eq hx2 ht
  refine ⟨rfl, rfl, rfl, rfl, _, tDateM _ _ _ _ _ _ hd ht, rfl, plainly_date B hd, _, tDateD _ _ _ hd, rfl, plainly_date B hd, _, tTimeM _ _ _ _ _ _ hd ht, rfl, plainly_time B ht, _, tTimeT _ _ _ ht, rfl, plainly_time B ht, _, tTimeD _ _ _ hd, ?_⟩
  intro x8 hx8
  obtain rfl := isV_eq hx8 zero_time'
  refine ⟨rfl, plainly_time B zero_time', _, tMomentM _ _ _ _ _ _ hd ht, rfl, plainly_moment B hd ht, _, tMomentD _ _ _ hd, ?_⟩
  intro x11 hx11
  obtain rfl := isV_eq hx11 ⟨hd, zero_time'⟩
  refine ⟨rfl, plainly_moment B hd zero_time', _, tMomOfM _ _ _ _ _ _ _ _ _ hd ht, rfl, plainly_moment B hd ht, _, tMomOfD _ _ _ _ _ _ hd ht, rfl, plainly_moment B hd ht, ha, hb, hc, xd, txd, isV_one hxd, ha, hb, hc, ?_⟩
  refine ⟨_, tTimeOfF _ _ _ _ _ _ _ _ _ _ _ _ ha hb hc hOf hAt, rfl, ha, hb, hc, ?_⟩
  intro x16 hx16
  obtain rfl := isV_eq hx16 hf
  refine ⟨_, tTimeAtF _ _ _ _ _ _ _ _ _ _ _ _ ha hb hc hOf hAt, rfl, rfl, rfl, rfl, rfl, ?_⟩
  intro x18 hx18
  refine ⟨isV_one hx18, rfl, ?_⟩
  intro x19 hx19
  refine ⟨isV_one hx19, rfl, rfl, ?_⟩
  intro x20 hx20
  refine ⟨isV_uniq hxd hx20, plainly_isV B (plainly_date B) hxd, rfl, plainly_null B, rfl, plainly_null B, ?_⟩
  exact ⟨_, tDateOfN _ _ _ _ _ _, .inl ⟨rfl, _, tMomOfN _ _ _ _ _ _, .inl ⟨rfl, rfl, Nat.le_of_ble_eq_true (by kernel_rfl)⟩⟩⟩

theorem makes_hk_fff {base : World} (B : Begun base) {a b c f s o s2 o2 : Int} {z z2 : Bool} (r1 r2 r3 r4 r5 : Int) (r6 : Bool) (ha : rng a) (hb : rng b) (hc : rng c)
    (hOf : Tot base 67 [.int .i64 a, .int .i64 b, .int .i64 c] (.tuple #[timeC s z o, .bool false])) (hAt : Tot base 68 [timeC s z o, .int .i64 f] (.tuple #[timeC s2 z2 o2, .bool false]))
    (hf : ¬ spanOk f) : ReckE (envB (rulesMakes base a b c f (.tuple #[timeC s z o, .bool false]) (timeC s z o) (.tuple #[timeC s2 z2 o2, .bool false]) false)) 30 7
      [.agg ⟨[.int .i64 r1, .int .i64 r2, .int .i64 r3, .int .i64 r4, .int .i64 r5, .bool r6]⟩, .int .i64 a, .int .i64 b, .int .i64 c, .int .i64 f] (· = .bool true) := by
  obtain ⟨xd, txd, hxd⟩ := dateOf_ex base ha hb hc
  constructor
  rw [makes_fff fun u mw => u = .bool true ∧ Tryz.prog.globals.size ≤ mw]
  refine ⟨rfl, ?_⟩
  intro y m d s1 z1 o1 hd ht
  refine ⟨rfl, ?_⟩
  intro x hx x1 hx1 x2 hx2
  obtain rfl := isV_eq hx ⟨hd, ht⟩
  obtain rfl := isV_eq hx1 hd
  obtain rfl := isV_eq hx2 ht
  refine ⟨rfl, rfl, rfl, rfl, _, tDateM _ _ _ _ _ _ hd ht, rfl, plainly_date B hd, _, tDateD _ _ _ hd, rfl, plainly_date B hd, _, tTimeM _ _ _ _ _ _ hd ht, rfl, plainly_time B ht, _, tTimeT _ _ _ ht, rfl, plainly_time B ht, _, tTimeD _ _ _ hd, ?_⟩
  intro x8 hx8
  obtain rfl := isV_eq hx8 zero_time'
  refine ⟨rfl, plainly_time B zero_time', _, tMomentM _ _ _ _ _ _ hd ht, rfl, plainly_moment B hd ht, _, tMomentD _ _ _ hd, ?_⟩
  intro x11 hx11
  obtain rfl := isV_eq hx11 ⟨hd, zero_time'⟩
  refine ⟨rfl, plainly_moment B hd zero_time', _, tMomOfM _ _ _ _ _ _ _ _ _ hd ht, rfl, plainly_moment B hd ht, _, tMomOfD _ _ _ _ _ _ hd ht, rfl, plainly_moment B hd ht, ha, hb, hc, xd, txd, isV_one hxd, ha, hb, hc, ?_⟩
  refine ⟨_, tTimeOfF _ _ _ _ _ _ _ _ _ _ _ _ ha hb hc hOf hAt, rfl, ha, hb, hc, ?_⟩
  intro x16 hx16
  obtain rfl := isV_nil hx16 hf
  refine ⟨_, tTimeOfF _ _ _ _ _ _ _ _ _ _ _ _ ha hb hc hOf hAt, rfl, rfl, rfl, rfl, rfl, ?_⟩
  intro x18 hx18
  refine ⟨isV_one hx18, rfl, ?_⟩
  intro x19 hx19
  refine ⟨isV_one hx19, rfl, rfl, rfl, ?_⟩
  intro x20 hx20
  refine ⟨isV_uniq hxd hx20, plainly_isV B (plainly_date B) hxd, rfl, plainly_null B, rfl, plainly_null B, ?_⟩
  exact ⟨_, tDateOfN _ _ _ _ _ _, .inl ⟨rfl, _, tMomOfN _ _ _ _ _ _, .inl ⟨rfl, rfl, Nat.le_of_ble_eq_true (by kernel_rfl)⟩⟩⟩

theorem rulesMakes_ok {base : World} {a b c f : Int} {vw aw vu : Value} {may : Bool} (h1 : Tot base 67 [.int .i64 a, .int .i64 b, .int .i64 c] vw) (h2 : Tot base 68 [aw, .int .i64 f] vu) (h3 : Tot base 69 [.int .i64 f] (.bool may)) :
    ∀ x ∈ rulesMakes base a b c f vw aw vu may, RuleOk Tryz.prog base x.1 x.2 :=
  List.forall_mem_cons.2 ⟨ruleOk_at (awake_tot base), List.forall_mem_cons.2 ⟨makeD_ok, List.forall_mem_cons.2 ⟨same_ok base, List.forall_mem_cons.2 ⟨ex_ok, List.forall_mem_cons.2 ⟨ex_ok, List.forall_mem_cons.2 ⟨ex_ok,
    List.forall_mem_cons.2 ⟨ex_ok, List.forall_mem_cons.2 ⟨ex_ok, List.forall_mem_cons.2 ⟨ex_ok, List.forall_mem_cons.2 ⟨ruleOk_at h1, List.forall_mem_cons.2 ⟨ruleOk_at h2, List.forall_mem_cons.2 ⟨ruleOk_at h3,
    List.forall_mem_cons.2 ⟨null_ok, rulesC_ok opq_way (rules4_ok base)⟩⟩⟩⟩⟩⟩⟩⟩⟩⟩⟩⟩⟩

theorem makes_calls {W : World} (hs : W.ShapedOpen Tryz.prog) (hT : Lib.TabIs Tryz.prog W "internal/strconv.uint64pow10" .u64 pow10s) (r1 r2 r3 r4 r5 : Int) (r6 : Bool) (a : Int) (ha : rng a) (b : Int) (hb : rng b) (c : Int) (hc : rng c) (f : Int) (_ : rng f) :
    Calls Tryz.prog 7 #[.agg #[.int .i64 r1, .int .i64 r2, .int .i64 r3, .int .i64 r4, .int .i64 r5, .bool r6], .int .i64 a, .int .i64 b, .int .i64 c, .int .i64 f] W fun e w' => e = .returned (.bool true) ∧ Below W.heap.size W w' := by
  have B := begun_of hs hT
  obtain ⟨_, ⟨s, z, o, ok, rfl, h1⟩, t1⟩ := tot_ofE (base := W) (env_ok (rules1_ok W)) env_loops rfl (clockOf_hk a b c) isTimeB_pure (List.forall_mem_cons.2 ⟨by kernel_rfl, List.forall_mem_cons.2 ⟨by kernel_rfl, pure1 (by kernel_rfl)⟩⟩)
  obtain ⟨_, ⟨s2, z2, o2, fine, rfl, h2⟩, t2⟩ := tot_ofE (base := W) (env_ok (rulesV1_ok W)) env_loops rfl (clockAt_hk s o f z) isTimeB_pure (List.forall_mem_cons.2 ⟨by kernel_rfl, pure1 (by kernel_rfl)⟩)
  obtain ⟨_, ⟨may, rfl, h3⟩, t3⟩ := tot_ofE (base := W) (env_ok (rules1_ok W)) env_loops rfl (spanMay_hk f) isMayN_pure (pure1 (by kernel_rfl))
  have pa : ∀ x ∈ [Value.agg ⟨[.int .i64 r1, .int .i64 r2, .int .i64 r3, .int .i64 r4, .int .i64 r5, .bool r6]⟩, .int .i64 a, .int .i64 b, .int .i64 c, .int .i64 f], pureV 6 x = true :=
    List.forall_mem_cons.2 ⟨by kernel_rfl, List.forall_mem_cons.2 ⟨by kernel_rfl, List.forall_mem_cons.2 ⟨by kernel_rfl, List.forall_mem_cons.2 ⟨by kernel_rfl, pure1 (by kernel_rfl)⟩⟩⟩⟩
  refine law_calls (d := 30) hs hT (envB_ok (rulesMakes_ok t1 t2 t3)) envB_loops rfl Tryz.func7 (by kernel_rfl) pa ?_
  cases ok <;> cases fine <;> cases may
  · exact makes_hk_fff B r1 r2 r3 r4 r5 r6 ha hb hc t1 t2 (fun h => Bool.noConfusion (h3.2 h))
  · exact makes_hk_fft B r1 r2 r3 r4 r5 r6 ha hb hc t1 t2 (h3.1 rfl)
  · exact makes_hk_ftf B r1 r2 r3 r4 r5 r6 ha hb hc t1 t2 (h2 rfl) (fun h => Bool.noConfusion (h3.2 h))
  · exact makes_hk_ftt B r1 r2 r3 r4 r5 r6 ha hb hc t1 t2 (h2 rfl) (h3.1 rfl)
  · exact makes_hk_tff B r1 r2 r3 r4 r5 r6 ha hb hc t1 t2 (h1 rfl) (fun h => Bool.noConfusion (h3.2 h))
  · exact makes_hk_tft B r1 r2 r3 r4 r5 r6 ha hb hc t1 t2 (h1 rfl) (h3.1 rfl)
  · exact makes_hk_ttf B r1 r2 r3 r4 r5 r6 ha hb hc t1 t2 (h1 rfl) (h2 rfl) (fun h => Bool.noConfusion (h3.2 h))
  · exact makes_hk_ttt B r1 r2 r3 r4 r5 r6 ha hb hc t1 t2 (h1 rfl) (h2 rfl) (h3.1 rfl)

end Go.Proofs.YteaebpmgbpnbeaaGreatDoor
