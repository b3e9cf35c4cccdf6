/-
  The law TimefunParts returns true: the statement's card.
-/
import Derived.Test.YthcjocelokjifaaGreatDoorEk
import Derived.Test.YthcjocelokjifaaGreatDoorEl
import Derived.Test.YthcjocelokjifaaGreatDoorEm
import Derived.ChangeMaps5
namespace Go.Proofs.YthcjocelokjifaaGreatDoor
open Go Go.Pe Go.RowKit Go.ChangeShapes Go.WideShapes Go.ChangeAt

theorem rng_tmod60 (x : Int) : rng (Int.tmod x 60) := by
  obtain ⟨h1, h2, _⟩ := tmodB x 60 (by decide)
  unfold rng
  omega

theorem day_texty {w : Int} (h1 : 1 ≤ w) (h2 : w ≤ 7) : Texty (strAt [some (.string (bs [77, 111, 110, 100, 97, 121])), some (.string (bs [84, 117, 101, 115, 100, 97, 121])), some (.string (bs [87, 101, 100, 110, 101, 115, 100, 97, 121])), some (.string (bs [84, 104, 117, 114, 115, 100, 97, 121])), some (.string (bs [70, 114, 105, 100, 97, 121])), some (.string (bs [83, 97, 116, 117, 114, 100, 97, 121])), some (.string (bs [83, 117, 110, 100, 97, 121]))] (0 + (IntKind.wrap .i64 (w - 1)).toNat * 1)) := by
  have : w = 1 ∨ w = 2 ∨ w = 3 ∨ w = 4 ∨ w = 5 ∨ w = 6 ∨ w = 7 := by omega
  rcases this with rfl | rfl | rfl | rfl | rfl | rfl | rfl
  · exact tx1
  · exact tx2
  · exact tx3
  · exact tx4
  · exact tx5
  · exact tx6
  · exact tx7

theorem month_texty {m : Int} (h1 : 1 ≤ m) (h2 : m ≤ 12) : Texty (strAt [some (.string (bs [74, 97, 110, 117, 97, 114, 121])), some (.string (bs [70, 101, 98, 114, 117, 97, 114, 121])), some (.string (bs [77, 97, 114, 99, 104])), some (.string (bs [65, 112, 114, 105, 108])), some (.string (bs [77, 97, 121])), some (.string (bs [74, 117, 110, 101])), some (.string (bs [74, 117, 108, 121])), some (.string (bs [65, 117, 103, 117, 115, 116])), some (.string (bs [83, 101, 112, 116, 101, 109, 98, 101, 114])), some (.string (bs [79, 99, 116, 111, 98, 101, 114])), some (.string (bs [78, 111, 118, 101, 109, 98, 101, 114])), some (.string (bs [68, 101, 99, 101, 109, 98, 101, 114]))] (0 + (IntKind.wrap .i64 (m - 1)).toNat * 1)) := by
  have : m = 1 ∨ m = 2 ∨ m = 3 ∨ m = 4 ∨ m = 5 ∨ m = 6 ∨ m = 7 ∨ m = 8 ∨ m = 9 ∨ m = 10 ∨ m = 11 ∨ m = 12 := by omega
  rcases this with rfl | rfl | rfl | rfl | rfl | rfl | rfl | rfl | rfl | rfl | rfl | rfl
  · exact tm1
  · exact tm2
  · exact tm3
  · exact tm4
  · exact tm5
  · exact tm6
  · exact tm7
  · exact tm8
  · exact tm9
  · exact tm10
  · exact tm11
  · exact tm12

section
variable {base : World} {r1 r2 r3 r4 r5 r6 : Value} {y m d s o w j k : Int} {t : ByteArray}

theorem parts_hk1 (hd : dateOk y m d) (ht : timeOk s true o) (w1 : 1 ≤ w) (w2 : w ≤ 7) (hj : rng j) (hk : rng k) :
    ReckE (envS strAt (rulesP base (.agg ⟨[r1, r2, r3, r4, r5, r6]⟩) y m d s true o w j k)) 30 3 [.agg ⟨[r1, r2, r3, r4, r5, r6]⟩, .string t] (· = .bool true) := by
  have d31 := dateOk_len hd
  obtain ⟨hy, hm, hdd⟩ : rng y ∧ rng m ∧ rng d := by
    obtain ⟨a1, a2, a3, a4, a5, _⟩ := hd
    unfold rng
    omega
  have hw : rng w := by unfold rng; omega
  have ho1 : -9007199254740992 ≤ o ∧ o ≤ 9007199254740992 := by
    obtain ⟨_, _, a3, a4, _⟩ := ht
    omega
  have hpl : Plainly base (daysV o) := by
    obtain ⟨_, _, a3, a4, _⟩ := ht
    exact days_plainly base (by omega) (by omega)
  have hw1 : IntKind.wrap .i64 (w - 1) = w - 1 := wrap_i64 _ (by unfold rng; omega)
  have m1 : 1 ≤ m := hd.2.2.1
  have m2 : m ≤ 12 := hd.2.2.2.1
  have hm1 : IntKind.wrap .i64 (m - 1) = m - 1 := wrap_i64 _ (by unfold rng; omega)
  have tw := day_texty w1 w2
  have tmm := month_texty m1 m2
  constructor
  rw [parts_tree1 strAt fun u mw => u = .bool true ∧ Tryz.prog.globals.size ≤ mw]
  repeat' (first
    | exact hd
    | exact ht
    | exact ho1
    | exact hpl
    | exact tw
    | exact tmm
    | exact rfl
    | assumption
    | exact rng_wrap _
    | exact rng_tmod60 _
    | exact ⟨rfl, Nat.le_of_ble_eq_true (by kernel_rfl)⟩
    | refine And.intro ?_ ?_
    | refine bsel_of (fun _ => ?_) (fun h => False.elim (by revert h; simp [hw1, hm1]; omega))
    | refine bsel_of (fun _ => ?_) (fun _ => ?_))
  all_goals (exfalso; simp_all)

theorem parts_hk2 (hd : dateOk y m d) (ht : timeOk s false 0) (w1 : 1 ≤ w) (w2 : w ≤ 7) (hj : rng j) (hk : rng k) :
    ReckE (envS strAt (rulesP base (.agg ⟨[r1, r2, r3, r4, r5, r6]⟩) y m d s false 0 w j k)) 30 3 [.agg ⟨[r1, r2, r3, r4, r5, r6]⟩, .string t] (· = .bool true) := by
  have d31 := dateOk_len hd
  obtain ⟨hy, hm, hdd⟩ : rng y ∧ rng m ∧ rng d := by
    obtain ⟨a1, a2, a3, a4, a5, _⟩ := hd
    unfold rng
    omega
  have hw : rng w := by unfold rng; omega
  have hw1 : IntKind.wrap .i64 (w - 1) = w - 1 := wrap_i64 _ (by unfold rng; omega)
  have m1 : 1 ≤ m := hd.2.2.1
  have m2 : m ≤ 12 := hd.2.2.2.1
  have hm1 : IntKind.wrap .i64 (m - 1) = m - 1 := wrap_i64 _ (by unfold rng; omega)
  have tw := day_texty w1 w2
  have tmm := month_texty m1 m2
  constructor
  rw [parts_tree2 strAt fun u mw => u = .bool true ∧ Tryz.prog.globals.size ≤ mw]
  repeat' (first
    | exact hd
    | exact ht
    | exact tw
    | exact tmm
    | exact rfl
    | assumption
    | exact rng_wrap _
    | exact rng_tmod60 _
    | exact ⟨rfl, Nat.le_of_ble_eq_true (by kernel_rfl)⟩
    | refine And.intro ?_ ?_
    | refine bsel_of (fun _ => ?_) (fun h => False.elim (by revert h; simp [hw1, hm1]; omega))
    | refine bsel_of (fun _ => ?_) (fun _ => ?_))
  all_goals (exfalso; simp_all)


end

/-- The law's run, at every argument. -/
theorem parts_calls {W : World} (hs : W.ShapedOpen Tryz.prog) (hT : Lib.TabIs Tryz.prog W "internal/strconv.uint64pow10" .u64 pow10s) (y m d s o : Int) (z : Bool) (t : ByteArray) :
    Calls Tryz.prog 3 #[.agg #[.int .i64 y, .int .i64 m, .int .i64 d, .int .i64 s, .int .i64 o, .bool z], .string t] W fun e w' => e = .returned (.bool true) ∧ Below W.heap.size W w' := by
  obtain ⟨v, ⟨y', m', d', s', z', o', rfl, hd, ht⟩, tMake⟩ := make_tot W y m d s o z
  obtain ⟨_, ⟨w, rfl, w1, w2⟩, tW⟩ := tot_ofE (env_ok (rules4_ok W)) env_loops rfl (weekday_hk hd) isInt_pure (pure1 (by kernel_rfl))
  obtain ⟨_, ⟨j, rfl, hj⟩, tY⟩ := tot_ofE (envN_ok (rulesL_ok W)) envN_loops rfl (yearday_hk hd) isRng_pure (pure1 (by kernel_rfl))
  obtain ⟨_, ⟨k, rfl, hk⟩, tK⟩ := tot_ofE (env_ok (rulesW_ok W)) env_loops rfl (week_hk hd) isRng_pure (pure1 (by kernel_rfl))
  have hr : ∀ x ∈ rulesP W (.agg ⟨[.int .i64 y, .int .i64 m, .int .i64 d, .int .i64 s, .int .i64 o, .bool z]⟩) y' m' d' s' z' o' w j k, RuleOk Tryz.prog W x.1 x.2 :=
    List.forall_mem_cons.2 ⟨ruleOk_at (awake_tot W), List.forall_mem_cons.2 ⟨ruleOk_at tMake, List.forall_mem_cons.2 ⟨ruleOk_at tW, List.forall_mem_cons.2 ⟨ruleOk_at tY, List.forall_mem_cons.2 ⟨ruleOk_at tK,
      List.forall_mem_cons.2 ⟨text_ok W, List.forall_mem_cons.2 ⟨vdays_ok W, rules5_ok W⟩⟩⟩⟩⟩⟩⟩
  have hE : EnvOk (envS strAt (rulesP W (.agg ⟨[.int .i64 y, .int .i64 m, .int .i64 d, .int .i64 s, .int .i64 o, .bool z]⟩) y' m' d' s' z' o' w j k)) W :=
    envOk_of (E := envS strAt _) rfl rfl mixed_ok plain_ok hr fun _ _ _ _ h => by cases h
  have hL : LoopsOk (envS strAt (rulesP W (.agg ⟨[.int .i64 y, .int .i64 m, .int .i64 d, .int .i64 s, .int .i64 o, .bool z]⟩) y' m' d' s' z' o' w j k)) W := fun _ _ _ _ _ _ h => by cases h
  have ha : ∀ x ∈ [Value.agg ⟨[.int .i64 y, .int .i64 m, .int .i64 d, .int .i64 s, .int .i64 o, .bool z]⟩, .string t], pureV 6 x = true := List.forall_mem_cons.2 ⟨by kernel_rfl, pure1 (by kernel_rfl)⟩
  cases z'
  · obtain rfl := ht.2.2.2.2 rfl
    exact law_calls hs hT hE hL rfl Tryz.func3 (by kernel_rfl) ha (parts_hk2 hd ht w1 w2 hj hk)
  · exact law_calls hs hT hE hL rfl Tryz.func3 (by kernel_rfl) ha (parts_hk1 hd ht w1 w2 hj hk)

theorem array6 {α : Type} {cs : Array α} (h : cs.size = 6) : ∃ c0 c1 c2 c3 c4 c5, cs = #[c0, c1, c2, c3, c4, c5] := by
  obtain ⟨l⟩ := cs
  match l, h with
  | [c0, c1, c2, c3, c4, c5], _ => exact ⟨c0, c1, c2, c3, c4, c5, rfl⟩

theorem cellsRaw : Tryz.prog.cellsOf 23 = 6 := by kernel_rfl
theorem cellsInt : Tryz.prog.cellsOf 3 = 1 := by kernel_rfl
theorem cellsBool : Tryz.prog.cellsOf 4 = 1 := by kernel_rfl

set_option maxRecDepth 100000 in
/-- A moment's numbers, opened. -/
theorem open_raw {H : Type} {enc : TypeId × Value → H} {w : World} {sp : Nat → Bool} {hd : Bool} {r : Reach} {b0 : Nat} {v : Value} {d : DataW H} {p : List MemPlace}
    (hv : Value.okWide Tryz.prog w r b0 23 v) (h : DataW.Trod enc Tryz.prog w 0 sp hd 23 v d p) :
    ∃ (y m d s o : Int) (z : Bool), v = .agg #[.int .i64 y, .int .i64 m, .int .i64 d, .int .i64 s, .int .i64 o, .bool z] := by
  obtain ⟨cs, rfl, hsz, hf⟩ := open_cells Tryz.underlying23 hv h
  obtain ⟨c0, c1, c2, c3, c4, c5, rfl⟩ := array6 (hsz.trans cellsRaw)
  obtain ⟨_, _, g0⟩ := hf 0 _ rfl
  obtain ⟨_, _, g1⟩ := hf 1 _ rfl
  obtain ⟨_, _, g2⟩ := hf 2 _ rfl
  obtain ⟨_, _, g3⟩ := hf 3 _ rfl
  obtain ⟨_, _, g4⟩ := hf 4 _ rfl
  obtain ⟨_, _, g5⟩ := hf 5 _ rfl
  obtain ⟨y, e0, _⟩ := DataW.trod_int Tryz.underlying3 g0
  obtain ⟨m, e1, _⟩ := DataW.trod_int Tryz.underlying3 g1
  obtain ⟨d, e2, _⟩ := DataW.trod_int Tryz.underlying3 g2
  obtain ⟨s, e3, _⟩ := DataW.trod_int Tryz.underlying3 g3
  obtain ⟨o, e4, _⟩ := DataW.trod_int Tryz.underlying3 g4
  obtain ⟨z, e5, _⟩ := DataW.trod_bool Tryz.underlying4 g5
  cases e0
  cases e1
  cases e2
  cases e3
  cases e4
  cases e5
  exact ⟨y, m, d, s, o, z, rfl⟩

set_option maxRecDepth 100000 in
theorem parts_contract (H : Type) (enc : TypeId × Value → H) (W : World) (base : Nat) (args : Array Value) (ds gs : List (DataW H)) (before : List MemPlace)
    (hval : ∀ (j : Nat) t v, Tryz.f3.params[j]? = some t → args[j]? = some v → Value.okWide Tryz.prog W .any base t v)
    (hW : DataW.Whole enc Tryz.prog Tryz.f3.params.toList Rows.timefunPartsSpec.vars false W args.toList ds gs before) (hL : laidMetH Tryz.prog Rows.timefunPartsRow.laid W) (hs : W.ShapedOpen Tryz.prog) :
    Calls Tryz.prog 3 args W fun e W' => ∃ v, e = .returned v ∧ Rows.timefunPartsSpec.post enc Tryz.prog Tryz.f3 false true false false W args v W' := by
  have hW' := hW
  obtain ⟨p, q, hA0, hV, rfl, hfz, hnd⟩ := hW
  have hA : DataW.TrodAll enc Tryz.prog W 0 (fun _ => true) true Tryz.f3.params.toList args.toList ds p := hA0
  rw [Tryz.params3] at hA hval
  obtain ⟨v0, vs0, d0, ds0, p0, q0, hargs, rfl, rfl, h0, r0⟩ := trodAll_cons hA
  obtain ⟨v1, vs1, d1, ds1, p1, q1, rfl, rfl, rfl, h1, r1⟩ := trodAll_cons r0
  obtain ⟨rfl, rfl, rfl⟩ := trodAll_nil r1
  obtain rfl : args = #[v0, v1] := by cases args; simp_all
  obtain ⟨y, m, d, s, o, z, rfl⟩ := open_raw (hval 0 _ v0 rfl rfl) h0
  obtain ⟨t, rfl, _, _, _⟩ := ChangeMaps.open_string Tryz.underlying9 (hval 1 _ v1 rfl rfl) h1
  have hT := pow_tab (by kernel_rfl) hL
  refine (parts_calls hs hT y m d s o z t).mono fun e W' ⟨he, hb⟩ => ?_
  exact ⟨_, he, post_law hW' rfl rfl laid_out (by kernel_rfl) (by kernel_rfl) Tryz.underlying4 hb⟩

end Go.Proofs.YthcjocelokjifaaGreatDoor
