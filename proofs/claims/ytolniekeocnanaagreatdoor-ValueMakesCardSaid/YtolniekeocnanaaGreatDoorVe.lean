/-
  The law ValueMakes: true of every number, day, time, text, whole number and truth.
-/
import Derived.Test.YtolniekeocnanaaGreatDoorVd0
import Derived.Test.YtolniekeocnanaaGreatDoorVd1
import Derived.Test.YtolniekeocnanaaGreatDoorVd2
import Derived.Test.YtolniekeocnanaaGreatDoorVd3
import Derived.Test.YtolniekeocnanaaGreatDoorVd4
import Derived.Test.YtolniekeocnanaaGreatDoorVd5
import Derived.Test.YtolniekeocnanaaGreatDoorSv
import Derived.Test.YtolniekeocnanaaGreatDoorFo
import Derived.Lib.LaidU8T
namespace Go.Proofs.YtolniekeocnanaaGreatDoor
open Go Go.Pe Go.RowKit


/-! utf8.ValidString -/

theorem utf8_below {g3 g4 : Nat} {base w : World} (h : Lib.Utf8Tabs g3 g4 base) (hb : Below base.heap.size base w) (h3 : g3 < base.heap.size) (h4 : g4 < base.heap.size) : Lib.Utf8Tabs g3 g4 w := by
  have key : ∀ g off, g < base.heap.size → w.cell? ⟨g, off, none⟩ = base.cell? ⟨g, off, none⟩ := fun g off hg => by
    unfold World.cell?
    rw [hb.block g hg]
  refine ⟨fun c hc => ?_, fun i hi => ?_⟩
  · rw [key _ _ h3]; exact h.1 c hc
  · rw [key _ _ h4, key _ _ h4]; exact h.2 i hi

def Utf8At (w : World) : Prop := Lib.Utf8Tabs 0 1 w

theorem valid_tot {base : World} (B : Begun base) (hU : Utf8At base) (s : ByteArray) (hs : s.size ≤ 9223372036854775807) : Tot base 44 [.string s] (.bool (Lib.validD s.data.toList)) := fun E hP h _ m => by
  have hE' : EnvOk (env []) base := env_ok (rules := []) (fun _ h => by cases h)
  refine (FuncSem.ofContract (E := env []) hE' (fn := Tryz.f44) Tryz.func44 (by kernel_rfl) (pure1 (by kernel_rfl)) (by kernel_rfl) fun w hb => ?_).env hP
  have h3 : 0 < base.heap.size := Nat.lt_of_lt_of_le (ltB (by kernel_rfl)) B.low
  have h4 : 1 < base.heap.size := Nat.lt_of_lt_of_le (ltB (by kernel_rfl)) B.low
  exact (Any.utf8_ValidString Tryz.lays196 s w hs (utf8_below hU hb h3 h4) : Calls Tryz.prog 44 #[.string s] w _)

/-! What may be -/

def isMMay (y m d s : Int) (z : Bool) (o : Int) (u : Value) : Prop := (u = .bool true ∧ dateOk y m d ∧ timeOk s z o) ∨ (u = .bool false ∧ ¬ (dateOk y m d ∧ timeOk s z o))
theorem isMMay_pure {y m d s o : Int} {z : Bool} : ∀ v, isMMay y m d s z o v → pureV 6 v = true := by
  rintro v (⟨rfl, _⟩ | ⟨rfl, _⟩) <;> kernel_rfl
theorem mmay_hk_tree (K : Value → Nat → Prop) (y m d s o : Int) (z : Bool) :
    funcK (env rulesV1) 30 43 [momentC y m d s z o] tabs Tryz.prog.globals.size (fun u _ _ mw => K u mw) =
  ((dateOk y m d →
 (timeOk s z o → K (Value.bool Bool.true) (18446744073709551616 : Nat)) ∧
 (¬timeOk s z o → K (Value.bool Bool.false) (18446744073709551616 : Nat))) ∧
 (¬dateOk y m d → K (Value.bool Bool.false) (18446744073709551616 : Nat))) := by kernel_rfl
theorem mmay_hk (y m d s o : Int) (z : Bool)  : ReckE (env rulesV1) 30 43 [momentC y m d s z o] (isMMay y m d s z o) := by
  constructor
  rw [mmay_hk_tree fun u mw => (isMMay y m d s z o) u ∧ Tryz.prog.globals.size ≤ mw]
  repeat' (first
    | exact ⟨.inl ⟨rfl, by constructor <;> assumption⟩, Nat.le_of_ble_eq_true (by kernel_rfl)⟩
    | exact ⟨.inr ⟨rfl, by rintro ⟨h1, h2⟩; contradiction⟩, Nat.le_of_ble_eq_true (by kernel_rfl)⟩
    | refine And.intro ?_ ?_
    | refine bsel_of (fun _ => ?_) (fun _ => ?_)
    | intro _)

section
variable (base : World)
theorem num_facts (b : Bool) (h l e : Int) : ∃ k, Tot base 40 [decC b h l e] (.bool k) ∧ Tot base 11 [decC b h l e] (vNum k b h l e) ∧ Tot base 25 [vNum k b h l e] (aNum k b h l e) := by
  obtain ⟨k, hk⟩ := decMay_ex base b h l e
  cases k
  · exact ⟨false, hk, numF base b h l e hk, asNumF⟩
  · exact ⟨true, hk, numT base b h l e hk, asNumT b h l e⟩

theorem date_facts (y m d : Int) : ∃ k, (k = true ↔ dateOk y m d) ∧ Tot base 41 [dateC y m d] (.bool k) ∧ Tot base 26 [dateC y m d] (vDate k y m d) ∧ Tot base 27 [vDate k y m d] (aDate k y m d) := by
  obtain ⟨u, hu, tu⟩ := tot_ofE (env_ok (rules1_ok base)) env_loops rfl (mayD_hk y m d) isMayD_pure (pure1 (by kernel_rfl))
  obtain ⟨v, hv, tv⟩ := tot_ofE (env_ok (rulesV1_ok base)) env_loops rfl (vdateD_hk y m d) (isV_pure (by kernel_rfl)) (pure1 (by kernel_rfl))
  rcases hu with ⟨rfl, h⟩ | ⟨rfl, h⟩
  · rcases hv with ⟨_, rfl⟩ | ⟨hn, _⟩
    · exact ⟨true, by simp [h], tu, tv, asDateT y m d⟩
    · exact absurd h hn
  · rcases hv with ⟨hn, _⟩ | ⟨_, rfl⟩
    · exact absurd hn h
    · exact ⟨false, by simp [h], tu, tv, asDateF⟩

theorem time_facts (s o : Int) (z : Bool) : ∃ k, (k = true ↔ timeOk s z o) ∧ Tot base 42 [timeC s z o] (.bool k) ∧ Tot base 28 [timeC s z o] (vTime k s z o) ∧ Tot base 29 [vTime k s z o] (aTime k s z o) := by
  obtain ⟨u, hu, tu⟩ := tot_ofE (env_ok (rules1_ok base)) env_loops rfl (tmayD_hk s o z) isTMayD_pure (pure1 (by kernel_rfl))
  obtain ⟨v, hv, tv⟩ := tot_ofE (env_ok (rulesV1_ok base)) env_loops rfl (vtimeD_hk s o z) (isV_pure (by kernel_rfl)) (pure1 (by kernel_rfl))
  rcases hu with ⟨rfl, h⟩ | ⟨rfl, h⟩
  · rcases hv with ⟨_, rfl⟩ | ⟨hn, _⟩
    · exact ⟨true, by simp [h], tu, tv, asTimeT s o z⟩
    · exact absurd h hn
  · rcases hv with ⟨hn, _⟩ | ⟨_, rfl⟩
    · exact absurd hn h
    · exact ⟨false, by simp [h], tu, tv, asTimeF⟩

theorem mom_facts (y m d s o : Int) (z : Bool) {kd kt : Bool} (hd : kd = true ↔ dateOk y m d) (ht : kt = true ↔ timeOk s z o) : Tot base 43 [momentC y m d s z o] (.bool (kd && kt)) ∧
    Tot base 30 [momentC y m d s z o] (vMom (kd && kt) y m d s z o) ∧ Tot base 31 [vMom (kd && kt) y m d s z o] (aMom (kd && kt) y m d s z o) := by
  obtain ⟨u, hu, tu⟩ := tot_ofE (env_ok (rulesV1_ok base)) env_loops rfl (mmay_hk y m d s o z) isMMay_pure (pure1 (by kernel_rfl))
  obtain ⟨v, hv, tv⟩ := tot_ofE (env_ok (rulesV1_ok base)) env_loops rfl (vmomentD_hk y m d s o z) (isV_pure (by kernel_rfl)) (pure1 (by kernel_rfl))
  rcases hu with ⟨rfl, h⟩ | ⟨rfl, h⟩
  · obtain rfl := hd.2 h.1
    obtain rfl := ht.2 h.2
    rcases hv with ⟨_, rfl⟩ | ⟨hn, _⟩
    · exact ⟨tu, tv, asMomT y m d s o z⟩
    · exact absurd h hn
  · have hk : (kd && kt) = false := by
      cases kd
      · rfl
      · cases kt
        · rfl
        · exact absurd ⟨hd.1 rfl, ht.1 rfl⟩ h
    rw [hk]
    rcases hv with ⟨hn, _⟩ | ⟨_, rfl⟩
    · exact absurd hn h
    · exact ⟨tu, tv, asMomF⟩

theorem span_facts (n : Int) : ∃ k, (k = true ↔ spanOk n) ∧ Tot base 12 [.int .i64 n] (vDays k n) ∧ Tot base 34 [vDays k n] (aInt k n) ∧
    Tot base 13 [.int .i64 n] (vMonths k n) ∧ Tot base 35 [vMonths k n] (aInt k n) := by
  obtain ⟨u, hu, tu⟩ := tot_ofE (env_ok (rulesV1_ok base)) env_loops rfl (vdaysD_hk n) (isV_pure (by kernel_rfl)) (pure1 (by kernel_rfl))
  obtain ⟨v, hv, tv⟩ := tot_ofE (env_ok (rulesV1_ok base)) env_loops rfl (vmonthsD_hk n) (isV_pure (by kernel_rfl)) (pure1 (by kernel_rfl))
  rcases hu with ⟨h, rfl⟩ | ⟨h, rfl⟩
  · rcases hv with ⟨_, rfl⟩ | ⟨hn, _⟩
    · exact ⟨true, by simp [h], tu, asDaysT n, tv, asMonthsT n⟩
    · exact absurd h hn
  · rcases hv with ⟨hn, _⟩ | ⟨_, rfl⟩
    · exact absurd hn h
    · exact ⟨false, by simp [h], tu, asDaysF, tv, asMonthsF⟩
end

theorem vm_ff (b : Bool) (h l e y m d s : Int) (z : Bool) (o : Int) (x : ByteArray) (n : Int) (t : Bool) (kn kd kt ks : Bool) (hl : True) (hn : ks = true ↔ spanOk n) : ReckE (envE (rulesVM kn kd kt false false ks b h l e y m d s z o x n t)) 30 4 [decC b h l e, dateC y m d, timeC s z o, .string x, .int .i64 n, .bool t] (· = .bool true) := by
  unfold spanOk at hn
  match kn, kd, kt, ks with
  | false, false, false, false => exact vm_ffffff_hk b h l e y m d s z o x n t hl (by simpa using hn)
  | false, false, false, true => exact vm_ffffft_hk b h l e y m d s z o x n t hl (by simpa using hn)
  | false, false, true, false => exact vm_fftfff_hk b h l e y m d s z o x n t hl (by simpa using hn)
  | false, false, true, true => exact vm_fftfft_hk b h l e y m d s z o x n t hl (by simpa using hn)
  | false, true, false, false => exact vm_ftffff_hk b h l e y m d s z o x n t hl (by simpa using hn)
  | false, true, false, true => exact vm_ftffft_hk b h l e y m d s z o x n t hl (by simpa using hn)
  | false, true, true, false => exact vm_fttfff_hk b h l e y m d s z o x n t hl (by simpa using hn)
  | false, true, true, true => exact vm_fttfft_hk b h l e y m d s z o x n t hl (by simpa using hn)
  | true, false, false, false => exact vm_tfffff_hk b h l e y m d s z o x n t hl (by simpa using hn)
  | true, false, false, true => exact vm_tfffft_hk b h l e y m d s z o x n t hl (by simpa using hn)
  | true, false, true, false => exact vm_tftfff_hk b h l e y m d s z o x n t hl (by simpa using hn)
  | true, false, true, true => exact vm_tftfft_hk b h l e y m d s z o x n t hl (by simpa using hn)
  | true, true, false, false => exact vm_ttffff_hk b h l e y m d s z o x n t hl (by simpa using hn)
  | true, true, false, true => exact vm_ttffft_hk b h l e y m d s z o x n t hl (by simpa using hn)
  | true, true, true, false => exact vm_tttfff_hk b h l e y m d s z o x n t hl (by simpa using hn)
  | true, true, true, true => exact vm_tttfft_hk b h l e y m d s z o x n t hl (by simpa using hn)

theorem vm_tf (b : Bool) (h l e y m d s : Int) (z : Bool) (o : Int) (x : ByteArray) (n : Int) (t : Bool) (kn kd kt ks : Bool) (hl : ¬ strLen x ≤ 1048576) (hn : ks = true ↔ spanOk n) : ReckE (envE (rulesVM kn kd kt true false ks b h l e y m d s z o x n t)) 30 4 [decC b h l e, dateC y m d, timeC s z o, .string x, .int .i64 n, .bool t] (· = .bool true) := by
  unfold spanOk at hn
  match kn, kd, kt, ks with
  | false, false, false, false => exact vm_ffftff_hk b h l e y m d s z o x n t hl (by simpa using hn)
  | false, false, false, true => exact vm_ffftft_hk b h l e y m d s z o x n t hl (by simpa using hn)
  | false, false, true, false => exact vm_ffttff_hk b h l e y m d s z o x n t hl (by simpa using hn)
  | false, false, true, true => exact vm_ffttft_hk b h l e y m d s z o x n t hl (by simpa using hn)
  | false, true, false, false => exact vm_ftftff_hk b h l e y m d s z o x n t hl (by simpa using hn)
  | false, true, false, true => exact vm_ftftft_hk b h l e y m d s z o x n t hl (by simpa using hn)
  | false, true, true, false => exact vm_ftttff_hk b h l e y m d s z o x n t hl (by simpa using hn)
  | false, true, true, true => exact vm_ftttft_hk b h l e y m d s z o x n t hl (by simpa using hn)
  | true, false, false, false => exact vm_tfftff_hk b h l e y m d s z o x n t hl (by simpa using hn)
  | true, false, false, true => exact vm_tfftft_hk b h l e y m d s z o x n t hl (by simpa using hn)
  | true, false, true, false => exact vm_tfttff_hk b h l e y m d s z o x n t hl (by simpa using hn)
  | true, false, true, true => exact vm_tfttft_hk b h l e y m d s z o x n t hl (by simpa using hn)
  | true, true, false, false => exact vm_ttftff_hk b h l e y m d s z o x n t hl (by simpa using hn)
  | true, true, false, true => exact vm_ttftft_hk b h l e y m d s z o x n t hl (by simpa using hn)
  | true, true, true, false => exact vm_ttttff_hk b h l e y m d s z o x n t hl (by simpa using hn)
  | true, true, true, true => exact vm_ttttft_hk b h l e y m d s z o x n t hl (by simpa using hn)

theorem vm_tt (b : Bool) (h l e y m d s : Int) (z : Bool) (o : Int) (x : ByteArray) (n : Int) (t : Bool) (kn kd kt ks : Bool) (hl : strLen x ≤ 1048576) (hn : ks = true ↔ spanOk n) : ReckE (envE (rulesVM kn kd kt true true ks b h l e y m d s z o x n t)) 30 4 [decC b h l e, dateC y m d, timeC s z o, .string x, .int .i64 n, .bool t] (· = .bool true) := by
  unfold spanOk at hn
  match kn, kd, kt, ks with
  | false, false, false, false => exact vm_fffttf_hk b h l e y m d s z o x n t hl (by simpa using hn)
  | false, false, false, true => exact vm_fffttt_hk b h l e y m d s z o x n t hl (by simpa using hn)
  | false, false, true, false => exact vm_fftttf_hk b h l e y m d s z o x n t hl (by simpa using hn)
  | false, false, true, true => exact vm_fftttt_hk b h l e y m d s z o x n t hl (by simpa using hn)
  | false, true, false, false => exact vm_ftfttf_hk b h l e y m d s z o x n t hl (by simpa using hn)
  | false, true, false, true => exact vm_ftfttt_hk b h l e y m d s z o x n t hl (by simpa using hn)
  | false, true, true, false => exact vm_fttttf_hk b h l e y m d s z o x n t hl (by simpa using hn)
  | false, true, true, true => exact vm_fttttt_hk b h l e y m d s z o x n t hl (by simpa using hn)
  | true, false, false, false => exact vm_tffttf_hk b h l e y m d s z o x n t hl (by simpa using hn)
  | true, false, false, true => exact vm_tffttt_hk b h l e y m d s z o x n t hl (by simpa using hn)
  | true, false, true, false => exact vm_tftttf_hk b h l e y m d s z o x n t hl (by simpa using hn)
  | true, false, true, true => exact vm_tftttt_hk b h l e y m d s z o x n t hl (by simpa using hn)
  | true, true, false, false => exact vm_ttfttf_hk b h l e y m d s z o x n t hl (by simpa using hn)
  | true, true, false, true => exact vm_ttfttt_hk b h l e y m d s z o x n t hl (by simpa using hn)
  | true, true, true, false => exact vm_tttttf_hk b h l e y m d s z o x n t hl (by simpa using hn)
  | true, true, true, true => exact vm_tttttt_hk b h l e y m d s z o x n t hl (by simpa using hn)


theorem rulesVM_ok {base : World} {kn kd kt kv kx ks : Bool} (b : Bool) (h l e y m d s : Int) (z : Bool) (o : Int) (x : ByteArray) (n : Int) (t : Bool)
    (a0 : Tot base 24 [] (.bool true))
    (a1 : Tot base 40 [decC b h l e] (.bool kn)) (a2 : Tot base 11 [decC b h l e] (vNum kn b h l e)) (a3 : Tot base 25 [vNum kn b h l e] (aNum kn b h l e))
    (b1 : Tot base 41 [dateC y m d] (.bool kd)) (b2 : Tot base 26 [dateC y m d] (vDate kd y m d)) (b3 : Tot base 27 [vDate kd y m d] (aDate kd y m d))
    (c1 : Tot base 42 [timeC s z o] (.bool kt)) (c2 : Tot base 28 [timeC s z o] (vTime kt s z o)) (c3 : Tot base 29 [vTime kt s z o] (aTime kt s z o))
    (d1 : Tot base 43 [momentC y m d s z o] (.bool (kd && kt))) (d2 : Tot base 30 [momentC y m d s z o] (vMom (kd && kt) y m d s z o)) (d3 : Tot base 31 [vMom (kd && kt) y m d s z o] (aMom (kd && kt) y m d s z o))
    (e1 : Tot base 44 [.string x] (.bool kv)) (e2 : Tot base 32 [.string x] (vText kx x)) (e3 : Tot base 33 [vText kx x] (aText kx x))
    (f1 : Tot base 12 [.int .i64 n] (vDays ks n)) (f2 : Tot base 34 [vDays ks n] (aInt ks n)) (f3 : Tot base 13 [.int .i64 n] (vMonths ks n)) (f4 : Tot base 35 [vMonths ks n] (aInt ks n))
    (g1 : Tot base 38 [.int .i64 n] (intV n)) (g2 : Tot base 39 [intV n] (.tuple #[.int .i64 n, .bool true])) :
    ∀ r ∈ rulesVM kn kd kt kv kx ks b h l e y m d s z o x n t, RuleOk Tryz.prog base r.1 r.2 := by
  unfold rulesVM
  exact List.forall_mem_cons.2 ⟨ruleOk_at a0, List.forall_mem_cons.2 ⟨ruleOk_at a2, List.forall_mem_cons.2 ⟨ruleOk_at a3, List.forall_mem_cons.2 ⟨ruleOk_at a1,
    List.forall_mem_cons.2 ⟨ruleOk_at b2, List.forall_mem_cons.2 ⟨ruleOk_at b3, List.forall_mem_cons.2 ⟨ruleOk_at b1, List.forall_mem_cons.2 ⟨ruleOk_at c2, List.forall_mem_cons.2 ⟨ruleOk_at c3, List.forall_mem_cons.2 ⟨ruleOk_at c1,
    List.forall_mem_cons.2 ⟨ruleOk_at d2, List.forall_mem_cons.2 ⟨ruleOk_at d3, List.forall_mem_cons.2 ⟨ruleOk_at d1, List.forall_mem_cons.2 ⟨ruleOk_at e2, List.forall_mem_cons.2 ⟨ruleOk_at e3, List.forall_mem_cons.2 ⟨ruleOk_at e1,
    List.forall_mem_cons.2 ⟨ruleOk_at f1, List.forall_mem_cons.2 ⟨ruleOk_at f2, List.forall_mem_cons.2 ⟨ruleOk_at f3, List.forall_mem_cons.2 ⟨ruleOk_at f4, List.forall_mem_cons.2 ⟨ruleOk_at (boolT t), List.forall_mem_cons.2 ⟨ruleOk_at (asBoolT t),
    List.forall_mem_cons.2 ⟨ruleOk_at g1, List.forall_mem_cons.2 ⟨ruleOk_at g2, rules1_ok base⟩⟩⟩⟩⟩⟩⟩⟩⟩⟩⟩⟩⟩⟩⟩⟩⟩⟩⟩⟩⟩⟩⟩⟩

theorem int_tot {base : World} {x : Int} (h : rng x) : Tot base 38 [.int .i64 x] (intV x) :=
  tot_reck (rules3_ok base) (int_hk h) (by kernel_rfl) (pure1 (by kernel_rfl))

/-- The law's run, at every argument. -/
theorem vmakes_calls {W : World} (hs : W.ShapedOpen Tryz.prog) (hT : Lib.TabIs Tryz.prog W "internal/strconv.uint64pow10" .u64 pow10s) (hE : ErrAt W) (hU : Utf8At W) (b : Bool) (h l e y m d s : Int) (z : Bool) (o : Int) (x : ByteArray) (n : Int) (t : Bool) (hn : rng n) (hx : x.size ≤ 9223372036854775807) :
    Calls Tryz.prog 4 #[decC b h l e, dateC y m d, timeC s z o, .string x, .int .i64 n, .bool t] W fun e w' => e = .returned (.bool true) ∧ Below W.heap.size W w' := by
  have B := begun_of hs hT
  obtain ⟨kn, a1, a2, a3⟩ := num_facts W b h l e
  obtain ⟨kd, hd, b1, b2, b3⟩ := date_facts W y m d
  obtain ⟨kt, ht, c1, c2, c3⟩ := time_facts W s o z
  obtain ⟨d1, d2, d3⟩ := mom_facts W y m d s o z hd ht
  obtain ⟨ks, hks, f1, f2, f3, f4⟩ := span_facts W n
  have e1 := valid_tot B hU x hx
  have a0 := awake11_tot B gPow hE
  have ha : ∀ v ∈ [decC b h l e, dateC y m d, timeC s z o, .string x, .int .i64 n, .bool t], pureV 6 v = true := List.forall_mem_cons.2 ⟨by kernel_rfl, List.forall_mem_cons.2 ⟨by kernel_rfl, List.forall_mem_cons.2 ⟨by kernel_rfl, List.forall_mem_cons.2 ⟨by kernel_rfl, List.forall_mem_cons.2 ⟨by kernel_rfl, pure1 (by kernel_rfl)⟩⟩⟩⟩⟩
  generalize Lib.validD x.data.toList = kv at e1
  cases kv
  · exact law_calls hs hT (envE_ok (rulesVM_ok b h l e y m d s z o x n t a0 a1 a2 a3 b1 b2 b3 c1 c2 c3 d1 d2 d3 e1 (kx := false) (textF W x e1) asTextF f1 f2 f3 f4 (int_tot hn) (asInt_tot hn))) envE_loops rfl Tryz.func4 (by kernel_rfl) ha
      (vm_ff b h l e y m d s z o x n t kn kd kt ks trivial hks)
  · by_cases hl : strLen x ≤ 1048576
    · exact law_calls hs hT (envE_ok (rulesVM_ok b h l e y m d s z o x n t a0 a1 a2 a3 b1 b2 b3 c1 c2 c3 d1 d2 d3 e1 (kx := true) (textT W x e1 hl) (asTextT x) f1 f2 f3 f4 (int_tot hn) (asInt_tot hn))) envE_loops rfl Tryz.func4 (by kernel_rfl) ha
        (vm_tt b h l e y m d s z o x n t kn kd kt ks hl hks)
    · exact law_calls hs hT (envE_ok (rulesVM_ok b h l e y m d s z o x n t a0 a1 a2 a3 b1 b2 b3 c1 c2 c3 d1 d2 d3 e1 (kx := false) (textL W x e1 hl) asTextF f1 f2 f3 f4 (int_tot hn) (asInt_tot hn))) envE_loops rfl Tryz.func4 (by kernel_rfl) ha
        (vm_tf b h l e y m d s z o x n t kn kd kt ks hl hks)

end Go.Proofs.YtolniekeocnanaaGreatDoor
