/-
  value.Of, of any datum.
  What each As.. says of any value.
  casuistlaw11.asked.
-/
import Derived.Test.YthmogphlnjpakaaGreatDoorYp01
import Derived.Test.YthmogphlnjpakaaGreatDoorYp1
import Derived.Test.YthmogphlnjpakaaGreatDoorYq1
import Derived.Test.YthmogphlnjpakaaGreatDoorYe1

namespace Go.Proofs.YthmogphlnjpakaaGreatDoor
open Go Go.Ord Go.Typ Go.RowKit
set_option maxRecDepth 100000 in
set_option maxHeartbeats 3200000 in
theorem of_through (w : World) (D : Dat) (k : Int) (h : k = 10 ∨ k = 11 ∨ k = 12) (s : ByteArray) (A A' : Option Addr) (n c m c' : Nat) (i0 i1 : Bool)
    (hc : ∀ w', Below w.heap.size w w' → Calls Tryz.prog 62 #[.agg #[.int .i64 k, .string s, .slice A n c, .slice A' m c', .bool i0, .bool i1]] w' (OfOut w' D)) :
    Calls Tryz.prog 11 #[.agg #[.int .i64 k, .string s, .slice A n c, .slice A' m c', .bool i0, .bool i1]] w (OfOut w D) := by
  have HC := Lib.hid hc
  have D0 := dbox0 w (.int .i64 k) (.string s) (.slice A n c) (.slice A' m c') (.bool i0) (.bool i1)
  clear hc
  rcases h with rfl | rfl | rfl
  all_goals
    go_enter Tryz.func11, Tryz.ntmps11
    go_wp2_with fail
    go_at_call 62
    refine (HC.out _ (box_two _ _ _)).mono ?_
    rintro e w1 ⟨V, x, ok, rfl, hV, hb1, hno, hyes⟩
    have D1 := D0.on (hb1.mono (by simp))
    have HV := Lib.hid (IsValP.below (ok' := fun b => w.heap.size + 2 ≤ b) (Below.refl _ w1) (fun b h _ => by simpa using h) _ _ hV)
    have HN := Lib.hid hno
    have HY := Lib.hid hyes
    have HF := isValP_form hV
    have r1 := D1.r
    have f1 := D1.f
    clear hV hno hyes D0 HC
    have hfin : ∀ x, IsValP (fun b => w.heap.size + 2 ≤ b) w1 V x → IsValP (fun b => w.heap.size ≤ b) (w1.setCell ⟨w.heap.size + 1, 0, none⟩ x) V x := fun x hx =>
      IsValP.keep (ok := fun b => w.heap.size + 2 ≤ b) (by simp) (fun b h1 h2 => heap_setCell_other _ _ _ _ (by show b ≠ w.heap.size + 1; omega)) (fun b h1 h2 => by omega) V x hx
    have HFIN := Lib.hid hfin
    clear hfin
    rcases HF with rfl | ⟨t, y, rfl⟩
    · go_wp2_with fail
      exact bodyPost_ret (v := .tuple #[.agg #[.nilIface], .bool ok]) (by first | (simp [results, Tryz.results11, go_sem]; done) | (simp [results, Tryz.results11, go_sem, *]; done)) rfl ⟨V, _, ok, rfl, HFIN.out _ HV.out, Below.setCell (p := ⟨w.heap.size + 1, 0, none⟩) D1.below (by simp) _, HN.out, HY.out⟩
    · go_wp2_with fail
      exact bodyPost_ret (v := .tuple #[.agg #[.iface t y], .bool ok]) (by first | (simp [results, Tryz.results11, go_sem]; done) | (simp [results, Tryz.results11, go_sem, *]; done)) rfl ⟨V, _, ok, rfl, HFIN.out _ HV.out, Below.setCell (p := ⟨w.heap.size + 1, 0, none⟩) D1.below (by simp) _, HN.out, HY.out⟩
theorem of_any {base : World} (E : Base0 base) : ∀ (D : Dat) (w : World) (v : Value), Below base.heap.size base w → IsDat w D v → Calls Tryz.prog 11 #[v] w (OfOut w D) := by
  intro D
  induction D with
  | nul => exact fun w v _ h => h.elim
  | mk k s n f N i0 i1 ih =>
    intro w v hB hv
    obtain ⟨A, c, A', c', rfl, hs, hn, hN, g1, g2, g3, g4, hz, hS, hrow⟩ := hv
    have hrow' : DatRow w A n f := hrow
    have hIH : ∀ (j : Nat) (w' : World) (v : Value), Below base.heap.size base w' → IsDat w' (f j) v → Calls Tryz.prog 11 #[v] w' (OfOut w' (f j)) := ih
    by_cases h1 : k = 1
    · subst h1
      exact of_one w _ rfl s n N.length i0 i1 A A' c c'
    · by_cases h10 : k = 10
      · subst h10
        exact of_through w _ 10 (.inl rfl) s A A' n c N.length c' i0 i1 fun w' hb => of_list E n f hIH w' (hB.trans (hb.mono hB.size)) s A A' c c' N.length i0 i1 _ rfl hn (hrow'.keep hb)
      · by_cases h11 : k = 11
        · subst h11
          exact of_through w _ 11 (.inr (.inl rfl)) s A A' n c N.length c' i0 i1 fun w' hb => of_ctx E n f hIH w' (hB.trans (hb.mono hB.size)) s A A' c c' N.length i0 i1 _ rfl hn (hrow'.keep hb) N rfl hN g3 g4 hz (hS.keep hb)
        · by_cases h12 : k = 12
          · subst h12
            exact of_through w _ 12 (.inr (.inr rfl)) s A A' n c N.length c' i0 i1 fun w' hb => of_range E n f hIH w' (hB.trans (hb.mono hB.size)) s A A' c c' N.length i0 i1 _ rfl hn (hrow'.keep hb)
          · have k1 := beq_eq_false_iff_ne.2 h1
            have k10 := beq_eq_false_iff_ne.2 h10
            have k11 := beq_eq_false_iff_ne.2 h11
            have k12 := beq_eq_false_iff_ne.2 h12
            by_cases h : 0 < n ∨ 0 < N.length
            · exact of_some w _ k s n N.length i0 i1 A A' c c' k1 k10 k11 k12 h
            · have e1 : n = 0 := by omega
              have e2 : N.length = 0 := by omega
              have hk := of_leaf E w hB (.mk k s n f N i0 i1) k rfl s hs i0 i1 A A' c c' k1 k10 k11 k12
              rw [e2]
              rw [show Value.slice A n c = Value.slice A 0 c by rw [e1]]
              exact hk
end Go.Proofs.YthmogphlnjpakaaGreatDoor

namespace Go.Proofs.YthmogphlnjpakaaGreatDoor
open Go Go.Ord Go.Typ Go.RowKit
def AskF (F : Value → Prop) (w : World) (b : Bool) (e : Ending) (w' : World) : Prop := ∃ y, F y ∧ e = .returned (.tuple #[y, .bool b]) ∧ Below w.heap.size w w'
def Ask4 (F : Value → Value → Prop) (w : World) (b : Bool) (e : Ending) (w' : World) : Prop := ∃ y z, F y z ∧ e = .returned (.tuple #[y, z, .bool b]) ∧ Below w.heap.size w w'
def FNum (y : Value) : Prop := ∃ (b : Bool) (hi lo e : Int), y = .agg #[.bool b, .int .u64 hi, .int .u64 lo, .int .i64 e]
def FDate (y : Value) : Prop := ∃ (a m d : Int), y = .agg #[.int .i64 a, .int .i64 m, .int .i64 d]
def FTime (y : Value) : Prop := ∃ (s : Int) (z : Bool) (o : Int), y = .agg #[.int .i64 s, .bool z, .int .i64 o]
def FMoment (y : Value) : Prop := ∃ (a m d s : Int) (z : Bool) (o : Int), y = .agg #[.int .i64 a, .int .i64 m, .int .i64 d, .int .i64 s, .bool z, .int .i64 o]
set_option maxRecDepth 100000 in
theorem asNum_nilF (w : World) : Calls Tryz.prog 59 #[.agg #[.nilIface]] w (AskF FNum w false) := by
  have ht := taNum_nil
  go_enter Tryz.func59, Tryz.ntmps59
  go_wp2
  exact bodyPost_ret (v := .tuple #[(.agg #[.bool false, .int .u64 0, .int .u64 0, .int .i64 0]), .bool false]) (by simp [results, Tryz.results59, go_sem]) rfl ⟨_, ⟨_, _, _, _, rfl⟩, rfl, (by (repeat (first | exact Below.refl _ _ | refine Below.alloc ?_ (by simp <;> omega) _)))⟩
set_option maxRecDepth 100000 in
theorem asNum_noF (w : World) (t : TypeId) (y : Value) (h : t ≠ 176) : Calls Tryz.prog 59 #[.agg #[.iface t y]] w (AskF FNum w false) := by
  have ht := taNum_no t y h
  go_enter Tryz.func59, Tryz.ntmps59
  go_wp2
  exact bodyPost_ret (v := .tuple #[(.agg #[.bool false, .int .u64 0, .int .u64 0, .int .i64 0]), .bool false]) (by simp [results, Tryz.results59, go_sem]) rfl ⟨_, ⟨_, _, _, _, rfl⟩, rfl, (by (repeat (first | exact Below.refl _ _ | refine Below.alloc ?_ (by simp <;> omega) _)))⟩
set_option maxRecDepth 100000 in
theorem asDate_nilF (w : World) : Calls Tryz.prog 78 #[.agg #[.nilIface]] w (AskF FDate w false) := by
  have ht := taDate_nil
  go_enter Tryz.func78, Tryz.ntmps78
  go_wp2
  exact bodyPost_ret (v := .tuple #[(.agg #[.int .i64 0, .int .i64 0, .int .i64 0]), .bool false]) (by simp [results, Tryz.results78, go_sem]) rfl ⟨_, ⟨_, _, _, rfl⟩, rfl, (by (repeat (first | exact Below.refl _ _ | refine Below.alloc ?_ (by simp <;> omega) _)))⟩
set_option maxRecDepth 100000 in
theorem asDate_noF (w : World) (t : TypeId) (y : Value) (h : t ≠ 184) : Calls Tryz.prog 78 #[.agg #[.iface t y]] w (AskF FDate w false) := by
  have ht := taDate_no t y h
  go_enter Tryz.func78, Tryz.ntmps78
  go_wp2
  exact bodyPost_ret (v := .tuple #[(.agg #[.int .i64 0, .int .i64 0, .int .i64 0]), .bool false]) (by simp [results, Tryz.results78, go_sem]) rfl ⟨_, ⟨_, _, _, rfl⟩, rfl, (by (repeat (first | exact Below.refl _ _ | refine Below.alloc ?_ (by simp <;> omega) _)))⟩
set_option maxRecDepth 100000 in
theorem asTime_nilF (w : World) : Calls Tryz.prog 79 #[.agg #[.nilIface]] w (AskF FTime w false) := by
  have ht := taTime_nil
  go_enter Tryz.func79, Tryz.ntmps79
  go_wp2
  exact bodyPost_ret (v := .tuple #[(.agg #[.int .i64 0, .bool false, .int .i64 0]), .bool false]) (by simp [results, Tryz.results79, go_sem]) rfl ⟨_, ⟨_, _, _, rfl⟩, rfl, (by (repeat (first | exact Below.refl _ _ | refine Below.alloc ?_ (by simp <;> omega) _)))⟩
set_option maxRecDepth 100000 in
theorem asTime_noF (w : World) (t : TypeId) (y : Value) (h : t ≠ 186) : Calls Tryz.prog 79 #[.agg #[.iface t y]] w (AskF FTime w false) := by
  have ht := taTime_no t y h
  go_enter Tryz.func79, Tryz.ntmps79
  go_wp2
  exact bodyPost_ret (v := .tuple #[(.agg #[.int .i64 0, .bool false, .int .i64 0]), .bool false]) (by simp [results, Tryz.results79, go_sem]) rfl ⟨_, ⟨_, _, _, rfl⟩, rfl, (by (repeat (first | exact Below.refl _ _ | refine Below.alloc ?_ (by simp <;> omega) _)))⟩
set_option maxRecDepth 100000 in
theorem asMoment_nilF (w : World) : Calls Tryz.prog 80 #[.agg #[.nilIface]] w (AskF FMoment w false) := by
  have ht := taMoment_nil
  go_enter Tryz.func80, Tryz.ntmps80
  go_wp2
  exact bodyPost_ret (v := .tuple #[(.agg #[.int .i64 0, .int .i64 0, .int .i64 0, .int .i64 0, .bool false, .int .i64 0]), .bool false]) (by simp [results, Tryz.results80, go_sem]) rfl ⟨_, ⟨_, _, _, _, _, _, rfl⟩, rfl, (by (repeat (first | exact Below.refl _ _ | refine Below.alloc ?_ (by simp <;> omega) _)))⟩
set_option maxRecDepth 100000 in
theorem asMoment_noF (w : World) (t : TypeId) (y : Value) (h : t ≠ 188) : Calls Tryz.prog 80 #[.agg #[.iface t y]] w (AskF FMoment w false) := by
  have ht := taMoment_no t y h
  go_enter Tryz.func80, Tryz.ntmps80
  go_wp2
  exact bodyPost_ret (v := .tuple #[(.agg #[.int .i64 0, .int .i64 0, .int .i64 0, .int .i64 0, .bool false, .int .i64 0]), .bool false]) (by simp [results, Tryz.results80, go_sem]) rfl ⟨_, ⟨_, _, _, _, _, _, rfl⟩, rfl, (by (repeat (first | exact Below.refl _ _ | refine Below.alloc ?_ (by simp <;> omega) _)))⟩
theorem isVal_form {w : World} {V : Val} {x : Value} (h : IsVal w V x) : x = .nilIface ∨ ∃ t y, x = .iface t y := by
  cases V with
  | nul => exact .inl h
  | leaf t y => exact .inr ⟨t, y, h.1⟩
  | list n f => obtain ⟨A, c, rfl, _⟩ := h; exact .inr ⟨_, _, rfl⟩
  | ctx N f => obtain ⟨A, c, A', c', rfl, _⟩ := h; exact .inr ⟨_, _, rfl⟩
  | range a b i0 i1 => obtain ⟨y, z, rfl, _⟩ := h; exact .inr ⟨_, _, rfl⟩
  | func t y n => exact .inr ⟨_, _, h⟩
theorem kindV_rng (V : Val) : 1 ≤ kindV V ∧ kindV V ≤ 13 := by
  cases V with
  | leaf t y =>
    simp only [kindV]
    repeat' split
    all_goals omega
  | _ => simp [kindV]
theorem ctx_ask {w : World} {N : List ByteArray} {xs : List Value} {e : Ending} {w' : World} (h : CtxOut w N xs e w') : Ask3Out w true e w' := by
  obtain ⟨A, c, A', c', h1, h2⟩ := h
  exact ⟨_, _, h1, h2.2.2⟩
theorem askBool {w0 : World} (V : Val) (x : Value) (h : IsVal w0 V x) (w : World) (hb : Below w0.heap.size w0 w) : Calls Tryz.prog 76 #[.agg #[x]] w (AskOut w (kindV V == 2)) := by
  have h := IsVal.keep hb _ _ h
  clear hb
  cases V with
  | nul => obtain rfl : x = .nilIface := h; exact asBool_nil w
  | leaf t y =>
    obtain ⟨rfl, q, hl⟩ := h
    cases hl with
    | bool b => exact (asBool_yes w b).mono fun e w' ⟨h1, h2⟩ => ⟨_, h1, h2⟩
    | num => exact asBool_no w _ _ (by decide)
    | text => exact asBool_no w _ _ (by decide)
    | day => exact asBool_no w _ _ (by decide)
    | time => exact asBool_no w _ _ (by decide)
    | instant => exact asBool_no w _ _ (by decide)
    | days => exact asBool_no w _ _ (by decide)
    | months => exact asBool_no w _ _ (by decide)
  | list m f => obtain ⟨A, c, rfl, _⟩ := h; exact asBool_no w _ _ (by decide)
  | ctx N f => obtain ⟨A, c, A', c', rfl, _⟩ := h; exact asBool_no w _ _ (by decide)
  | range a b i0 i1 => obtain ⟨y, z, rfl, _⟩ := h; exact asBool_no w _ _ (by decide)
  | func t y m => obtain rfl : x = _ := h; exact asBool_no w _ _ (by decide)
theorem askNum {w0 : World} (V : Val) (x : Value) (h : IsVal w0 V x) (w : World) (hb : Below w0.heap.size w0 w) : Calls Tryz.prog 59 #[.agg #[x]] w (AskF FNum w (kindV V == 3)) := by
  have h := IsVal.keep hb _ _ h
  clear hb
  cases V with
  | nul => obtain rfl : x = .nilIface := h; exact asNum_nilF w
  | leaf t y =>
    obtain ⟨rfl, q, hl⟩ := h
    cases hl with
    | bool => exact asNum_noF w _ _ (by decide)
    | num b hi lo e => exact (asNum_yes w b hi lo e).mono fun e w' ⟨h1, h2⟩ => ⟨_, ⟨_, _, _, _, rfl⟩, h1, h2⟩
    | text => exact asNum_noF w _ _ (by decide)
    | day => exact asNum_noF w _ _ (by decide)
    | time => exact asNum_noF w _ _ (by decide)
    | instant => exact asNum_noF w _ _ (by decide)
    | days => exact asNum_noF w _ _ (by decide)
    | months => exact asNum_noF w _ _ (by decide)
  | list m f => obtain ⟨A, c, rfl, _⟩ := h; exact asNum_noF w _ _ (by decide)
  | ctx N f => obtain ⟨A, c, A', c', rfl, _⟩ := h; exact asNum_noF w _ _ (by decide)
  | range a b i0 i1 => obtain ⟨y, z, rfl, _⟩ := h; exact asNum_noF w _ _ (by decide)
  | func t y m => obtain rfl : x = _ := h; exact asNum_noF w _ _ (by decide)
theorem askText {w0 : World} (V : Val) (x : Value) (h : IsVal w0 V x) (w : World) (hb : Below w0.heap.size w0 w) : Calls Tryz.prog 77 #[.agg #[x]] w (AskOut w (kindV V == 4)) := by
  have h := IsVal.keep hb _ _ h
  clear hb
  cases V with
  | nul => obtain rfl : x = .nilIface := h; exact asText_nil w
  | leaf t y =>
    obtain ⟨rfl, q, hl⟩ := h
    cases hl with
    | bool => exact asText_no w _ _ (by decide)
    | num => exact asText_no w _ _ (by decide)
    | text s => exact (asText_yes w s).mono fun e w' ⟨h1, h2⟩ => ⟨_, h1, h2⟩
    | day => exact asText_no w _ _ (by decide)
    | time => exact asText_no w _ _ (by decide)
    | instant => exact asText_no w _ _ (by decide)
    | days => exact asText_no w _ _ (by decide)
    | months => exact asText_no w _ _ (by decide)
  | list m f => obtain ⟨A, c, rfl, _⟩ := h; exact asText_no w _ _ (by decide)
  | ctx N f => obtain ⟨A, c, A', c', rfl, _⟩ := h; exact asText_no w _ _ (by decide)
  | range a b i0 i1 => obtain ⟨y, z, rfl, _⟩ := h; exact asText_no w _ _ (by decide)
  | func t y m => obtain rfl : x = _ := h; exact asText_no w _ _ (by decide)
theorem askDate {w0 : World} (V : Val) (x : Value) (h : IsVal w0 V x) (w : World) (hb : Below w0.heap.size w0 w) : Calls Tryz.prog 78 #[.agg #[x]] w (AskF FDate w (kindV V == 5)) := by
  have h := IsVal.keep hb _ _ h
  clear hb
  cases V with
  | nul => obtain rfl : x = .nilIface := h; exact asDate_nilF w
  | leaf t y =>
    obtain ⟨rfl, q, hl⟩ := h
    cases hl with
    | bool => exact asDate_noF w _ _ (by decide)
    | num => exact asDate_noF w _ _ (by decide)
    | text => exact asDate_noF w _ _ (by decide)
    | day y m d => exact (asDate_yes w y m d).mono fun e w' ⟨h1, h2⟩ => ⟨_, ⟨_, _, _, rfl⟩, h1, h2⟩
    | time => exact asDate_noF w _ _ (by decide)
    | instant => exact asDate_noF w _ _ (by decide)
    | days => exact asDate_noF w _ _ (by decide)
    | months => exact asDate_noF w _ _ (by decide)
  | list m f => obtain ⟨A, c, rfl, _⟩ := h; exact asDate_noF w _ _ (by decide)
  | ctx N f => obtain ⟨A, c, A', c', rfl, _⟩ := h; exact asDate_noF w _ _ (by decide)
  | range a b i0 i1 => obtain ⟨y, z, rfl, _⟩ := h; exact asDate_noF w _ _ (by decide)
  | func t y m => obtain rfl : x = _ := h; exact asDate_noF w _ _ (by decide)
theorem askTime {w0 : World} (V : Val) (x : Value) (h : IsVal w0 V x) (w : World) (hb : Below w0.heap.size w0 w) : Calls Tryz.prog 79 #[.agg #[x]] w (AskF FTime w (kindV V == 6)) := by
  have h := IsVal.keep hb _ _ h
  clear hb
  cases V with
  | nul => obtain rfl : x = .nilIface := h; exact asTime_nilF w
  | leaf t y =>
    obtain ⟨rfl, q, hl⟩ := h
    cases hl with
    | bool => exact asTime_noF w _ _ (by decide)
    | num => exact asTime_noF w _ _ (by decide)
    | text => exact asTime_noF w _ _ (by decide)
    | day => exact asTime_noF w _ _ (by decide)
    | time s z o => exact (asTime_yes w s z o).mono fun e w' ⟨h1, h2⟩ => ⟨_, ⟨_, _, _, rfl⟩, h1, h2⟩
    | instant => exact asTime_noF w _ _ (by decide)
    | days => exact asTime_noF w _ _ (by decide)
    | months => exact asTime_noF w _ _ (by decide)
  | list m f => obtain ⟨A, c, rfl, _⟩ := h; exact asTime_noF w _ _ (by decide)
  | ctx N f => obtain ⟨A, c, A', c', rfl, _⟩ := h; exact asTime_noF w _ _ (by decide)
  | range a b i0 i1 => obtain ⟨y, z, rfl, _⟩ := h; exact asTime_noF w _ _ (by decide)
  | func t y m => obtain rfl : x = _ := h; exact asTime_noF w _ _ (by decide)
theorem askMoment {w0 : World} (V : Val) (x : Value) (h : IsVal w0 V x) (w : World) (hb : Below w0.heap.size w0 w) : Calls Tryz.prog 80 #[.agg #[x]] w (AskF FMoment w (kindV V == 7)) := by
  have h := IsVal.keep hb _ _ h
  clear hb
  cases V with
  | nul => obtain rfl : x = .nilIface := h; exact asMoment_nilF w
  | leaf t y =>
    obtain ⟨rfl, q, hl⟩ := h
    cases hl with
    | bool => exact asMoment_noF w _ _ (by decide)
    | num => exact asMoment_noF w _ _ (by decide)
    | text => exact asMoment_noF w _ _ (by decide)
    | day => exact asMoment_noF w _ _ (by decide)
    | time => exact asMoment_noF w _ _ (by decide)
    | instant y m d s z o => exact (asMoment_yes w y m d s z o).mono fun e w' ⟨h1, h2⟩ => ⟨_, ⟨_, _, _, _, _, _, rfl⟩, h1, h2⟩
    | days => exact asMoment_noF w _ _ (by decide)
    | months => exact asMoment_noF w _ _ (by decide)
  | list m f => obtain ⟨A, c, rfl, _⟩ := h; exact asMoment_noF w _ _ (by decide)
  | ctx N f => obtain ⟨A, c, A', c', rfl, _⟩ := h; exact asMoment_noF w _ _ (by decide)
  | range a b i0 i1 => obtain ⟨y, z, rfl, _⟩ := h; exact asMoment_noF w _ _ (by decide)
  | func t y m => obtain rfl : x = _ := h; exact asMoment_noF w _ _ (by decide)
theorem askDays {w0 : World} (V : Val) (x : Value) (h : IsVal w0 V x) (w : World) (hb : Below w0.heap.size w0 w) : Calls Tryz.prog 81 #[.agg #[x]] w (AskOut w (kindV V == 8)) := by
  have h := IsVal.keep hb _ _ h
  clear hb
  cases V with
  | nul => obtain rfl : x = .nilIface := h; exact asDays_nil w
  | leaf t y =>
    obtain ⟨rfl, q, hl⟩ := h
    cases hl with
    | bool => exact asDays_no w _ _ (by decide)
    | num => exact asDays_no w _ _ (by decide)
    | text => exact asDays_no w _ _ (by decide)
    | day => exact asDays_no w _ _ (by decide)
    | time => exact asDays_no w _ _ (by decide)
    | instant => exact asDays_no w _ _ (by decide)
    | days n => exact (asDays_yes w n).mono fun e w' ⟨h1, h2⟩ => ⟨_, h1, h2⟩
    | months => exact asDays_no w _ _ (by decide)
  | list m f => obtain ⟨A, c, rfl, _⟩ := h; exact asDays_no w _ _ (by decide)
  | ctx N f => obtain ⟨A, c, A', c', rfl, _⟩ := h; exact asDays_no w _ _ (by decide)
  | range a b i0 i1 => obtain ⟨y, z, rfl, _⟩ := h; exact asDays_no w _ _ (by decide)
  | func t y m => obtain rfl : x = _ := h; exact asDays_no w _ _ (by decide)
theorem askMonths {w0 : World} (V : Val) (x : Value) (h : IsVal w0 V x) (w : World) (hb : Below w0.heap.size w0 w) : Calls Tryz.prog 82 #[.agg #[x]] w (AskOut w (kindV V == 9)) := by
  have h := IsVal.keep hb _ _ h
  clear hb
  cases V with
  | nul => obtain rfl : x = .nilIface := h; exact asMonths_nil w
  | leaf t y =>
    obtain ⟨rfl, q, hl⟩ := h
    cases hl with
    | bool => exact asMonths_no w _ _ (by decide)
    | num => exact asMonths_no w _ _ (by decide)
    | text => exact asMonths_no w _ _ (by decide)
    | day => exact asMonths_no w _ _ (by decide)
    | time => exact asMonths_no w _ _ (by decide)
    | instant => exact asMonths_no w _ _ (by decide)
    | days => exact asMonths_no w _ _ (by decide)
    | months n => exact (asMonths_yes w n).mono fun e w' ⟨h1, h2⟩ => ⟨_, h1, h2⟩
  | list m f => obtain ⟨A, c, rfl, _⟩ := h; exact asMonths_no w _ _ (by decide)
  | ctx N f => obtain ⟨A, c, A', c', rfl, _⟩ := h; exact asMonths_no w _ _ (by decide)
  | range a b i0 i1 => obtain ⟨y, z, rfl, _⟩ := h; exact asMonths_no w _ _ (by decide)
  | func t y m => obtain rfl : x = _ := h; exact asMonths_no w _ _ (by decide)
theorem askList {w0 : World} (V : Val) (x : Value) (h : IsVal w0 V x) (w : World) (hb : Below w0.heap.size w0 w) : Calls Tryz.prog 13 #[.agg #[x]] w (AskOut w (kindV V == 10)) := by
  have h := IsVal.keep hb _ _ h
  clear hb
  cases V with
  | nul => obtain rfl : x = .nilIface := h; exact asList_nil w
  | leaf t y =>
    obtain ⟨rfl, q, hl⟩ := h
    cases hl with
    | bool => exact asList_no w _ _ (by decide)
    | num => exact asList_no w _ _ (by decide)
    | text => exact asList_no w _ _ (by decide)
    | day => exact asList_no w _ _ (by decide)
    | time => exact asList_no w _ _ (by decide)
    | instant => exact asList_no w _ _ (by decide)
    | days => exact asList_no w _ _ (by decide)
    | months => exact asList_no w _ _ (by decide)
  | list m f =>
    obtain ⟨A, c, rfl, hm, g1, g2, hr⟩ := h
    obtain ⟨xs, hl, hrow, _, h1⟩ := row_cells hr
    exact (asList_yes w A c m xs hl hm h1 hrow).mono fun e w' ⟨A, c, h1, _, _, _, h2⟩ => ⟨_, h1, h2⟩
  | ctx N f => obtain ⟨A, c, A', c', rfl, _⟩ := h; exact asList_no w _ _ (by decide)
  | range a b i0 i1 => obtain ⟨y, z, rfl, _⟩ := h; exact asList_no w _ _ (by decide)
  | func t y m => obtain rfl : x = _ := h; exact asList_no w _ _ (by decide)
theorem askContext {w0 : World} (V : Val) (x : Value) (h : IsVal w0 V x) (w : World) (hb : Below w0.heap.size w0 w) : Calls Tryz.prog 83 #[.agg #[x]] w (Ask3Out w (kindV V == 11)) := by
  have h := IsVal.keep hb _ _ h
  clear hb
  cases V with
  | nul => obtain rfl : x = .nilIface := h; exact asContext_nil w
  | leaf t y =>
    obtain ⟨rfl, q, hl⟩ := h
    cases hl with
    | bool => exact asContext_no w _ _ (by decide)
    | num => exact asContext_no w _ _ (by decide)
    | text => exact asContext_no w _ _ (by decide)
    | day => exact asContext_no w _ _ (by decide)
    | time => exact asContext_no w _ _ (by decide)
    | instant => exact asContext_no w _ _ (by decide)
    | days => exact asContext_no w _ _ (by decide)
    | months => exact asContext_no w _ _ (by decide)
  | list m f => obtain ⟨A, c, rfl, _⟩ := h; exact asContext_no w _ _ (by decide)
  | ctx N f =>
    obtain ⟨A, c, A', c', rfl, hm, g1, g2, g3, g4, hS, hr⟩ := h
    obtain ⟨xs, hl, hrow, _, h1⟩ := row_cells hr
    exact (asContext_yes w A A' c c' N.length N xs rfl hl hm h1 (strs_cells hS) hrow).mono fun e w' h => ctx_ask h
  | range a b i0 i1 => obtain ⟨y, z, rfl, _⟩ := h; exact asContext_no w _ _ (by decide)
  | func t y m => obtain rfl : x = _ := h; exact asContext_no w _ _ (by decide)
theorem askFunc {w0 : World} (V : Val) (x : Value) (h : IsVal w0 V x) (w : World) (hb : Below w0.heap.size w0 w) : Calls Tryz.prog 31 #[.agg #[x]] w (Ask3Out w (kindV V == 13)) := by
  have h := IsVal.keep hb _ _ h
  clear hb
  cases V with
  | nul => obtain rfl : x = .nilIface := h; exact asFunc_nil w
  | leaf t y =>
    obtain ⟨rfl, q, hl⟩ := h
    cases hl with
    | bool => exact asFunc_no w _ _ (by decide)
    | num => exact asFunc_no w _ _ (by decide)
    | text => exact asFunc_no w _ _ (by decide)
    | day => exact asFunc_no w _ _ (by decide)
    | time => exact asFunc_no w _ _ (by decide)
    | instant => exact asFunc_no w _ _ (by decide)
    | days => exact asFunc_no w _ _ (by decide)
    | months => exact asFunc_no w _ _ (by decide)
  | list m f => obtain ⟨A, c, rfl, _⟩ := h; exact asFunc_no w _ _ (by decide)
  | ctx N f => obtain ⟨A, c, A', c', rfl, _⟩ := h; exact asFunc_no w _ _ (by decide)
  | range a b i0 i1 => obtain ⟨y, z, rfl, _⟩ := h; exact asFunc_no w _ _ (by decide)
  | func t y m => obtain rfl : x = _ := h; exact (asFunc_yes w t y m).mono fun e w' ⟨h1, h2⟩ => ⟨_, _, h1, h2⟩
end Go.Proofs.YthmogphlnjpakaaGreatDoor

namespace Go.Proofs.YthmogphlnjpakaaGreatDoor
open Go Go.Ord Go.Typ Go.RowKit
structure AF (w : World) (x : Value) (w' : World) : Prop where
  c0 : w'.cell? ⟨w.heap.size, 0, none⟩ = some x
  below : Below w.heap.size w w'
  lt : w.heap.size + 1 ≤ w'.heap.size
theorem AF.start (w : World) (x : Value) : AF w x (w.alloc (.cells #[x] 30)) := ⟨by rw [World.cell?_alloc_at _ _ _ _ rfl]; rfl, box_one _ _, by simp⟩
theorem AF.on {w w' w1 : World} {x : Value} (h : AF w x w') (hb : Below (w.heap.size + 1) w' w1) : AF w x w1 :=
  ⟨(hb.cell (by show w.heap.size < _; omega)).trans h.c0, h.below.trans (hb.mono (by omega)), Nat.le_trans h.lt hb.size⟩
theorem AF.off {w w' w1 : World} {x : Value} (h : AF w x w') (hb : Below w'.heap.size w' w1) : AF w x w1 := h.on (hb.mono h.lt)
theorem AF.c {w w' : World} {x : Value} (h : AF w x w') (o : Obj) : (w'.alloc o).cell? ⟨w.heap.size, 0, none⟩ = some x := (h.on ((Below.refl (w.heap.size + 1) _).alloc h.lt o)).c0
def P1 (w : World) (x : Value) (b : Bool) (e : Ending) (w' : World) : Prop := ∃ v, e = .returned (.tuple #[v, .bool b]) ∧ AF w x w'
def PF (F : Value → Prop) (w : World) (x : Value) (b : Bool) (e : Ending) (w' : World) : Prop := ∃ v, F v ∧ e = .returned (.tuple #[v, .bool b]) ∧ AF w x w'
def P3 (w : World) (x : Value) (b : Bool) (e : Ending) (w' : World) : Prop := ∃ v u, e = .returned (.tuple #[v, u, .bool b]) ∧ AF w x w'
def P4 (F : Value → Value → Prop) (w : World) (x : Value) (b : Bool) (e : Ending) (w' : World) : Prop := ∃ v u, F v u ∧ e = .returned (.tuple #[v, u, .bool b]) ∧ AF w x w'
theorem AF.p1 {w w' w1 : World} {x : Value} {b : Bool} {e : Ending} (G : AF w x w') (h : AskOut w' b e w1) : P1 w x b e w1 := by obtain ⟨v, h1, h2⟩ := h; exact ⟨v, h1, G.off h2⟩
theorem AF.pF {F : Value → Prop} {w w' w1 : World} {x : Value} {b : Bool} {e : Ending} (G : AF w x w') (h : AskF F w' b e w1) : PF F w x b e w1 := by obtain ⟨v, h0, h1, h2⟩ := h; exact ⟨v, h0, h1, G.off h2⟩
theorem AF.p3 {w w' w1 : World} {x : Value} {b : Bool} {e : Ending} (G : AF w x w') (h : Ask3Out w' b e w1) : P3 w x b e w1 := by obtain ⟨v, u, h1, h2⟩ := h; exact ⟨v, u, h1, G.off h2⟩
theorem AF.p4 {F : Value → Value → Prop} {w w' w1 : World} {x : Value} {b : Bool} {e : Ending} (G : AF w x w') (h : Ask4 F w' b e w1) : P4 F w x b e w1 := by obtain ⟨v, u, h0, h1, h2⟩ := h; exact ⟨v, u, h0, h1, G.off h2⟩
def askN (k : Int) : Int := if k = 1 then 0 else 1
def AskedOut (w : World) (k : Int) (e : Ending) (w' : World) : Prop := e = .returned (.tuple #[.int .i64 (askN k), .int .i64 k]) ∧ Below w.heap.size w w'
def F00 (y z : Value) : Prop := ∃  (i0 i1 : Bool), y = .agg #[.nilIface, .nilIface] ∧ z = .agg #[.bool i0, .bool i1]
def F01 (y z : Value) : Prop := ∃ (t : TypeId) (u : Value) (i0 i1 : Bool), y = .agg #[.nilIface, .iface t u] ∧ z = .agg #[.bool i0, .bool i1]
def F10 (y z : Value) : Prop := ∃ (t : TypeId) (u : Value) (i0 i1 : Bool), y = .agg #[.iface t u, .nilIface] ∧ z = .agg #[.bool i0, .bool i1]
def F11 (y z : Value) : Prop := ∃ (t : TypeId) (u : Value) (t' : TypeId) (u' : Value) (i0 i1 : Bool), y = .agg #[.iface t u, .iface t' u'] ∧ z = .agg #[.bool i0, .bool i1]
theorem askRangeF {w0 : World} (V : Val) (x : Value) (h : IsVal w0 V x) (w : World) : (∀ w' : World, Below w.heap.size w w' → Calls Tryz.prog 20 #[.agg #[x]] w' (Ask4 F00 w' (kindV V == 12))) ∨ (∀ w' : World, Below w.heap.size w w' → Calls Tryz.prog 20 #[.agg #[x]] w' (Ask4 F01 w' (kindV V == 12))) ∨ (∀ w' : World, Below w.heap.size w w' → Calls Tryz.prog 20 #[.agg #[x]] w' (Ask4 F10 w' (kindV V == 12))) ∨ (∀ w' : World, Below w.heap.size w w' → Calls Tryz.prog 20 #[.agg #[x]] w' (Ask4 F11 w' (kindV V == 12))) := by
  cases V with
  | nul => obtain rfl : x = .nilIface := h; exact .inl fun w' _ => (asRange_nil w').mono fun e w2 ⟨h1, h2⟩ => ⟨_, _, ⟨_, _, rfl, rfl⟩, h1, h2⟩
  | leaf t y =>
    obtain ⟨rfl, q, hl⟩ := h
    cases hl <;> exact .inl fun w' _ => (asRange_no w' _ _ (by decide)).mono fun e w2 ⟨h1, h2⟩ => ⟨_, _, ⟨_, _, rfl, rfl⟩, h1, h2⟩
  | list m f => obtain ⟨A, c, rfl, _⟩ := h; exact .inl fun w' _ => (asRange_no w' _ _ (by decide)).mono fun e w2 ⟨h1, h2⟩ => ⟨_, _, ⟨_, _, rfl, rfl⟩, h1, h2⟩
  | ctx N f => obtain ⟨A, c, A', c', rfl, _⟩ := h; exact .inl fun w' _ => (asRange_no w' _ _ (by decide)).mono fun e w2 ⟨h1, h2⟩ => ⟨_, _, ⟨_, _, rfl, rfl⟩, h1, h2⟩
  | func t y m => obtain rfl : x = _ := h; exact .inl fun w' _ => (asRange_no w' _ _ (by decide)).mono fun e w2 ⟨h1, h2⟩ => ⟨_, _, ⟨_, _, rfl, rfl⟩, h1, h2⟩
  | range a b i0 i1 =>
    obtain ⟨y, z, rfl, ha, hb⟩ := h
    rcases isVal_form ha with rfl | ⟨t, u, rfl⟩ <;> rcases isVal_form hb with rfl | ⟨t', u', rfl⟩
    · exact .inl (fun w' _ => (asRange_y00 w' i0 i1).mono fun e w2 ⟨h1, h2⟩ => ⟨_, _, ⟨_, _, rfl, rfl⟩, h1, h2⟩)
    · exact .inr (.inl (fun w' _ => (asRange_y01 w' t' u' i0 i1).mono fun e w2 ⟨h1, h2⟩ => ⟨_, _, ⟨_, _, _, _, rfl, rfl⟩, h1, h2⟩))
    · exact .inr (.inr (.inl (fun w' _ => (asRange_y10 w' t u i0 i1).mono fun e w2 ⟨h1, h2⟩ => ⟨_, _, ⟨_, _, _, _, rfl, rfl⟩, h1, h2⟩)))
    · exact .inr (.inr (.inr (fun w' _ => (asRange_y11 w' t u t' u' i0 i1).mono fun e w2 ⟨h1, h2⟩ => ⟨_, _, ⟨_, _, _, _, _, _, rfl, rfl⟩, h1, h2⟩)))
def AskRel (w : World) (K i n f : Int) (wr : World) : Prop := (2 ≤ K ∧ K < i + 2 → n = 1 ∧ f = K) ∧ (¬ (2 ≤ K ∧ K < i + 2) → n = 0 ∧ f = 1) ∧ Below w.heap.size w wr
theorem AskRel.yes {w wr : World} {K i n f j k : Int} (h : AskRel w K i n f wr) (hk : K = k) (h2 : 2 ≤ k) (hj : k = j + 1) : AskRel w K j 1 k wr :=
  ⟨fun _ => ⟨rfl, hk.symm⟩, fun h' => absurd ⟨by omega, by omega⟩ h', h.2.2⟩
theorem AskRel.no {w wr : World} {K i n f j k : Int} (h : AskRel w K i n f wr) (hk : K ≠ k) (hi : k = i + 2) (hj : k = j + 1) : AskRel w K j n f wr :=
  ⟨fun h' => h.1 ⟨h'.1, by omega⟩, fun h' => h.2.1 fun h'' => h' ⟨h''.1, by omega⟩, h.2.2⟩
theorem AskRel.first {w wr : World} {K i n f k : Int} (h : AskRel w K i n f wr) (hk : K = k) (hi : k = i + 2) : n = 0 ∧ f = 1 := h.2.1 (by omega)
theorem ix0 (q2 q3 q4 q5 q6 q7 q8 q9 q10 q11 q12 q13 : Bool) (w : World) : (Instr.index 136 (.agg #[.bool q2, .bool q3, .bool q4, .bool q5, .bool q6, .bool q7, .bool q8, .bool q9, .bool q10, .bool q11, .bool q12, .bool q13]) (.int .i64 0)).run Tryz.prog w = .ok (.bool q2) w := by kernel_rfl
theorem ix1 (q2 q3 q4 q5 q6 q7 q8 q9 q10 q11 q12 q13 : Bool) (w : World) : (Instr.index 136 (.agg #[.bool q2, .bool q3, .bool q4, .bool q5, .bool q6, .bool q7, .bool q8, .bool q9, .bool q10, .bool q11, .bool q12, .bool q13]) (.int .i64 1)).run Tryz.prog w = .ok (.bool q3) w := by kernel_rfl
theorem ix2 (q2 q3 q4 q5 q6 q7 q8 q9 q10 q11 q12 q13 : Bool) (w : World) : (Instr.index 136 (.agg #[.bool q2, .bool q3, .bool q4, .bool q5, .bool q6, .bool q7, .bool q8, .bool q9, .bool q10, .bool q11, .bool q12, .bool q13]) (.int .i64 2)).run Tryz.prog w = .ok (.bool q4) w := by kernel_rfl
theorem ix3 (q2 q3 q4 q5 q6 q7 q8 q9 q10 q11 q12 q13 : Bool) (w : World) : (Instr.index 136 (.agg #[.bool q2, .bool q3, .bool q4, .bool q5, .bool q6, .bool q7, .bool q8, .bool q9, .bool q10, .bool q11, .bool q12, .bool q13]) (.int .i64 3)).run Tryz.prog w = .ok (.bool q5) w := by kernel_rfl
theorem ix4 (q2 q3 q4 q5 q6 q7 q8 q9 q10 q11 q12 q13 : Bool) (w : World) : (Instr.index 136 (.agg #[.bool q2, .bool q3, .bool q4, .bool q5, .bool q6, .bool q7, .bool q8, .bool q9, .bool q10, .bool q11, .bool q12, .bool q13]) (.int .i64 4)).run Tryz.prog w = .ok (.bool q6) w := by kernel_rfl
theorem ix5 (q2 q3 q4 q5 q6 q7 q8 q9 q10 q11 q12 q13 : Bool) (w : World) : (Instr.index 136 (.agg #[.bool q2, .bool q3, .bool q4, .bool q5, .bool q6, .bool q7, .bool q8, .bool q9, .bool q10, .bool q11, .bool q12, .bool q13]) (.int .i64 5)).run Tryz.prog w = .ok (.bool q7) w := by kernel_rfl
theorem ix6 (q2 q3 q4 q5 q6 q7 q8 q9 q10 q11 q12 q13 : Bool) (w : World) : (Instr.index 136 (.agg #[.bool q2, .bool q3, .bool q4, .bool q5, .bool q6, .bool q7, .bool q8, .bool q9, .bool q10, .bool q11, .bool q12, .bool q13]) (.int .i64 6)).run Tryz.prog w = .ok (.bool q8) w := by kernel_rfl
theorem ix7 (q2 q3 q4 q5 q6 q7 q8 q9 q10 q11 q12 q13 : Bool) (w : World) : (Instr.index 136 (.agg #[.bool q2, .bool q3, .bool q4, .bool q5, .bool q6, .bool q7, .bool q8, .bool q9, .bool q10, .bool q11, .bool q12, .bool q13]) (.int .i64 7)).run Tryz.prog w = .ok (.bool q9) w := by kernel_rfl
theorem ix8 (q2 q3 q4 q5 q6 q7 q8 q9 q10 q11 q12 q13 : Bool) (w : World) : (Instr.index 136 (.agg #[.bool q2, .bool q3, .bool q4, .bool q5, .bool q6, .bool q7, .bool q8, .bool q9, .bool q10, .bool q11, .bool q12, .bool q13]) (.int .i64 8)).run Tryz.prog w = .ok (.bool q10) w := by kernel_rfl
theorem ix9 (q2 q3 q4 q5 q6 q7 q8 q9 q10 q11 q12 q13 : Bool) (w : World) : (Instr.index 136 (.agg #[.bool q2, .bool q3, .bool q4, .bool q5, .bool q6, .bool q7, .bool q8, .bool q9, .bool q10, .bool q11, .bool q12, .bool q13]) (.int .i64 9)).run Tryz.prog w = .ok (.bool q11) w := by kernel_rfl
theorem ix10 (q2 q3 q4 q5 q6 q7 q8 q9 q10 q11 q12 q13 : Bool) (w : World) : (Instr.index 136 (.agg #[.bool q2, .bool q3, .bool q4, .bool q5, .bool q6, .bool q7, .bool q8, .bool q9, .bool q10, .bool q11, .bool q12, .bool q13]) (.int .i64 10)).run Tryz.prog w = .ok (.bool q12) w := by kernel_rfl
theorem ix11 (q2 q3 q4 q5 q6 q7 q8 q9 q10 q11 q12 q13 : Bool) (w : World) : (Instr.index 136 (.agg #[.bool q2, .bool q3, .bool q4, .bool q5, .bool q6, .bool q7, .bool q8, .bool q9, .bool q10, .bool q11, .bool q12, .bool q13]) (.int .i64 11)).run Tryz.prog w = .ok (.bool q13) w := by kernel_rfl
end Go.Proofs.YthmogphlnjpakaaGreatDoor
