/-
  slices.Index and slices.Contains at names.
  value.Context.
  value.of: what stands around its loop.
-/
import Derived.Test.YthmogphlnjpakaaGreatDoorEl1
import Derived.Test.YthmogphlnjpakaaGreatDoorYb1
import Derived.Test.YthmogphlnjpakaaGreatDoorYe1
import Derived.Test.YthmogphlnjpakaaGreatDoorYa
import Derived.Test.YthmogphlnjpakaaGreatDoorYl1
import Derived.Maps.AppendAt

namespace Go.Proofs.YthmogphlnjpakaaGreatDoor
open Go Go.Ord Go.Typ Go.RowKit
theorem index_none (A : Option Addr) (c : Nat) (t : ByteArray) (w : World) :
    Calls Tryz.prog 68 #[.slice A 0 c, .string t] w fun e w' => e = .returned (.int .i64 (-1)) ∧ w = w' := by
  go_enter Tryz.func68, Tryz.ntmps68
  go_wp2
  go_loop [8] (fun i => i = .int .i64 0) (fun _ => 0)
  case atStart => rfl
  case round =>
    subst hrel
    go_wp2
    go_ret
    exact ⟨rfl, rfl⟩
theorem index_strs (A : Option Addr) (c : Nat) (N : List ByteArray) (t : ByteArray) (w : World) (n : Nat) (hn : N.length = n) (hm : n ≤ 9223372036854775807) (hs : Strs w A N) :
    Calls Tryz.prog 68 #[.slice A n c, .string t] w fun e w' => e = .returned (.int .i64 (fndAt N t 0)) ∧ w = w' := by
  subst hn
  by_cases h0 : 0 < N.length
  · obtain ⟨b, off, rfl, _, hc⟩ := hs.all h0
    exact index_any b off c N t w hm hc
  · have he : N = [] := List.eq_nil_of_length_eq_zero (by omega)
    subst he
    exact index_none A c t w
theorem contains_strs (A : Option Addr) (c : Nat) (N : List ByteArray) (t : ByteArray) (w : World) (n : Nat) (hn : N.length = n) (hm : n ≤ 9223372036854775807) (hs : Strs w A N) :
    Calls Tryz.prog 65 #[.slice A n c, .string t] w fun e w' => e = .returned (.bool (decide (0 ≤ fndAt N t 0))) ∧ w = w' := by
  have HI := Lib.hid (index_strs A c N t w n hn hm hs)
  go_enter Tryz.func65, Tryz.ntmps65
  go_wp2_with (go_at_call 68; refine HI.out.mono ?_; rintro e w' ⟨rfl, rfl⟩)
  go_ret
  exact ⟨rfl, rfl⟩
end Go.Proofs.YthmogphlnjpakaaGreatDoor

namespace Go.Proofs.YthmogphlnjpakaaGreatDoor
open Go Go.Ord Go.Typ Go.RowKit
def validS (s : ByteArray) : Bool := Lib.validD s.data.toList
theorem valid_later {base w : World} (hs : base.ShapedOpen Tryz.prog) (hT : Lib.TabIs Tryz.prog base "internal/strconv.uint64pow10" .u64 pow10s) (B : Begun base) (hU : Utf8At base) (hB : Below base.heap.size base w) (s : ByteArray) (hz : s.size ≤ 1048576) :
    Calls Tryz.prog 15 #[.string s] w (OneOut w (.bool (validS s))) :=
  tot_later hs hT hB Tryz.func15 (by kernel_rfl) (pure1 (by kernel_rfl)) rfl (valid_tot B.low hU s (Nat.le_trans hz (by decide)))
def namesOk (N : List ByteArray) (n : Nat) : Bool := N.length == n && allB N.length fun k => !dupAt N k && validS (N.getD k ByteArray.empty)
def ContextOut (w : World) (N : List ByteArray) (xs : List Value) (e : Ending) (w' : World) : Prop :=
  (namesOk N xs.length = true → ∃ A c A' c', e = .returned (.agg #[.iface 101 (.agg #[.slice A N.length c, .slice A' xs.length c'])]) ∧ N.length ≤ c ∧ c ≤ 9223372036854775807 ∧ xs.length ≤ c' ∧ c' ≤ 9223372036854775807 ∧ Strs w' A N ∧ RowOf w' A' xs ∧ Below w.heap.size w w' ∧ FreshA w A ∧ FreshA w A') ∧
  (namesOk N xs.length = false → e = .returned (.agg #[.nilIface]) ∧ Below w.heap.size w w')
theorem getD_mem {N : List ByteArray} {k : Nat} (h : k < N.length) : N.getD k ByteArray.empty ∈ N := by simp [List.getD, List.getElem?_eq_getElem h]
theorem contains_is {w : World} {A : Option Addr} {N : List ByteArray} {k c : Nat} {b : Bool} {s : ByteArray} (hk : k < N.length) (hm : N.length ≤ 1048576) (hS : Strs w A N) (hs : s = N.getD k ByteArray.empty) (hd : dupAt N k = b) :
    Calls Tryz.prog 65 #[.slice A k c, .string s] w fun e w' => e = .returned (.bool b) ∧ w = w' := by
  subst hs hd
  exact contains_strs A c (N.take k) _ w k (by rw [List.length_take]; omega) (by omega) (hS.take k)
theorem valid_is {w : World} {s : ByteArray} {b : Bool} (h : Calls Tryz.prog 15 #[.string s] w (OneOut w (.bool (validS s)))) (hv : validS s = b) : Calls Tryz.prog 15 #[.string s] w (OneOut w (.bool b)) := by
  rw [hv] at h
  exact h
theorem good_succ {p : Nat → Bool} {k : Nat} (h : ∀ q, q < k → p q = true) (hk : p k = true) : ∀ q, q < k + 1 → p q = true := fun q hq => by
  by_cases e : q = k
  · rw [e]
    exact hk
  · exact h q (by omega)
theorem names_bad {N : List ByteArray} {n k : Nat} (hk : k < N.length) (h : (!dupAt N k && validS (N.getD k ByteArray.empty)) = false) : namesOk N n = false := by
  unfold namesOk
  rw [allB_no hk h, Bool.and_false]
theorem names_good {N : List ByteArray} {n : Nat} (hn : N.length = n) (h : ∀ k, k < N.length → (!dupAt N k && validS (N.getD k ByteArray.empty)) = true) : namesOk N n = true := by
  unfold namesOk
  rw [allB_of h, hn]
  simp
theorem names_len {N : List ByteArray} {n : Nat} (hn : N.length ≠ n) : namesOk N n = false := by
  unfold namesOk
  rw [beq_eq_false_iff_ne.2 hn]
  rfl
theorem ctx_null {w : World} {N : List ByteArray} {xs : List Value} {e : Ending} {w' : World} (h : namesOk N xs.length = false) (he : e = .returned (.agg #[.nilIface])) (hb : Below w.heap.size w w') : ContextOut w N xs e w' :=
  ⟨(fun h' => Bool.noConfusion (h.symm.trans h')), fun _ => ⟨he, hb⟩⟩
structure CFacts (w : World) (w' : World) : Prop where
  c0 : w'.cell? ⟨w.heap.size, 0, none⟩ = some .nilIface
  f0 : w'.frozen? ⟨w.heap.size, 0, none⟩ = false
  below : Below w.heap.size w w'
  size : w.heap.size + 1 ≤ w'.heap.size
theorem CFacts.start (w : World) : CFacts w (w.alloc (.cells #[.nilIface] 30)) := ⟨by rw [World.cell?_alloc_at _ _ _ _ rfl]; rfl, World.frozen?_alloc_at _ _ _ _ rfl, box_one _ _, by simp⟩
theorem CFacts.on {w w' w1 : World} (h : CFacts w w') (hb : Below w'.heap.size w' w1) : CFacts w w1 := by
  have hs := h.size
  refine ⟨(hb.cell ?_).trans h.c0, (hb.frozen ?_).trans h.f0, h.below.trans (hb.mono h.below.size), Nat.le_trans hs hb.size⟩
  · show w.heap.size < _; omega
  · show w.heap.size < _; omega
set_option maxRecDepth 100000 in
set_option maxHeartbeats 3200000 in
theorem context_any {base : World} (hs : base.ShapedOpen Tryz.prog) (hT : Lib.TabIs Tryz.prog base "internal/strconv.uint64pow10" .u64 pow10s) (B : Begun base) (hU : Utf8At base) (w : World) (hB : Below base.heap.size base w)
    (A A' : Option Addr) (c c' n : Nat) (N : List ByteArray) (xs : List Value) (hNc : N.length ≤ c) (hc9 : c ≤ 9223372036854775807) (hN : N.length ≤ 1048576) (hz : ∀ s ∈ N, s.size ≤ 1048576) (hx : xs.length = n) (hb : n ≤ 1048576) (h1 : ∀ u ∈ xs, u.oneCell' = true) (hr : Strs w A N) (hr' : RowOf w A' xs) :
    Calls Tryz.prog 14 #[.slice A N.length c, .slice A' n c'] w (ContextOut w N xs) := by
  subst hx
  have HV := Lib.hid (fun (w' : World) (h : Below w.heap.size w w') (s : ByteArray) (hs' : s.size ≤ 1048576) => valid_later hs hT B hU (hB.trans (h.mono hB.size)) s hs')
  have HR := Lib.hid hr
  have HR' := Lib.hid hr'
  have H1 := Lib.hid h1
  have HZ := Lib.hid hz
  clear hr hr' h1 hz hB hs hT hU B
  have F0 := CFacts.start w
  by_cases hl : N.length = xs.length
  · have hd : ((N.length : Int) != xs.length) = false := by rw [hl]; simp
    have HL := Lib.hid hl
    clear hl
    go_enter Tryz.func14, Tryz.ntmps14
    go_wp2_with fail
    clear hd
    go_loopw [15] (fun i wr => ∃ k : Nat, k ≤ N.length ∧ i = .int .i64 k ∧ CFacts w wr ∧ ∀ q, q < k → (!dupAt N q && validS (N.getD q ByteArray.empty)) = true) (fun i _ => N.length - (intOf i).toNat)
    case atStart => exact ⟨0, Nat.zero_le _, rfl, F0, fun q hq => absurd hq (by omega)⟩
    case round =>
      obtain ⟨k, hk, rfl, F1, hall⟩ := hrel
      have HALL := Lib.hid hall
      clear hall F0
      by_cases hlt : k < N.length
      · obtain ⟨b, off, rfl, hbl, hcell⟩ := HR.out k hlt
        obtain ⟨s, hsn⟩ : ∃ s, s = N.getD k ByteArray.empty := ⟨_, rfl⟩
        have hcx : wr.cell? ⟨b, off + k, none⟩ = some (.string s) := by rw [hsn]; exact (F1.below.cell (by exact hbl)).trans hcell
        have HSZ := Lib.hid (HZ.out s (by rw [hsn]; exact getD_mem hlt))
        have HE := Lib.hid hsn
        clear hsn hcell
        cases hdup : dupAt N k with
        | true =>
          have HD := Lib.hid hdup
          clear hdup
          have c0 := F1.c0
          have f0 := F1.f0
          go_wp2_with (go_at_call 65; refine (contains_is hlt hN (Strs.keep HR.out F1.below) HE.out HD.out).mono ?_; rintro e w' ⟨rfl, rfl⟩)
          exact bodyPost_ret (v := .agg #[.nilIface]) (by simp [results, Tryz.results14, go_sem, *]) rfl (ctx_null (names_bad hlt (by rw [HD.out]; rfl)) rfl (F1.below.setCell (Nat.le_refl _) _))
        | false =>
          have HD := Lib.hid hdup
          clear hdup
          cases hv : validS s with
          | false =>
            have HW := Lib.hid hv
            clear hv
            go_wp2_with (first | (go_at_call 65; refine (contains_is hlt hN (Strs.keep HR.out F1.below) HE.out HD.out).mono ?_; rintro e w' ⟨rfl, rfl⟩) | (go_at_call 15; refine (valid_is (HV.out _ F1.below s HSZ.out) HW.out).mono ?_; rintro e w2 ⟨rfl, hb2⟩; have F2 := F1.on hb2; have c0 := F2.c0; have f0 := F2.f0))
            exact bodyPost_ret (v := .agg #[.nilIface]) (by simp [results, Tryz.results14, go_sem, *]) rfl (ctx_null (names_bad hlt (by rw [HD.out, ← HE.out, HW.out]; rfl)) rfl (F2.below.setCell (Nat.le_refl _) _))
          | true =>
            have HW := Lib.hid hv
            clear hv
            go_wp2_with (first | (go_at_call 65; refine (contains_is hlt hN (Strs.keep HR.out F1.below) HE.out HD.out).mono ?_; rintro e w' ⟨rfl, rfl⟩) | (go_at_call 15; refine (valid_is (HV.out _ F1.below s HSZ.out) HW.out).mono ?_; rintro e w2 ⟨rfl, hb2⟩; have F2 := F1.on hb2))
            go_roundw
            case rel => exact ⟨k + 1, by omega, by go_num, F2, good_succ HALL.out (by rw [HD.out, ← HE.out, HW.out]; rfl)⟩
            case measure => simp [intOf]; omega
      · have he : k = N.length := by omega
        subst he
        have HG := Lib.hid (names_good HL.out HALL.out)
        go_wp2_with (first | (go_at_call 66; refine (clone_str_f _ A c N.length (N.map .string) (by rw [List.length_map]) hN oneStr (strs_cells (Strs.keep HR.out F1.below))).mono ?_; rintro e w2 ⟨A1, c1, rfl, g1, g2, hrow1, hb2, hfr1⟩; have F2 := F1.on hb2) | (go_at_call 64; refine (clone_val_f _ A' c' xs.length xs rfl hb H1.out (RowOf.keep HR'.out F2.below)).mono ?_; rintro e w3 ⟨A2, c2, rfl, g3, g4, hrow2, hb3, hfr2⟩; have F3 := F2.on hb3; have c0 := F3.c0; have f0 := F3.f0))
        have s1 := F1.size
        have s2 := F2.size
        have w1 := F1.below.size
        exact bodyPost_ret (v := .agg #[.iface 101 (.agg #[.slice A1 N.length c1, .slice A2 xs.length c2])]) (by simp [results, Tryz.results14, go_sem, *]) rfl
          ⟨fun _ => ⟨A1, c1, A2, c2, rfl, by simpa using g1, g2, g3, g4, cells_strs ((hrow1.keep hb3).set (fun b off e => by have := hfr1 b off none e; show b ≠ w.heap.size; omega) _), hrow2.set (fun b off e => by have := hfr2 b off none e; show b ≠ w.heap.size; omega) _, F3.below.setCell (Nat.le_refl _) _, (fun b off s' e => by have := hfr1 b off s' e; omega), fun b off s' e => by have := hfr2 b off s' e; omega⟩, fun h => Bool.noConfusion (HG.out.symm.trans h)⟩
  · have hd : ((N.length : Int) != xs.length) = true := by simp; omega
    have c0 := F0.c0
    have f0 := F0.f0
    go_enter Tryz.func14, Tryz.ntmps14
    go_wp2_with fail
    exact bodyPost_ret (v := .agg #[.nilIface]) (by simp [results, Tryz.results14, go_sem, *]) rfl (ctx_null (names_len hl) rfl (by first | exact box_one _ _ | exact (box_one _ _).setCell (Nat.le_refl _) _))
def ListOutF (w : World) (xs : List Value) (e : Ending) (w' : World) : Prop := ∃ A c, e = .returned (.agg #[.iface 95 (.slice A xs.length c)]) ∧ xs.length ≤ c ∧ c ≤ 9223372036854775807 ∧ RowOf w' A xs ∧ Below w.heap.size w w' ∧ FreshA w A
set_option maxRecDepth 100000 in
theorem list_f (w : World) (A : Option Addr) (c n : Nat) (xs : List Value) (hn : xs.length = n) (hb : n ≤ 1048576) (h1 : ∀ u ∈ xs, u.oneCell' = true) (hr : RowOf w A xs) :
    Calls Tryz.prog 12 #[.slice A n c] w (ListOutF w xs) := by
  have HR := Lib.hid hr
  have H1 := Lib.hid h1
  have HN := Lib.hid hn
  clear hr h1 hn
  go_enter Tryz.func12, Tryz.ntmps12
  go_wp2_with (go_at_call 64; refine (clone_val_f _ A c n xs HN.out hb H1.out (RowOf.keep HR.out (box_one _ _))).mono ?_; rintro e w1 ⟨A', c', rfl, g1, g2, hrow, hb1, hfr⟩; have hc0 := hb1.cell (p := ⟨w.heap.size, 0, none⟩) (by simp); have hf0 := hb1.frozen (p := ⟨w.heap.size, 0, none⟩) (by simp); have hs0 := hb1.size; simp at hs0 hc0 hf0)
  exact bodyPost_ret (v := .agg #[.iface 95 (.slice A' xs.length c')]) (by simp [results, Tryz.results12, go_sem, hc0]) rfl
    ⟨A', c', rfl, g1, g2, hrow.set (fun b off e => by have := hfr b off none e; simp at this; show b ≠ w.heap.size; omega) _, ((box_one _ _).trans (hb1.mono (by simp))).setCell (Nat.le_refl _) _, fun b off s e => by have := hfr b off s e; simp at this; omega⟩
end Go.Proofs.YthmogphlnjpakaaGreatDoor

namespace Go.Proofs.YthmogphlnjpakaaGreatDoor
open Go Go.Ord Go.Typ Go.RowKit
theorem own_on {B : Nat} {e : TypeId} {k : Nat} {v : Value} {n : Nat} {xs : List Value} {w w' : World} (h : w.ownsRow B e k v n xs) (hb : Below w.heap.size w w') : w'.ownsRow B e k v n xs := by
  refine ⟨h.1, ?_⟩
  rcases h.2 with h0 | ⟨g, cap, cur, rfl, h1, hg, h2⟩
  · exact .inl h0
  · have hlt : g < w.heap.size := by
      rcases Nat.lt_or_ge g w.heap.size with h | h
      · exact h
      · rw [Array.getElem?_eq_none h] at hg
        cases hg
    exact .inr ⟨g, cap, cur, rfl, h1, (hb.block g hlt).trans hg, h2⟩
structure DBox (w : World) (d0 d1 d2 d3 d4 d5 : Value) (wr : World) : Prop where
  k0 : wr.cell? ⟨w.heap.size, 0, none⟩ = some d0
  k1 : wr.cell? ⟨w.heap.size, 1, none⟩ = some d1
  k2 : wr.cell? ⟨w.heap.size, 2, none⟩ = some d2
  k3 : wr.cell? ⟨w.heap.size, 3, none⟩ = some d3
  k4 : wr.cell? ⟨w.heap.size, 4, none⟩ = some d4
  k5 : wr.cell? ⟨w.heap.size, 5, none⟩ = some d5
  r : wr.cell? ⟨w.heap.size + 1, 0, none⟩ = some .nilIface
  f : wr.frozen? ⟨w.heap.size + 1, 0, none⟩ = false
  below : Below w.heap.size w wr
  two : w.heap.size + 2 ≤ wr.heap.size
theorem dbox0 (w : World) (d0 d1 d2 d3 d4 d5 : Value) : DBox w d0 d1 d2 d3 d4 d5 ((w.alloc (.cells #[d0, d1, d2, d3, d4, d5] 35)).alloc (.cells #[.nilIface] 30)) := by
  refine ⟨?_, ?_, ?_, ?_, ?_, ?_, ?_, ?_, box_two _ _ _, by simp⟩
  · rw [World.cell?_alloc_past _ _ _ (by simp), World.cell?_alloc_at _ _ _ _ rfl]; rfl
  · rw [World.cell?_alloc_past _ _ _ (by simp), World.cell?_alloc_at _ _ _ _ rfl]; rfl
  · rw [World.cell?_alloc_past _ _ _ (by simp), World.cell?_alloc_at _ _ _ _ rfl]; rfl
  · rw [World.cell?_alloc_past _ _ _ (by simp), World.cell?_alloc_at _ _ _ _ rfl]; rfl
  · rw [World.cell?_alloc_past _ _ _ (by simp), World.cell?_alloc_at _ _ _ _ rfl]; rfl
  · rw [World.cell?_alloc_past _ _ _ (by simp), World.cell?_alloc_at _ _ _ _ rfl]; rfl
  · rw [World.cell?_alloc_at _ _ _ _ (by simp)]; rfl
  · exact World.frozen?_alloc_at _ _ _ _ (by simp)
theorem DBox.on {w : World} {d0 d1 d2 d3 d4 d5 : Value} {wr w1 : World} (h : DBox w d0 d1 d2 d3 d4 d5 wr) (hb : Below (w.heap.size + 2) wr w1) : DBox w d0 d1 d2 d3 d4 d5 w1 := by
  have h2 := h.two
  have l0 : ∀ i, wr.cell? ⟨w.heap.size, i, none⟩ = w1.cell? ⟨w.heap.size, i, none⟩ := fun i => (hb.cell (by show w.heap.size < _; omega)).symm
  refine ⟨(l0 0).symm.trans h.k0, (l0 1).symm.trans h.k1, (l0 2).symm.trans h.k2, (l0 3).symm.trans h.k3, (l0 4).symm.trans h.k4, (l0 5).symm.trans h.k5, (hb.cell ?_).trans h.r, (hb.frozen ?_).trans h.f, h.below.trans (hb.mono (by omega)), Nat.le_trans h2 hb.size⟩
  · show w.heap.size + 1 < _; omega
  · show w.heap.size + 1 < _; omega
def OkB (B : Nat) (v : Value) (b : Nat) : Prop := B ≤ b ∧ ∀ g, v.ownBlock = some g → b ≠ g
theorem isDat_form {w : World} {D : Dat} {c0 c1 c2 c3 c4 c5 : Value} (h : IsDat w D (.agg #[c0, c1, c2, c3, c4, c5])) : ∃ (k : Int) (s : ByteArray) (A : Option Addr) (n c : Nat) (A' : Option Addr) (n' c' : Nat) (i0 i1 : Bool), c0 = .int .i64 k ∧ c1 = .string s ∧ c2 = .slice A n c ∧ c3 = .slice A' n' c' ∧ c4 = .bool i0 ∧ c5 = .bool i1 := by
  cases D with
  | nul => exact h.elim
  | mk k s n f N i0 i1 =>
    obtain ⟨A, c, A', c', e, _⟩ := h
    simp at e
    exact ⟨k, s, A, n, c, A', N.length, c', i0, i1, e.1, e.2.1, e.2.2.1, e.2.2.2.1, e.2.2.2.2.1, e.2.2.2.2.2⟩
theorem isValP_form {ok : Nat → Prop} {w : World} {V : Val} {x : Value} (h : IsValP ok w V x) : x = .nilIface ∨ ∃ t y, x = .iface t y := by
  cases V with
  | nul => exact .inl h
  | leaf t y => exact .inr ⟨t, y, h.1⟩
  | list n f => obtain ⟨A, c, rfl, _⟩ := h; exact .inr ⟨_, _, rfl⟩
  | ctx N f => obtain ⟨A, c, A', c', rfl, _⟩ := h; exact .inr ⟨_, _, rfl⟩
  | range a b i0 i1 => obtain ⟨y, z, rfl, _⟩ := h; exact .inr ⟨_, _, rfl⟩
  | func t y n => exact .inr ⟨_, _, h⟩
structure Vals (B j : Nat) (v : Value) (xs : List Value) (fV : Nat → Val) (wr : World) : Prop where
  own : wr.ownsRow B 30 1 v j xs
  vals : ∀ q, q < j → IsValP (OkB B v) wr (fV q) (xs.getD q undef)
theorem vals0 (B : Nat) (wr : World) : Vals B 0 (.slice none 0 0) [] (fun _ => .nul) wr := ⟨World.ownsRow_nil _ _ _ _, fun q hq => absurd hq (by omega)⟩
theorem Vals.len {B j : Nat} {v : Value} {xs : List Value} {fV : Nat → Val} {wr : World} (h : Vals B j v xs fV wr) : xs.length = j := by have := h.own.1; omega
theorem Vals.one {B j : Nat} {v : Value} {xs : List Value} {fV : Nat → Val} {wr : World} (h : Vals B j v xs fV wr) : ∀ u ∈ xs, u.oneCell' = true := by
  intro u hu
  obtain ⟨q, hq, rfl⟩ := List.mem_iff_getElem.1 hu
  have := h.vals q (by rw [← h.len]; exact hq)
  rw [List.getD_eq_getElem?_getD, List.getElem?_eq_getElem hq] at this
  exact isVal_one (IsValP.val _ _ this)
theorem Vals.on {B j : Nat} {v : Value} {xs : List Value} {fV : Nat → Val} {wr w1 : World} (h : Vals B j v xs fV wr) (hb : Below wr.heap.size wr w1) : Vals B j v xs fV w1 :=
  ⟨own_on h.own hb, fun q hq => IsValP.below hb (fun _ h _ => h) _ _ (h.vals q hq)⟩
theorem Vals.step {B j : Nat} {v v' : Value} {xs : List Value} {fV : Nat → Val} {wr w1 w2 w3 : World} {V : Val} {x : Value} (h : Vals B j v xs fV wr) (hB : B ≤ wr.heap.size) (h1 : Below wr.heap.size wr w1) (hV : IsValP (fun b => wr.heap.size ≤ b) w1 V x) (h2 : Below w1.heap.size w1 w2) (h3 : w2.grownBy w3 v.ownBlock)
    (hat : v'.ownBlock = v.ownBlock ∨ v'.ownBlock = some w2.heap.size) (ho : w3.ownsRow B 30 1 v' (j + 1) (xs ++ [x])) : Vals B (j + 1) v' (xs ++ [x]) (fun q => if q < j then fV q else V) w3 := by
  have hlt := h.own.lt
  have s1 := h1.size
  have s2 := h2.size
  have s3 := h3.size
  have hl := h.len
  have keep : ∀ b, b < w1.heap.size → (∀ g, v.ownBlock = some g → b ≠ g) → w3.heap[b]? = w1.heap[b]? := fun b hb hne => (h3.block b (by omega) (fun e => hne b e.symm rfl)).trans (h2.block b hb)
  refine ⟨ho, fun q hq => ?_⟩
  by_cases hqj : q < j
  · rw [if_pos hqj]
    have e : (xs ++ [x]).getD q undef = xs.getD q undef := by simp [List.getD, List.getElem?_append_left (show q < xs.length by omega)]
    rw [e]
    refine IsValP.keep (by omega) (fun b hb hl => (keep b (by omega) hb.2).trans (h1.block b hl)) (fun b hb hl => ⟨hb.1, fun g hg => ?_⟩) _ _ (h.vals q hqj)
    rcases hat with hat | hat
    · exact hb.2 g (hat.symm.trans hg)
    · rw [hat] at hg
      cases hg
      omega
  · rw [if_neg hqj]
    have hq' : q = xs.length := by omega
    have e : (xs ++ [x]).getD q undef = x := by simp [List.getD, hq']
    rw [e]
    have hne : ∀ b, wr.heap.size ≤ b → ∀ g, v.ownBlock = some g → b ≠ g := fun b hb g hg => by have := (hlt g hg).2; omega
    refine IsValP.keep (by omega) (fun b hb hl => keep b hl (hne b hb)) (fun b hb hl => ⟨by omega, fun g hg => ?_⟩) _ _ hV
    rcases hat with hat | hat
    · exact hne b hb g (hat.symm.trans hg)
    · rw [hat] at hg
      cases hg
      omega
structure TRes (w : World) (q : Nat) (x : Value) (w9 w' : World) : Prop where
  at_ : w'.cell? ⟨q, 0, none⟩ = some x
  res : Res w (w.heap.size + 1) w'
  q2 : w.heap.size + 2 ≤ q
  lt : q < w'.heap.size
  size : w9.heap.size ≤ w'.heap.size
  keep : ∀ b, w.heap.size + 2 ≤ b → b < w9.heap.size → w'.heap[b]? = w9.heap[b]?
theorem TRes.drew {w : World} {q : Nat} {x : Value} {w9 w' : World} (h : TRes w q x w9 w') : TRes w q x w9 w'.drew := ⟨h.at_, h.res.drew, h.q2, h.lt, h.size, h.keep⟩
theorem TRes.on {w : World} {q : Nat} {x : Value} {w9 w' w1 : World} (h : TRes w q x w9 w') (hb : Below w'.heap.size w' w1) : TRes w q x w9 w1 :=
  ⟨(hb.cell (by exact h.lt)).trans h.at_, h.res.on hb, h.q2, Nat.lt_of_lt_of_le h.lt hb.size, Nat.le_trans h.size hb.size, fun b h1 h2 => (hb.block b (Nat.lt_of_lt_of_le h2 h.size)).trans (h.keep b h1 h2)⟩
theorem TRes.set {w : World} {q : Nat} {x : Value} {w9 w' : World} (h : TRes w q x w9 w') (v : Value) : TRes w q x w9 (w'.setCell ⟨w.heap.size + 1, 0, none⟩ v) := by
  have h2 := h.q2
  refine ⟨(World.cell?_setCell_other _ _ _ _ (fun e => ?_)).trans h.at_, h.res.set v, h2, by simpa using h.lt, by simpa using h.size, fun b h1 h3 => (heap_setCell_other _ _ _ _ (by show b ≠ w.heap.size + 1; omega)).trans (h.keep b h1 h3)⟩
  injection e with e
  omega
theorem tres {w : World} {q : Nat} {x : Value} {w9 w' : World} (h : TRes w q x w9 w') : w'.cell? ⟨q, 0, none⟩ = some x ∧ w'.frozen? ⟨w.heap.size + 1, 0, none⟩ = false ∧ TRes w q x w9 w' := ⟨h.at_, h.res.free, h⟩
theorem TRes.out {w : World} {q : Nat} {x : Value} {w9 w' : World} (h : TRes w q x w9 w') (v : Value) : (w'.setCell ⟨w.heap.size + 1, 0, none⟩ v).cell? ⟨w.heap.size + 1, 0, none⟩ = some v := h.res.res v
theorem DBox.res {w : World} {d0 d1 d2 d3 d4 d5 : Value} {wr : World} (h : DBox w d0 d1 d2 d3 d4 d5 wr) : Res w (w.heap.size + 1) wr := ⟨⟨_, h.r⟩, h.f, h.below, by omega, by have := h.two; omega⟩
theorem DBox.tres {w : World} {d0 d1 d2 d3 d4 d5 : Value} {w9 : World} (h : DBox w d0 d1 d2 d3 d4 d5 w9) {q : Nat} {x : Value} (hq : w9.cell? ⟨q, 0, none⟩ = some x) (h2 : w.heap.size + 2 ≤ q) : TRes w q x w9 w9 := ⟨hq, h.res, h2, block_lt_of_cell hq, Nat.le_refl _, fun _ _ _ => rfl⟩
theorem TRes.val {w : World} {q : Nat} {x : Value} {w9 w' : World} (h : TRes w q x w9 w') {V : Val} {y : Value} (hv : IsValP (fun b => w.heap.size + 2 ≤ b) w9 V y) : IsValP (fun b => w.heap.size ≤ b) w' V y :=
  IsValP.keep h.size (fun b h1 h2 => h.keep b h1 h2) (fun b h1 _ => by omega) V y hv
theorem isVal_list {B n : Nat} {v : Value} {xs : List Value} {fV : Nat → Val} {wr w' : World} {A : Option Addr} {c : Nat} (h : Vals B n v xs fV wr) (hn : n ≤ 1048576) (g1 : xs.length ≤ c) (g2 : c ≤ 9223372036854775807) (hr : RowOf w' A xs) (hf : ∀ b off s, A = some ⟨b, off, s⟩ → B ≤ b) (hb : Below wr.heap.size wr w') :
    IsValP (fun b => B ≤ b) w' (.list n fV) (.iface 95 (.slice A xs.length c)) := by
  have hl := h.len
  refine ⟨A, c, by rw [hl], hn, by omega, g2, fun j hj => ?_⟩
  obtain ⟨b, off, e, hlt, hc⟩ := hr j (by omega)
  exact ⟨b, off, _, e, ⟨hf b off none e, hlt⟩, hc, IsValP.below hb (fun b h _ => h.1) _ _ (h.vals j hj)⟩
end Go.Proofs.YthmogphlnjpakaaGreatDoor
