/-
  strings.Builder: copyCheck and String as rules of the evaluator, over the shelf's bodies of these two.
-/
import Derived.Test.YtamkkkkonigglaaGreatDoorPeS
import Derived.Shelf.Strings.Builder1
import Derived.Lib.MakeNoZero
namespace Go.Proofs
open Go Go.RowKit Go.Shelf Go.Pe

/-- One block alone is another one. -/
structure OnlyAt (g : Nat) (w w' : World) : Prop where
  os : w'.os = w.os
  tape : w'.tape = w.tape
  output : w'.output = w.output
  size : w'.heap.size = w.heap.size
  other : ∀ k, k ≠ g → w'.heap[k]? = w.heap[k]?

theorem onlyAt_refl (g : Nat) (w : World) : OnlyAt g w w.drew := ⟨rfl, rfl, rfl, rfl, fun _ _ => rfl⟩
theorem onlyAt_setCell (w : World) (g off : Nat) (v : Value) : OnlyAt g w (w.setCell ⟨g, off, none⟩ v) :=
  ⟨rfl, rfl, rfl, by simp [World.setCell], fun k hk => by
    simp only [World.setCell, Array.getElem?_modify]
    rw [if_neg (fun e => hk e.symm)]⟩
theorem onlyAt_freeze (w : World) (g n : Nat) : OnlyAt g w (w.drew.freeze ⟨g, 0, none⟩ n) := by
  unfold World.freeze
  split
  · exact onlyAt_refl g w
  · exact ⟨rfl, rfl, rfl, (by show (w.heap.modify g _).size = w.heap.size; exact Array.size_modify), fun k hk => by
      simp only [Array.getElem?_modify]
      rw [if_neg (fun e => hk e.symm)]
      rfl⟩

set_option maxHeartbeats 1000000 in
set_option maxRecDepth 100000 in
theorem string_walk {P : Program} {ρ : Ren} (L : Lays.n169 P ρ) (X : Builder.Extra P ρ) (b g : Nat) (l : List UInt8) (cap cells : Nat) (w : World) (h0 : l ≠ []) (hcap : cap ≠ 0)
    (hb : w.cell? ⟨b, 1, none⟩ = some (.slice (some ⟨g, 0, none⟩) l.length cap)) (hsh : w.shape? g = some (ρ.t 5, cells)) (hn : l.length ≤ cells) (h63 : l.length ≤ 9223372036854775807)
    (hc : ∀ (j : Nat) x, l[j]? = some x → w.cell? ((⟨g, 0, none⟩ : Addr).add j) = some (.int .u8 x.toNat)) :
    Calls P (ρ.f 169) #[.pointer (some ⟨b, 0, none⟩)] w fun e w' => e = .returned (.string ⟨l.toArray⟩) ∧ OnlyAt g w w' := by
  have c1 : w.drew.cell? ⟨b, 1, none⟩ = some (.slice (some ⟨g, 0, none⟩) l.length cap) := hb
  have hSD : (Builtin.unsafeSliceData_ #[(ρ.t 37)] (ρ.t 127) #[.slice (some ⟨g, 0, none⟩) l.length cap]).run P w.drew = .ok (.pointer (some ⟨g, 0, none⟩)) w.drew := Lib.run_unsafeSliceData_row _ _ _ _ _ _ hcap
  have hUS : (Builtin.unsafeString_ #[(ρ.t 127), (ρ.t 3)] (ρ.t 9) #[.pointer (some ⟨g, 0, none⟩), .int .i64 l.length]).run P w.drew = .ok (.string ⟨l.toArray⟩) (w.drew.freeze ⟨g, 0, none⟩ l.length) :=
    Lib.run_unsafeString_row w.drew (ρ.t 127) (ρ.t 3) (ρ.t 9) (ρ.t 5) L.t127 X.cellsByte g cells hsh l h0 hn h63 hc
  have mixed := L.mixed
  have t72 := L.t72; have a72 := L.a72; have z72 := L.z72; have v72 := L.v72; have u72 := run_underlying L.t72
  have t70 := L.t70; have a70 := L.a70; have z70 := L.z70; have v70 := L.v70; have u70 := run_underlying L.t70
  have t37 := L.t37; have a37 := L.a37; have z37 := L.z37; have v37 := L.v37; have u37 := run_underlying L.t37
  have t127 := L.t127; have a127 := L.a127; have z127 := L.z127; have v127 := L.v127; have u127 := run_underlying L.t127
  have t3 := L.t3; have a3 := L.a3; have z3 := L.z3; have v3 := L.v3; have u3 := run_underlying L.t3
  have t9 := L.t9; have a9 := L.a9; have z9 := L.z9; have v9 := L.v9; have u9 := run_underlying L.t9
  have t5 := X.t5; have a5 := X.a5; have z5 := X.z5; have v5 := X.v5; have u5 := run_underlying X.t5
  go_enter L.f169, Body.n169_ntmps ρ
  go_wp2
  go_region_o
  all_goals (go_wp2; go_ret; exact ⟨rfl, onlyAt_freeze _ _ _⟩)

set_option maxHeartbeats 2000000 in
set_option maxRecDepth 100000 in
theorem string_walk_nil {P : Program} {ρ : Ren} (L : Lays.n169 P ρ) (X : Builder.Extra P ρ) (b cap : Nat) (w : World) (hb : w.cell? ⟨b, 1, none⟩ = some (.slice none 0 cap)) :
    Calls P (ρ.f 169) #[.pointer (some ⟨b, 0, none⟩)] w fun e w' => e = .returned (.string ⟨#[]⟩) ∧ (∀ k : Nat, w'.heap[k]? = w.heap[k]?) ∧ Below w.heap.size w w' := by
  have hUS := Any.unsafeString_none L X
  have c1 : w.drew.cell? ⟨b, 1, none⟩ = some (.slice none 0 cap) := hb
  have hSD : (Builtin.unsafeSliceData_ #[(ρ.t 37)] (ρ.t 127) #[.slice none 0 cap]).run P w.drew = .ok (.pointer none) w.drew := rfl
  have mixed := L.mixed
  have t72 := L.t72; have a72 := L.a72; have z72 := L.z72; have v72 := L.v72; have u72 := run_underlying L.t72
  have t70 := L.t70; have a70 := L.a70; have z70 := L.z70; have v70 := L.v70; have u70 := run_underlying L.t70
  have t37 := L.t37; have a37 := L.a37; have z37 := L.z37; have v37 := L.v37; have u37 := run_underlying L.t37
  have t127 := L.t127; have a127 := L.a127; have z127 := L.z127; have v127 := L.v127; have u127 := run_underlying L.t127
  have t3 := L.t3; have a3 := L.a3; have z3 := L.z3; have v3 := L.v3; have u3 := run_underlying L.t3
  have t9 := L.t9; have a9 := L.a9; have z9 := L.z9; have v9 := L.v9; have u9 := run_underlying L.t9
  have t5 := X.t5; have a5 := X.a5; have z5 := X.z5; have v5 := X.v5; have u5 := run_underlying X.t5
  go_enter L.f169, Body.n169_ntmps ρ
  go_wp2
  go_region_o
  all_goals (go_wp2; go_ret; exact ⟨rfl, fun _ => rfl, Below.drew (Below.refl _ w)⟩)

/-- Bytes, told as cells. -/
def bytesX : List Value → Option (List UInt8)
  | [] => some []
  | .int .u8 n :: l => match decide (0 ≤ n) && decide (n < 256), bytesX l with
    | true, some r => some (UInt8.ofNat n.toNat :: r)
    | _, _ => none
  | _ :: _ => none

theorem bytesX_spec : ∀ (cs : List Value) (l : List UInt8), bytesX cs = some l → cs = l.map fun b => Value.int .u8 b.toNat := by
  intro cs
  induction cs with
  | nil => intro l h; cases h; rfl
  | cons v cs ih =>
    intro l h
    unfold bytesX at h
    split at h
    · rename_i e
      cases e
    · rename_i n r e
      cases e
      split at h
      · rename_i m hd hm
        cases h
        simp only [Bool.and_eq_true, decide_eq_true_eq] at hd
        rw [List.map_cons, ih m hm]
        congr 2
        have : n.toNat < 256 := by omega
        simp [Nat.mod_eq_of_lt this]
        omega
      · cases h
    · cases h

def capOk (cap room : Nat) : Bool := match Nat.ble big cap with | true => Nat.beq cap big && Nat.blt 0 room | false => Nat.blt 0 cap

/-- What a builder holds, and the block that holds it. -/
def strB (B5 : TypeId) (h : Heap) (b : Nat) : Option (ByteArray × Option Nat) :=
  match getBlk h b with
  | none => none
  | some blk => match blk.iter, blk.cells with
    | none, [_, some (.slice none 0 _)] => some (⟨#[]⟩, none)
    | none, [_, some (.slice (some ⟨g, 0, none⟩) len cap)] => (match getBlk h g with
      | none => none
      | some gb => match gb.iter, takeN gb.cells len with
        | none, some cs => (match bytesX cs with
          | some l => (match gb.own && Nat.beq gb.elem B5 && Nat.blt 0 len && Nat.ble len 9223372036854775807 && capOk cap gb.room with
            | true => some (⟨l.toArray⟩, some g)
            | false => none)
          | none => none)
        | _, _ => none)
    | _, _ => none

def ruleString (B5 : TypeId) : Rule := fun args h n => match args with
  | [.pointer (some ⟨b, 0, none⟩)] => some fun K => (match strB B5 h b with
    | some (s, none) => K (.string s) h n big
    | some (s, some g) => K (.string s) (dropBlk h g) n g
    | none => False)
  | _ => none

def ruleCopy (T : TypeId) : Rule := fun args h n => match args with
  | [.pointer (some ⟨b, 0, none⟩)] => some fun K => (match getBlk h b with
    | none => False
    | some blk => match blk.iter, blk.own, blk.room, blk.cells with
      | none, true, 0, [some p, some c] => (match p with
        | .pointer none => chk (Nat.beq blk.elem T) (K (.tuple #[]) (setBlk h b { cells := [some (.pointer (some ⟨b, 0, none⟩)), some c], elem := blk.elem, own := true, room := 0, iter := none }) n b)
        | .pointer (some ⟨b', 0, none⟩) => chk (Nat.beq b' b) (K (.tuple #[]) h n big)
        | _ => False)
      | _, _, _, _ => False)
  | _ => none

section
variable {P : Program} {ρ : Ren} {base : World}

theorem OnlyAt.below {g : Nat} {w w' : World} (o : OnlyAt g w w') {B : Nat} (h : B ≤ g) : Below B w w' := ⟨o.os, o.tape, o.output, by rw [o.size]; exact Nat.le_refl _, fun k hk => o.other k (by omega)⟩

theorem cell_at {w : World} {g off : Nat} {c : Array Value} {e : TypeId} {fr : Nat × Nat} (h : w.heap[g]? = some (.cells c e fr)) : w.cell? ⟨g, off, none⟩ = c[off]? := by
  unfold World.cell?
  rw [h]
  rfl

theorem stepAt {μ κ : Nat → Nat} {w w' : World} {g n : Nat} (o : OnlyAt (μ g) w w') (hg : g < n) : Step g n n μ κ w μ κ w' :=
  ⟨Nat.le_refl _, fun _ _ => ⟨rfl, rfl⟩, by rw [o.size]; exact Nat.le_refl _, fun b _ hh => o.other b fun e => hh g (Nat.le_refl _) hg e.symm, fun _ h1 h2 => by omega⟩

theorem ruleOk_string (L : Lays.n169 P ρ) (X : Builder.Extra P ρ) {E0 : Env} (h0 : E0.P = P) (hE0 : EnvOk E0 base) {fn : Func} (hf : P.funcs[ρ.f 169]? = some fn) (hb : fn.body.isSome = true) : RuleOk P base (ρ.f 169) (ruleString (ρ.t 5)) := by
  intro E hE args h n T K hT hK
  subst hE
  unfold ruleString at hT
  split at hT
  · rename_i b
    cases hT
    have enter : ∀ (args : Array Value) w, (callFunc (ρ.f 169) args).run E.P w = .ok (.enter (ρ.f 169) args) w := by
      rw [← h0] at hf ⊢
      exact hE0.enter _ fn hf hb
    split at hK
    · rename_i s hs
      refine ⟨_, _, _, _, hK, ⟨Nat.le_refl _, fun D _ _ _ hh => ⟨WF.string _, hh.mono Dp_mono⟩⟩, fun μ κ w hr hh hx hg => ?_⟩
      unfold strB at hs
      split at hs
      · cases hs
      · rename_i blk hblk
        split at hs
        · rename_i x cap hit hcs
          cases hs
          have hbk := hr.blk b blk hblk
          unfold BlkOk at hbk
          rw [hit] at hbk
          obtain ⟨c, e, fr, q1, q2, q3, q4, q5, q6⟩ := hbk
          have h1 := q4 1 (.slice none 0 cap) (by rw [hcs]; rfl)
          have hw := string_walk_nil L X (μ b) cap w (by rw [cell_at q1, h1]; rfl)
          show OpOut _ _ _ _ _ _ _ _ _ _ ((callFunc (ρ.f 169) #[.pointer (some ⟨μ b, 0, none⟩)]).run E.P w)
          rw [enter]
          exact ⟨rfl, hw.mono fun e w' ⟨he, ho, hbl⟩ => ⟨_, he, μ, κ, ⟨Nat.le_refl _, fun _ _ => ⟨rfl, rfl⟩, hbl.size, fun k _ _ => ho k, fun _ h1 h2 => by omega⟩, rfl, hr.grow hbl⟩⟩
        · split at hs
          · cases hs
          · split at hs
            · split at hs
              · split at hs
                · cases hs
                · cases hs
              · cases hs
            · cases hs
        · cases hs
    · rename_i s g hs
      unfold strB at hs
      split at hs
      · cases hs
      · rename_i blk hblk
        split at hs
        · cases hs
        · rename_i x g' len cap hit hcs
          split at hs
          · cases hs
          · rename_i gb hgb
            split at hs
            · rename_i cs hgi htk
              split at hs
              · rename_i l hl
                split at hs
                · rename_i hc
                  cases hs
                  simp only [Bool.and_eq_true] at hc
                  obtain ⟨⟨⟨⟨c1, c2⟩, c3⟩, c4⟩, c5⟩ := hc
                  have hcl := bytesX_spec _ _ hl
                  obtain ⟨tl, tk⟩ := takeN_spec _ _ _ htk
                  have hlen : l.length = len := by rw [← tl, hcl, List.length_map]
                  subst hlen
                  refine ⟨_, _, _, _, hK, ⟨Nat.le_refl _, fun D _ _ _ hh => ⟨WF.string _, (hh.mono Dp_mono).drop⟩⟩, fun μ κ w hr hh hx hg => ?_⟩
                  have hbk := hr.blk b blk hblk
                  unfold BlkOk at hbk
                  rw [hit] at hbk
                  obtain ⟨c, e, fr, q1, q2, q3, q4, q5, q6⟩ := hbk
                  have hgk := hr.blk g gb hgb
                  have hglt := (hh g gb hgb).1
                  unfold BlkOk at hgk
                  rw [hgi] at hgk
                  obtain ⟨d, e', fr', r1, r2, r3, r4, r5, r6⟩ := hgk
                  obtain ⟨re, rb, rfr⟩ := r2 c1
                  have h1 := q4 1 (.slice (some ⟨g, 0, none⟩) l.length cap) (by rw [hcs]; rfl)
                  have hlen : l.length ≤ gb.cells.length := by
                    have : 0 < l.length := by simpa [Nat.blt_eq] using c3
                    have hj := tk (l.length - 1) (.int .u8 (l[l.length - 1]).toNat) (by rw [hcl]; simp [List.getElem?_eq_getElem (show l.length - 1 < l.length by omega)])
                    have := (List.getElem?_eq_some_iff.1 hj).1
                    omega
                  have hpos : 0 < l.length := by simpa [Nat.blt_eq] using c3
                  have hcap : renCap κ g cap ≠ 0 := by
                    unfold capOk at c5
                    unfold renCap
                    split at c5
                    · rename_i hbig
                      simp only [hbig]
                      simp only [Bool.and_eq_true] at c5
                      have e1 := beq_true c5.1
                      have e2 : 0 < gb.room := by simpa [Nat.blt_eq] using c5.2
                      have := r5 (by omega)
                      intro hz
                      have hk : κ g = 0 := by omega
                      rw [hk, Nat.zero_mul] at this
                      omega
                    · rename_i hbig
                      simp only [hbig]
                      have : 0 < cap := by simpa [Nat.blt_eq] using c5
                      omega
                  have hw := string_walk L X (μ b) (μ g) l (renCap κ g cap) d.size w (fun e => by rw [e] at hpos; simp at hpos) hcap (by rw [cell_at q1, h1]; simp [renAd]) (by
                    unfold World.shape?
                    rw [r1]
                    simp [re, beq_true c2]) (by omega) (ble_true c4) (fun j x hj => by
                      have hlt : j < l.length := (List.getElem?_eq_some_iff.1 hj).1
                      have : w.cell? ((⟨μ g, 0, none⟩ : Addr).add j) = d[j]? := by
                        rw [add_at _ _ rfl, Nat.zero_add]
                        exact cell_at r1
                      rw [this, r4 j (.int .u8 x.toNat) (tk j _ (by rw [hcl]; simp [hj]))]
                      rfl)
                  show OpOut _ _ _ _ _ _ _ _ _ _ ((callFunc (ρ.f 169) #[.pointer (some ⟨μ b, 0, none⟩)]).run E.P w)
                  rw [enter]
                  refine ⟨rfl, hw.mono fun e w' ⟨he, ho⟩ => ⟨_, he, μ, κ, stepAt ho hglt, rfl, ⟨hr.below.trans (ho.below rb), fun k x hk => ?_, fun i j x y hi hj => ?_, hr.glob, hr.gsz⟩⟩⟩
                  · rw [getBlk_drop] at hk
                    split at hk
                    · cases hk
                    · rename_i hne
                      exact (hr.blk k x hk).same rfl rfl (fun _ _ => rfl) (ho.other _ fun e => hne (hr.inj k g x gb hk hgb e))
                  · rw [getBlk_drop] at hi hj
                    split at hi
                    · cases hi
                    · split at hj
                      · cases hj
                      · exact hr.inj i j x y hi hj
                · cases hs
              · cases hs
            · cases hs
        · cases hs
    · exact hK.elim
  · cases hT

theorem ruleOk_copy (L : Lays.n240 P ρ) (X : Builder.X72 P ρ) {E0 : Env} (h0 : E0.P = P) (hE0 : EnvOk E0 base) {fn : Func} (hf : P.funcs[ρ.f 240]? = some fn) (hb : fn.body.isSome = true) : RuleOk P base (ρ.f 240) (ruleCopy (ρ.t 72)) := by
  intro E hE args h n T K hT hK
  subst hE
  unfold ruleCopy at hT
  split at hT
  · rename_i b
    cases hT
    have enter : ∀ (args : Array Value) w, (callFunc (ρ.f 240) args).run E.P w = .ok (.enter (ρ.f 240) args) w := by
      rw [← h0] at hf ⊢
      exact hE0.enter _ fn hf hb
    split at hK
    · exact hK.elim
    · rename_i blk hblk
      split at hK
      · rename_i p c hit hown hroom hcs
        split at hK
        · obtain ⟨hT, hK⟩ := chk_true hK
          refine ⟨_, _, _, _, hK, ⟨Nat.le_refl _, fun D _ _ _ hh => ⟨WF.pure (d := 6) rfl, (hh.mono Dp_mono).set fun v hv => ?_⟩⟩, fun μ κ w hr hh hx hg => ?_⟩
          · simp only [List.mem_cons, Option.some.injEq, List.not_mem_nil, or_false] at hv
            rcases hv with rfl | rfl
            · exact WF.ptr.2 (.inl (hh b blk hblk).1)
            · exact ((hh b blk hblk).2 _ (by rw [hcs]; simp)).mono Dp_mono
          have hbk := hr.blk b blk hblk
          have hblt := (hh b blk hblk).1
          unfold BlkOk at hbk
          rw [hit] at hbk
          obtain ⟨cc, e, fr, q1, q2, q3, q4, q5, q6⟩ := hbk
          obtain ⟨qe, qb, qf⟩ := q2 hown
          have hsz : cc.size = 2 := by rw [q6 hroom hown, hcs]; rfl
          have h1 := q4 0 (.pointer none) (by rw [hcs]; rfl)
          have h2 := q4 1 c (by rw [hcs]; rfl)
          have hw := Any.Builder_copyCheck_fresh L X (μ b) w (by rw [cell_at q1, h1]; rfl) (by
            unfold World.shape?
            rw [q1]
            simp [qe, beq_true hT, hsz]) (by
            unfold World.frozen?
            rw [q1, qf]
            simp)
          show OpOut _ _ _ _ _ _ _ _ _ _ ((callFunc (ρ.f 240) #[.pointer (some ⟨μ b, 0, none⟩)]).run E.P w)
          rw [enter]
          refine ⟨rfl, hw.mono fun e' w' ⟨he, ho⟩ => ⟨_, he, μ, κ, ?_, rfl, ?_⟩⟩
          · subst ho
            exact stepAt (onlyAt_setCell w (μ b) 0 _) hblt
          · subst ho
            have o := onlyAt_setCell w (μ b) 0 (.pointer (some ⟨μ b, 0, none⟩))
            refine hr.write hblk (hr.below.trans (o.below qb)) o.other ?_
            refine ⟨cc.setIfInBounds 0 (.pointer (some ⟨μ b, 0, none⟩)), e, fr, ?_, fun _ => ⟨qe, qb, qf⟩, by simp [hsz], fun j v hj => ?_, fun h => absurd rfl h, fun _ _ => by simp [hsz]⟩
            · simp only [World.setCell, Array.getElem?_modify, q1]
              simp
            · match j, hj with
              | 0, hj =>
                have hv : v = .pointer (some ⟨b, 0, none⟩) := by simpa using hj.symm
                subst hv
                simp [hsz, renAd]
              | 1, hj =>
                have hv : v = c := by simpa using hj.symm
                subst hv
                rw [Array.getElem?_setIfInBounds_ne (by omega)]
                exact h2
              | j + 2, hj => simp at hj
        · rename_i b'
          obtain ⟨hT, hK2⟩ := chk_true hK
          have hbb := beq_true hT
          subst hbb
          refine ⟨_, _, _, _, hK2, ⟨Nat.le_refl _, fun D _ _ _ hh => ⟨WF.pure (d := 6) rfl, hh.mono Dp_mono⟩⟩, fun μ κ w hr hh hx hg => ?_⟩
          have hbk := hr.blk _ blk hblk
          unfold BlkOk at hbk
          rw [hit] at hbk
          obtain ⟨cc, e, fr, q1, q2, q3, q4, q5, q6⟩ := hbk
          have h1 := q4 0 _ (by rw [hcs]; rfl)
          have hw := Any.Builder_copyCheck_used L X (μ b') w (by rw [cell_at q1, h1]; rfl)
          show OpOut _ _ _ _ _ _ _ _ _ _ ((callFunc (ρ.f 240) #[.pointer (some ⟨μ b', 0, none⟩)]).run E.P w)
          rw [enter]
          refine ⟨rfl, hw.mono fun e' w' ⟨he, ho⟩ => ⟨_, he, μ, κ, ?_, rfl, ?_⟩⟩
          · subst ho; exact Step.refl _ _ _ _ _
          · subst ho; exact hr
        · exact hK.elim
      · exact hK.elim
  · cases hT

/-- A new row of bytes that are not known. -/
def ruleNoZero (e : TypeId) : Rule := fun args h n => match args with
  | [.int .i64 m] => some fun K => chk (decide (0 ≤ m) && decide (m ≤ 281474976710656)) (K (.slice (some ⟨n, 0, none⟩) m.toNat big) ((n, { cells := List.replicate m.toNat none, elem := e, own := true, room := 1, iter := none }) :: h) (n + 1) big)
  | _ => none

theorem ruleOk_noZero {f : FuncId} {t e : TypeId} {ps : Array TypeId} (I : InPlace P f (Extern.BytealgMakeNoZero.makeNoZero ps #[t])) (ht : P.underlying t = some (.slice e)) : RuleOk P base f (ruleNoZero e) := by
  intro E hE args h n T K hT hK
  subst hE
  unfold ruleNoZero at hT
  split at hT
  · rename_i m
    cases hT
    obtain ⟨hc, hK⟩ := chk_true hK
    simp only [Bool.and_eq_true, decide_eq_true_eq] at hc
    refine ⟨_, _, _, _, hK, noZero_sound hc.1 (fun w => ?_) h n⟩
    obtain ⟨M, rfl⟩ := Int.eq_ofNat_of_zero_le hc.1
    obtain ⟨cs, h1, h2, _⟩ := Lib.run_makeNoZero (P := E.P) w ps t e ht M (by omega)
    refine ⟨cs, w.drew.drew, ?_, h2, rfl, rfl, rfl, rfl⟩
    rw [I.run]
    rw [h1]
    rfl
  · cases hT

end
end Go.Proofs
