/-
  Equality of structs and arrays, part by part.
-/
import Derived.Test.YtamkkkkonigglaaGreatDoorPeR
import Derived.ChangeKeysEq
namespace Go.Pe
open Go Go.RowKit

/-- The fields of two structs, held against each other. -/
def eqFs (E : Env) (q : TypeId → Value → Value → Option Bool) (xs ys : Array Value) : List Field → Option Bool
  | [] => some true
  | f :: fs => match decide (f.name = "_") with
    | true => none
    | false => match partO E f.type xs f.offset, partO E f.type ys f.offset with
      | some a, some b => match q f.type a b, eqFs E q xs ys fs with
        | some r, some s => some (r && s)
        | _, _ => none
      | _, _ => none

/-- The items of two arrays, held against each other. -/
def eqIs (E : Env) (q : TypeId → Value → Value → Option Bool) (e : TypeId) (c : Nat) (xs ys : Array Value) : List Nat → Option Bool
  | [] => some true
  | i :: is => match partO E e xs (i * c), partO E e ys (i * c) with
    | some a, some b => match q e a b, eqIs E q e c xs ys is with
      | some r, some s => some (r && s)
      | _, _ => none
    | _, _ => none

/-- Equality, part by part. -/
def eqO (E : Env) : Nat → TypeId → Value → Value → Option Bool
  | 0, _, _, _ => none
  | d + 1, t, x, y => match und E t, x, y with
    | some .bool, .bool a, .bool b => some (a == b)
    | some (.int _), .int k a, .int k' b => (match decide (k = k') with | true => some (a == b) | false => none)
    | some .string, .string a, .string b => some (strEq a b)
    | some (.struct fs), .agg xs, .agg ys => (match E.P.stoodInHeld t with
      | true => none
      | false => eqFs E (eqO E d) xs ys fs.toList)
    | some (.array n e), .agg xs, .agg ys => (match E.P.info? e with
      | none => none
      | some _ => eqIs E (eqO E d) e (E.P.cellsOf e) xs ys (List.range n))
    | _, _, _ => none

theorem strEq_toList (a b : ByteArray) : strEq a b = (a.toList == b.toList) := by
  have key : ∀ x y : List UInt8, listEq x y = (x == y) := by
    intro x
    induction x with
    | nil => intro y; cases y <;> rfl
    | cons p x ih =>
      intro y
      cases y with
      | nil => rfl
      | cons q y =>
        unfold listEq
        rw [List.cons_beq_cons]
        split
        · rename_i h
          have : p = q := UInt8.toNat_inj.1 (Nat.eq_of_beq_eq_true h)
          subst this
          simp [ih y]
        · rename_i h
          have : ¬ p = q := fun e => Nat.ne_of_beq_eq_false h (by rw [e])
          simp [this]
  unfold strEq
  rw [key, ByteArray.toList_eq, ByteArray.toList_eq]

section
variable {E : Env} {μ κ : Nat → Nat} {w : World}

theorem eqFs_sound {c : Nat} {q : TypeId → Value → Value → Option Bool} (hq : ∀ t x y r, q t x y = some r → (Op.equalIn c t (renV μ κ x) (renV μ κ y)).run E.P w = .ok r w) {xs ys : Array Value} :
    ∀ (fs : List Field) (r : Bool), eqFs E q xs ys fs = some r → (Op.eqFields c (xs.map (renV μ κ)) (ys.map (renV μ κ)) fs).run E.P w = .ok r w
  | [], r, h => by
    simp only [eqFs, Option.some.injEq] at h
    subst h
    simp [Op.eqFields]
  | f :: fs, r, h => by
    unfold eqFs at h
    split at h
    · cases h
    · rename_i hn
      have hn := of_decide_eq_false hn
      split at h
      · rename_i a b ha hb
        split at h
        · rename_i p s hp hs
          cases h
          have ih := eqFs_sound hq fs s hs
          simp only [Op.eqFields, hn, ne_eq, not_false_eq_true, if_true, Sem.run_bind, partO_spec ha, partO_spec hb, hq _ _ _ _ hp, Result.andThen_ok]
          cases p
          · simp
          · simpa using ih
        · cases h
      · cases h

theorem eqIs_sound {c n : Nat} {e : TypeId} {q : TypeId → Value → Value → Option Bool} (hq : ∀ t x y r, q t x y = some r → (Op.equalIn c t (renV μ κ x) (renV μ κ y)).run E.P w = .ok r w) {xs ys : Array Value} :
    ∀ (is : List Nat) (r : Bool), eqIs E q e n xs ys is = some r → (Op.eqItems c e n (xs.map (renV μ κ)) (ys.map (renV μ κ)) is).run E.P w = .ok r w
  | [], r, h => by
    simp only [eqIs, Option.some.injEq] at h
    subst h
    simp [Op.eqItems]
  | i :: is, r, h => by
    unfold eqIs at h
    split at h
    · rename_i a b ha hb
      split at h
      · rename_i p s hp hs
        cases h
        have ih := eqIs_sound hq is s hs
        simp only [Op.eqItems, Sem.run_bind, partO_spec ha, partO_spec hb, hq _ _ _ _ hp, Result.andThen_ok]
        cases p
        · simp
        · simpa using ih
      · cases h
    · cases h

theorem eqO_sound (c : Nat) : ∀ (d : Nat) (t : TypeId) (x y : Value) (r : Bool), eqO E d t x y = some r → (Op.equalIn (c + d) t (renV μ κ x) (renV μ κ y)).run E.P w = .ok r w
  | 0, _, _, _, _, h => by simp [eqO] at h
  | d + 1, t, x, y, r, h => by
    unfold eqO at h
    split at h
    · rename_i a b hu
      cases h
      exact run_equalIn_bool w (c + d) t a b hu
    · rename_i q k a k' b hu
      split at h
      · rename_i hk
        obtain rfl := of_decide_eq_true hk
        cases h
        exact run_equalIn_int w (c + d) t k q a b hu
      · cases h
    · rename_i a b hu
      cases h
      rw [strEq_toList]
      exact run_equalIn_string w (c + d) t a b hu
    · rename_i fs xs ys hu
      split at h
      · cases h
      · rename_i hs
        have hf : E.P.fieldsOf t = fs := by
          unfold Program.fieldsOf
          rw [show E.P.underlying t = some (.struct fs) from hu]
        rw [renV_agg, renV_agg, show c + (d + 1) = (c + d) + 1 by omega, run_equalIn_agg w (c + d) t _ _ (by rw [hf]; exact hu) hs, hf]
        exact eqFs_sound (fun t x y r h => eqO_sound c d t x y r h) _ _ h
    · rename_i n e xs ys hu
      split at h
      · cases h
      · rename_i i hi
        rw [renV_agg, renV_agg, show c + (d + 1) = (c + d) + 1 by omega, run_equalIn_array w (c + d) _ _ hu hi]
        exact eqIs_sound (fun t x y r h => eqO_sound c d t x y r h) _ _ h
    · cases h

/-- What an environment may say of the equality of structs and arrays of these types. -/
def eqA (E : Env) (ts : List TypeId) (t : TypeId) (a b : List Value) : Option Bool :=
  match ts.any (Nat.beq t) with
  | true => eqO E 10 t (.agg a.toArray) (.agg b.toArray)
  | false => none

theorem eqA_sound {ts : List TypeId} (hg : ∀ t ∈ ts, E.P.eqGuardType E.P.depth t = false) (t : TypeId) (a b : List Value) (r : Bool) (h : eqA E ts t a b = some r) (μ κ : Nat → Nat) (w : World) :
    (∀ op x y, (eqGuard op t x y (.agg (a.map (renV μ κ)).toArray) (.agg (b.map (renV μ κ)).toArray)).run E.P w = .ok () w) ∧
    (Op.equal t (.agg (a.map (renV μ κ)).toArray) (.agg (b.map (renV μ κ)).toArray)).run E.P w = .ok r w := by
  unfold eqA at h
  split at h
  · rename_i ht
    obtain ⟨t', hm, he⟩ := List.any_eq_true.1 ht
    obtain rfl := Nat.eq_of_beq_eq_true he
    refine ⟨fun op x y => run_eqGuard_agg w op t x y _ _ (hg t hm), ?_⟩
    have := eqO_sound (E := E) (μ := μ) (κ := κ) (w := w) 9990 10 t _ _ r h
    rw [renV_agg, renV_agg, List.map_toArray, List.map_toArray] at this
    exact this
  · cases h

end
end Go.Pe
