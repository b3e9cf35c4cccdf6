/-
  Rules for what the model runs in place: bits.Add64, bits.Sub64, bytealg.CountString, bytealg.IndexByteString, abi.NoEscape.
-/
import Derived.Test.YtamkkkkonigglaaGreatDoorPeQ
import Derived.Lib.Bytealg
import Derived.Laws.Externs
namespace Go.Pe
open Go Go.RowKit

def carryV (x y c : Int) : Value := .tuple #[.int .u64 ((x + y + c) % 18446744073709551616), .int .u64 ((x + y + c) / 18446744073709551616)]
def ruleAdd : Rule := fun args h n => match args with
  | [.int .u64 x, .int .u64 y, .int .u64 c] => some fun K => chk (decide (0 ≤ x) && decide (0 ≤ y) && decide (0 ≤ c) && decide (c ≤ 1)) (K (carryV x y c) h n big)
  | _ => none

def ruleIndexByte : Rule := fun args h n => match args with
  | [.string s, .int .u8 c] => some fun K => K (.int .i64 (Lib.indexByte s.data.toList c.toNat.toUInt8)) h n big
  | _ => none

def ruleSame : Rule := fun args h n => match args with
  | [x] => some fun K => K x h n big
  | _ => none

/-- What the model runs in place. -/
structure InPlace (P : Program) (f : FuncId) (e : Array Value → Sem Value) : Prop where
  run : ∀ (args : Array Value) (w : World), (callFunc f args).run P w = ((e args).run P w).andThen fun v w' => .ok (.value v) w'

theorem inPlace {P : Program} {f : FuncId} {e : Array Value → Sem Value} (fn : Func) (hf : P.funcs[f]? = some fn) (hname : (fn.name == "runtime.NumGoroutine") = false) (hb : fn.body.isNone = true) (hn : Extern.findNext fn = none)
    (he : Extern.find fn = some e) : InPlace P f e := ⟨fun args w => run_callFunc_extern hf hname hb hn he args w⟩

section
variable {P : Program} {base : World} {f : FuncId}

theorem ruleOk_value {e : Array Value → Sem Value} (I : InPlace P f e) {R : Rule} (h : ∀ args h n T K, R args h n = some T → T K → ∃ v, K v h n big ∧ (∀ D : Nat → Prop, (∀ x ∈ args, WF D x) → WF D v) ∧
    ∀ μ κ w, (e (args.map (renV μ κ)).toArray).run P w = .ok (renV μ κ v) w) : RuleOk P base f R := by
  intro E hE args hp n T K hT hK
  obtain ⟨v, h1, h2, h3⟩ := h args hp n T K hT hK
  refine ⟨v, hp, n, big, h1, FuncSem.ofValue (fun μ κ w => ?_) h2 hp n⟩
  rw [hE, I.run, h3]
  rfl

theorem ruleOk_add (I : InPlace P f add64Entry) : RuleOk P base f ruleAdd := by
  refine ruleOk_value I fun args h n T K hT hK => ?_
  unfold ruleAdd at hT
  split at hT
  · rename_i x y c
    cases hT
    obtain ⟨hc, hK⟩ := chk_true hK
    simp only [Bool.and_eq_true, decide_eq_true_eq] at hc
    refine ⟨_, hK, fun D _ => WF.pure (d := 6) rfl, fun μ κ w => ?_⟩
    have := run_add64 (P := P) x y c hc.1.1.1 hc.1.1.2 hc.1.2 hc.2 w
    simpa [carryV] using this
  · cases hT

theorem ruleOk_same (I : InPlace P f Extern.AbiNoEscape.same) : RuleOk P base f ruleSame := by
  refine ruleOk_value I fun args h n T K hT hK => ?_
  unfold ruleSame at hT
  split at hT
  · rename_i x
    cases hT
    exact ⟨_, hK, fun D hD => hD x (by simp), fun μ κ w => rfl⟩
  · cases hT

theorem ruleOk_indexByte (I : InPlace P f Extern.BytealgIndexByte.indexByte) : RuleOk P base f ruleIndexByte := by
  refine ruleOk_value I fun args h n T K hT hK => ?_
  unfold ruleIndexByte at hT
  split at hT
  · rename_i s c
    cases hT
    refine ⟨_, hK, fun D _ => WF.int _ _, fun μ κ w => ?_⟩
    have := run_indexByte_string (P := P) s c w
    rw [Lib.firstIdx_eq] at this
    exact this
  · cases hT

end
end Go.Pe
