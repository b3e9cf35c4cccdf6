/-
  The law ValueMakes: what it reckons, by what may be.
-/
import Derived.Test.YtolniekeocnanaaGreatDoorVb
namespace Go.Proofs.YtolniekeocnanaaGreatDoor
open Go Go.Pe Go.RowKit

def vi (n : Int) : Value := .int .i64 n
def vt : Value := .bool true
def vf : Value := .bool false
def sel (k : Bool) (a b : Value) : Value := match k with | true => a | false => b
def vNum (k : Bool) (b : Bool) (h l e : Int) : Value := sel k (numV b h l e) nullV
def aNum (k : Bool) (b : Bool) (h l e : Int) : Value := sel k (.tuple #[decC b h l e, .bool true]) (.tuple #[decC false 0 0 0, .bool false])
def vDate (k : Bool) (y m d : Int) : Value := sel k (dateV y m d) nullV
def aDate (k : Bool) (y m d : Int) : Value := sel k (.tuple #[dateC y m d, .bool true]) (.tuple #[dateC 0 0 0, .bool false])
def vTime (k : Bool) (s : Int) (z : Bool) (o : Int) : Value := sel k (timeV s z o) nullV
def aTime (k : Bool) (s : Int) (z : Bool) (o : Int) : Value := sel k (.tuple #[timeC s z o, .bool true]) (.tuple #[timeC 0 false 0, .bool false])
def vMom (k : Bool) (y m d s : Int) (z : Bool) (o : Int) : Value := sel k (momentV y m d s z o) nullV
def aMom (k : Bool) (y m d s : Int) (z : Bool) (o : Int) : Value := sel k (.tuple #[momentC y m d s z o, .bool true]) (.tuple #[momentC 0 0 0 0 false 0, .bool false])
def vText (k : Bool) (x : ByteArray) : Value := sel k (textV x) nullV
def aText (k : Bool) (x : ByteArray) : Value := sel k (.tuple #[.string x, .bool true]) (.tuple #[.string ⟨#[]⟩, .bool false])
def vDays (k : Bool) (n : Int) : Value := sel k (daysV n) nullV
def vMonths (k : Bool) (n : Int) : Value := sel k (monthsV n) nullV
def aInt (k : Bool) (n : Int) : Value := sel k (.tuple #[.int .i64 n, .bool true]) (.tuple #[.int .i64 0, .bool false])

def rulesVM (kn kd kt kv kx ks : Bool) (b : Bool) (h l e y m d s : Int) (z : Bool) (o : Int) (x : ByteArray) (n : Int) (t : Bool) : List (Nat × Rule) :=
  (24, ruleAt [] (.bool true)) ::
  (11, ruleAt [decC b h l e] (vNum kn b h l e)) :: (25, ruleAt [vNum kn b h l e] (aNum kn b h l e)) :: (40, ruleAt [decC b h l e] (.bool kn)) ::
  (26, ruleAt [dateC y m d] (vDate kd y m d)) :: (27, ruleAt [vDate kd y m d] (aDate kd y m d)) :: (41, ruleAt [dateC y m d] (.bool kd)) ::
  (28, ruleAt [timeC s z o] (vTime kt s z o)) :: (29, ruleAt [vTime kt s z o] (aTime kt s z o)) :: (42, ruleAt [timeC s z o] (.bool kt)) ::
  (30, ruleAt [momentC y m d s z o] (vMom (kd && kt) y m d s z o)) :: (31, ruleAt [vMom (kd && kt) y m d s z o] (aMom (kd && kt) y m d s z o)) :: (43, ruleAt [momentC y m d s z o] (.bool (kd && kt))) ::
  (32, ruleAt [.string x] (vText kx x)) :: (33, ruleAt [vText kx x] (aText kx x)) :: (44, ruleAt [.string x] (.bool kv)) ::
  (12, ruleAt [.int .i64 n] (vDays ks n)) :: (34, ruleAt [vDays ks n] (aInt ks n)) :: (13, ruleAt [.int .i64 n] (vMonths ks n)) :: (35, ruleAt [vMonths ks n] (aInt ks n)) ::
  (36, ruleAt [.bool t] (boolV t)) :: (37, ruleAt [boolV t] (.tuple #[.bool t, .bool true])) :: (38, ruleAt [.int .i64 n] (intV n)) :: (39, ruleAt [intV n] (.tuple #[.int .i64 n, .bool true])) :: rules1

/-- An environment that parts bools, where what is stored needs not be known. -/
noncomputable def envE (rules : List (Nat × Rule)) : Env :=
  { P := Tryz.prog, isBool := bools, oracle := findR rules, eqAgg := eqA (env []) eqTs, loops := 100000, loopP := fun _ _ => none, guess := fun _ _ => none, strF := strAt, lax := true }
theorem envE_ok {rules : List (Nat × Rule)} {base : World} (hr : ∀ x ∈ rules, RuleOk Tryz.prog base x.1 x.2) : EnvOk (envE rules) base :=
  envOk_of (E := envE rules) rfl rfl mixed_ok plain_ok hr fun t a b r h μ κ w => eqA_sound (E := env []) eqTs_ok t a b r h μ κ w
theorem envE_loops {rules : List (Nat × Rule)} {base : World} : LoopsOk (envE rules) base := fun _ _ _ _ _ _ h => by cases h


end Go.Proofs.YtolniekeocnanaaGreatDoor
