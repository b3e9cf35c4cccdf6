/-
  The law TimefunSpans: what it reckons.
-/
import Derived.Test.YtdbjbmdaekgbhaaGreatDoorWo
import Derived.Test.YtdbjbmdaekgbhaaGreatDoorFz
namespace Go.Proofs.YtdbjbmdaekgbhaaGreatDoor
open Go Go.Pe Go.RowKit

theorem awake24_tot (base : World) : Tot base 10 [] (.bool true) := fun E hE h ht n => by
  obtain ⟨v, h', n', mw, ⟨rfl, rfl, rfl, rfl⟩, hs⟩ := awake24_ok base E hE [] h n _ (fun v g m x => v = .bool true ∧ g = h ∧ m = n ∧ x = big) rfl ⟨hasTab_sub ht, rfl, rfl, rfl, rfl⟩
  exact hs

/-- A number and whether, whichever they are. -/
def ruleIE (base : World) (f : FuncId) : Rule := rule1 fun args => some fun K => (∃ k b, Tot base f args (.tuple #[.int .i64 k, .bool b])) ∧ ∀ k b, Tot base f args (.tuple #[.int .i64 k, .bool b]) → K (.tuple #[.int .i64 k, .bool b])
theorem ie_ok {base : World} {f : FuncId} : RuleOk Tryz.prog base f (ruleIE base f) := ruleOk_of fun args T K hT hK => by
  cases hT
  obtain ⟨⟨k, b, h⟩, hK⟩ := hK
  exact ⟨_, hK k b h, h⟩
def ruleDE (base : World) (f : FuncId) : Rule := rule1 fun args => some fun K => (∃ n a b e ok, (u64 a ∧ u64 b ∧ i64 e) ∧ Tot base f args (.tuple #[decC n a b e, .bool ok])) ∧ ∀ n a b e ok, u64 a → u64 b → i64 e → Tot base f args (.tuple #[decC n a b e, .bool ok]) → K (.tuple #[decC n a b e, .bool ok])
theorem de_ok {base : World} {f : FuncId} : RuleOk Tryz.prog base f (ruleDE base f) := ruleOk_of fun args T K hT hK => by
  cases hT
  obtain ⟨⟨n, a, b, e, ok, ⟨h1, h2, h3⟩, h⟩, hK⟩ := hK
  exact ⟨_, hK n a b e ok h1 h2 h3 h, h⟩
def ruleSAddO : Rule := ruleA fun args => match args with
  | [.int .i64 n, .int .i64 m] => some fun K => ∀ k b, (addOk n m ∧ k = IntKind.wrap .i64 (n + m) ∧ b = true ∨ ¬ addOk n m ∧ b = false) → K (.tuple #[.int .i64 k, .bool b])
  | _ => none
theorem saddO_ok {base : World} : RuleOk Tryz.prog base 20 ruleSAddO := ruleOkA fun args T K hT hK => by
  split at hT
  · cases hT
    rename_i n m
    obtain ⟨v, hv, ht⟩ := totA_of (base := base) (envW_ok (rules := []) fun _ h => nomatch h) (findL_ok (l := []) rfl fun _ h => nomatch h) rfl (sadd_hk n m) (fun v hv => by rcases hv with ⟨_, rfl⟩ | ⟨_, rfl⟩ <;> kernel_rfl) (List.forall_mem_cons.2 ⟨by kernel_rfl, List.forall_mem_cons.2 ⟨by kernel_rfl, fun _ h => nomatch h⟩⟩)
    rcases hv with ⟨h, rfl⟩ | ⟨h, rfl⟩
    · exact ⟨_, hK _ _ (.inl ⟨h, rfl, rfl⟩), ht⟩
    · exact ⟨_, hK _ _ (.inr ⟨h, rfl⟩), ht⟩
  · cases hT
def ruleMake02 : Rule := ruleA fun args => match args with
  | [.agg ⟨[.bool _, .int .u64 h, .int .u64 l, .int .i64 _]⟩] => some fun K => (u64 h ∧ u64 l) ∧ ∀ b x y k, decOk b x y k → K (decC b x y k)
  | _ => none
theorem make02_ok {base : World} : RuleOk Tryz.prog base 11 ruleMake02 := ruleOkA fun args T K hT hK => by
  split at hT
  · cases hT
    obtain ⟨⟨h1, h2⟩, hK⟩ := hK
    obtain ⟨b, x, y, k, hd, ht⟩ := dmake_tot (base := base) _ _ h1 h2
    exact ⟨_, hK b x y k hd, ht⟩
  · cases hT

def rulesSpans (base : World) : List (Nat × Rule) :=
  (10, ruleAt [] (.bool true)) :: (11, ruleMake02) :: (24, ruleTrue base 24) :: (18, ruleSame' base) ::
  (16, ruleInt1) :: (17, ruleEx base 17) :: (19, ruleEx base 19) :: (12, ruleEx base 12) ::
  (20, ruleSAddO) :: (21, ruleIE base 21) :: (22, ruleIE base 22) :: (23, ruleDE base 23) :: rulesC opqK rules4
theorem rulesSpans_ok (base : World) : ∀ x ∈ rulesSpans base, RuleOk Tryz.prog base x.1 x.2 :=
  List.forall_mem_cons.2 ⟨ruleOk_at (awake24_tot base), List.forall_mem_cons.2 ⟨make02_ok, List.forall_mem_cons.2 ⟨true_ok, List.forall_mem_cons.2 ⟨same_ok base, List.forall_mem_cons.2 ⟨int1_ok base, List.forall_mem_cons.2 ⟨ex_ok, List.forall_mem_cons.2 ⟨ex_ok, List.forall_mem_cons.2 ⟨ex_ok,
    List.forall_mem_cons.2 ⟨saddO_ok, List.forall_mem_cons.2 ⟨ie_ok, List.forall_mem_cons.2 ⟨ie_ok, List.forall_mem_cons.2 ⟨de_ok, rulesC_ok opq_way (rules4_ok base)⟩⟩⟩⟩⟩⟩⟩⟩⟩⟩⟩⟩

theorem spans_law (K : Value → Nat → Prop) (base : World) (n0 : Bool) (h0 l0 e0 a c : Int) :
    funcK (envB (rulesSpans base)) 30 3 [.int .i64 a, .int .i64 c, decC n0 h0 l0 e0] tabs Tryz.prog.globals.size (fun u _ _ mw => K u mw) =
  (Same [] [] ∧
 (u64 h0 ∧ u64 l0) ∧
 ∀ (b : Bool) (x y k : Int),
 decOk b x y k →
 (List.all [Value.bool b, Value.int IntKind.u64 x, Value.int IntKind.u64 y, Value.int IntKind.i64 k] fun (x : Go.Value) => Value.oneCell' x) = Bool.true ∧
 ∃ (x_1 : Go.Value),
 Tot base (12 : Nat)
 [Value.agg (Array.mk [Value.bool b, Value.int IntKind.u64 x, Value.int IntKind.u64 y, Value.int IntKind.i64 k])] (Value.agg (Array.mk [x_1])) ∧
 (List.all [x_1] fun (x : Go.Value) => Value.oneCell' x) = Bool.true ∧
 ∀ (x_2 : Go.Value),
 isV (spanOk (Int.tmod a (9007199254740992 : Int)))
 (Value.agg (Array.mk [Value.iface (125 : Nat) (Value.int IntKind.i64 (Int.tmod a (9007199254740992 : Int)))])) (Value.agg (Array.mk [x_2])) →
 ∀ (x_3 : Go.Value),
 isV (spanOk (Int.tmod c (9007199254740992 : Int)))
 (Value.agg (Array.mk [Value.iface (125 : Nat) (Value.int IntKind.i64 (Int.tmod c (9007199254740992 : Int)))])) (Value.agg (Array.mk [x_3])) →
 ∀ (x_4 : Go.Value),
 isV (spanOk (Int.tmod a (9007199254740992 : Int)))
 (Value.agg (Array.mk [Value.iface (126 : Nat) (Value.int IntKind.i64 (Int.tmod a (9007199254740992 : Int)))])) (Value.agg (Array.mk [x_4])) →
 ∀ (x_5 : Go.Value),
 isV (spanOk (Int.tmod c (9007199254740992 : Int)))
 (Value.agg (Array.mk [Value.iface (126 : Nat) (Value.int IntKind.i64 (Int.tmod c (9007199254740992 : Int)))])) (Value.agg (Array.mk [x_5])) →
 (List.all [x_2] fun (x : Go.Value) => Value.oneCell' x) = Bool.true ∧
 (List.all [x_3] fun (x : Go.Value) => Value.oneCell' x) = Bool.true ∧
 (List.all [x_4] fun (x : Go.Value) => Value.oneCell' x) = Bool.true ∧
 (List.all [x_5] fun (x : Go.Value) => Value.oneCell' x) = Bool.true ∧
 ∃ (x_6 : Go.Value),
 Tot base (17 : Nat)
 [Value.agg (Array.mk [x_2]), Value.string (ByteArray.mk #[(100 : UInt8), (97 : UInt8), (121 : UInt8), (115 : UInt8)])]
 (Value.agg (Array.mk [x_6])) ∧
 Value.agg (Array.mk [x_6]) =
 Value.agg
 (Array.mk
 [Value.iface (123 : Nat)
 (Value.agg
 (Array.mk
 [Value.bool
 (decide (IntKind.wrap IntKind.i64 (Int.tdiv (Int.tmod a (9007199254740992 : Int)) (86400 : Int)) < (0 : Int))),
 Value.int IntKind.u64 (Int.ofNat (0 : Nat)),
 Value.int IntKind.u64
 (Int.ofNat (Int.natAbs (IntKind.wrap IntKind.i64 (Int.tdiv (Int.tmod a (9007199254740992 : Int)) (86400 : Int))))),
 Value.int IntKind.i64 (Int.ofNat (0 : Nat))]))]) ∧
 rng (IntKind.wrap IntKind.i64 (Int.tdiv (Int.tmod a (9007199254740992 : Int)) (86400 : Int))) ∧
 ∃ (x_7 : Go.Value),
 Tot base (17 : Nat)
 [Value.agg (Array.mk [x_2]), Value.string (ByteArray.mk #[(104 : UInt8), (111 : UInt8), (117 : UInt8), (114 : UInt8), (115 : UInt8)])]
 (Value.agg (Array.mk [x_7])) ∧
 Value.agg (Array.mk [x_7]) =
 Value.agg
 (Array.mk
 [Value.iface (123 : Nat)
 (Value.agg
 (Array.mk
 [Value.bool
 (decide
 (IntKind.wrap IntKind.i64 (Int.tdiv (Int.tmod (Int.tmod a (9007199254740992 : Int)) (86400 : Int)) (3600 : Int)) <
 (0 : Int))),
 Value.int IntKind.u64 (Int.ofNat (0 : Nat)),
 Value.int IntKind.u64
 (Int.ofNat
 (Int.natAbs
 (IntKind.wrap IntKind.i64 (Int.tdiv (Int.tmod (Int.tmod a (9007199254740992 : Int)) (86400 : Int)) (3600 : Int))))),
 Value.int IntKind.i64 (Int.ofNat (0 : Nat))]))]) ∧
 rng
 (IntKind.wrap IntKind.i64 (Int.tdiv (Int.tmod (Int.tmod a (9007199254740992 : Int)) (86400 : Int)) (3600 : Int))) ∧
 ∃ (x_8 : Go.Value),
 Tot base (17 : Nat)
 [Value.agg (Array.mk [x_2]),
 Value.string
 (ByteArray.mk #[(109 : UInt8), (105 : UInt8), (110 : UInt8), (117 : UInt8), (116 : UInt8), (101 : UInt8), (115 : UInt8)])]
 (Value.agg (Array.mk [x_8])) ∧
 Value.agg (Array.mk [x_8]) =
 Value.agg
 (Array.mk
 [Value.iface (123 : Nat)
 (Value.agg
 (Array.mk
 [Value.bool
 (decide
 (IntKind.wrap IntKind.i64 (Int.tdiv (Int.tmod (Int.tmod a (9007199254740992 : Int)) (3600 : Int)) (60 : Int)) <
 (0 : Int))),
 Value.int IntKind.u64 (Int.ofNat (0 : Nat)),
 Value.int IntKind.u64
 (Int.ofNat
 (Int.natAbs
 (IntKind.wrap IntKind.i64
 (Int.tdiv (Int.tmod (Int.tmod a (9007199254740992 : Int)) (3600 : Int)) (60 : Int))))),
 Value.int IntKind.i64 (Int.ofNat (0 : Nat))]))]) ∧
 rng
 (IntKind.wrap IntKind.i64 (Int.tdiv (Int.tmod (Int.tmod a (9007199254740992 : Int)) (3600 : Int)) (60 : Int))) ∧
 ∃ (x_9 : Go.Value),
 Tot base (17 : Nat)
 [Value.agg (Array.mk [x_2]),
 Value.string
 (ByteArray.mk #[(115 : UInt8), (101 : UInt8), (99 : UInt8), (111 : UInt8), (110 : UInt8), (100 : UInt8), (115 : UInt8)])]
 (Value.agg (Array.mk [x_9])) ∧
 Value.agg (Array.mk [x_9]) =
 Value.agg
 (Array.mk
 [Value.iface (123 : Nat)
 (Value.agg
 (Array.mk
 [Value.bool (decide (Int.tmod (Int.tmod a (9007199254740992 : Int)) (60 : Int) < (0 : Int))),
 Value.int IntKind.u64 (Int.ofNat (0 : Nat)),
 Value.int IntKind.u64 (Int.ofNat (Int.natAbs (Int.tmod (Int.tmod a (9007199254740992 : Int)) (60 : Int)))),
 Value.int IntKind.i64 (Int.ofNat (0 : Nat))]))]) ∧
 rng (Int.tmod (Int.tmod a (9007199254740992 : Int)) (60 : Int)) ∧
 ∃ (x_10 : Go.Value),
 Tot base (17 : Nat)
 [Value.agg (Array.mk [x_4]),
 Value.string (ByteArray.mk #[(121 : UInt8), (101 : UInt8), (97 : UInt8), (114 : UInt8), (115 : UInt8)])]
 (Value.agg (Array.mk [x_10])) ∧
 Value.agg (Array.mk [x_10]) =
 Value.agg
 (Array.mk
 [Value.iface (123 : Nat)
 (Value.agg
 (Array.mk
 [Value.bool
 (decide
 (IntKind.wrap IntKind.i64 (Int.tdiv (Int.tmod a (9007199254740992 : Int)) (12 : Int)) <
 (0 : Int))),
 Value.int IntKind.u64 (Int.ofNat (0 : Nat)),
 Value.int IntKind.u64
 (Int.ofNat
 (Int.natAbs
 (IntKind.wrap IntKind.i64 (Int.tdiv (Int.tmod a (9007199254740992 : Int)) (12 : Int))))),
 Value.int IntKind.i64 (Int.ofNat (0 : Nat))]))]) ∧
 rng
 (IntKind.wrap IntKind.i64 (Int.tdiv (Int.tmod a (9007199254740992 : Int)) (12 : Int))) ∧
 ∃ (x_11 : Go.Value),
 Tot base (17 : Nat)
 [Value.agg (Array.mk [x_4]),
 Value.string
 (ByteArray.mk #[(109 : UInt8), (111 : UInt8), (110 : UInt8), (116 : UInt8), (104 : UInt8), (115 : UInt8)])]
 (Value.agg (Array.mk [x_11])) ∧
 Value.agg (Array.mk [x_11]) =
 Value.agg
 (Array.mk
 [Value.iface (123 : Nat)
 (Value.agg
 (Array.mk
 [Value.bool
 (decide (Int.tmod (Int.tmod a (9007199254740992 : Int)) (12 : Int) < (0 : Int))),
 Value.int IntKind.u64 (Int.ofNat (0 : Nat)),
 Value.int IntKind.u64
 (Int.ofNat (Int.natAbs (Int.tmod (Int.tmod a (9007199254740992 : Int)) (12 : Int)))),
 Value.int IntKind.i64 (Int.ofNat (0 : Nat))]))]) ∧
 rng (Int.tmod (Int.tmod a (9007199254740992 : Int)) (12 : Int)) ∧
 ∃ (x_12 : Go.Value),
 Tot base (19 : Nat) [Value.agg (Array.mk [x_2])]
 (Value.agg (Array.mk [x_12])) ∧
 ∀ (x_13 : Go.Value),
 isV
 (spanOk
 (IntKind.wrap IntKind.i64 ((0 : Int) - Int.tmod a (9007199254740992 : Int))))
 (Value.agg
 (Array.mk
 [Value.iface (125 : Nat)
 (Value.int IntKind.i64
 (IntKind.wrap IntKind.i64 ((0 : Int) - Int.tmod a (9007199254740992 : Int))))]))
 (Value.agg (Array.mk [x_13])) →
 x_12 = x_13 ∧
 Plainly base (Value.agg (Array.mk [x_12])) ∧
 ∃ (x_14 : Go.Value),
 Tot base (19 : Nat) [Value.agg (Array.mk [x_4])]
 (Value.agg (Array.mk [x_14])) ∧
 ∀ (x_15 : Go.Value),
 isV
 (spanOk
 (IntKind.wrap IntKind.i64 ((0 : Int) - Int.tmod a (9007199254740992 : Int))))
 (Value.agg
 (Array.mk
 [Value.iface (126 : Nat)
 (Value.int IntKind.i64
 (IntKind.wrap IntKind.i64
 ((0 : Int) - Int.tmod a (9007199254740992 : Int))))]))
 (Value.agg (Array.mk [x_15])) →
 x_14 = x_15 ∧
 Plainly base (Value.agg (Array.mk [x_14])) ∧
 ∀ (k_1 : Int) (b_1 : Bool),
 addOk (Int.tmod a (9007199254740992 : Int))
 (Int.tmod c (9007199254740992 : Int)) ∧
 k_1 =
 IntKind.wrap IntKind.i64
 (Int.tmod a (9007199254740992 : Int) +
 Int.tmod c (9007199254740992 : Int)) ∧
 b_1 = Bool.true ∨
 ¬addOk (Int.tmod a (9007199254740992 : Int))
 (Int.tmod c (9007199254740992 : Int)) ∧
 b_1 = Bool.false →
 ∀ (k_2 : Int) (b_2 : Bool),
 addOk (Int.tmod a (9007199254740992 : Int))
 (IntKind.wrap IntKind.i64
 ((0 : Int) - Int.tmod c (9007199254740992 : Int))) ∧
 k_2 =
 IntKind.wrap IntKind.i64
 (Int.tmod a (9007199254740992 : Int) +
 IntKind.wrap IntKind.i64
 ((0 : Int) - Int.tmod c (9007199254740992 : Int))) ∧
 b_2 = Bool.true ∨
 ¬addOk
 (Int.tmod a (9007199254740992 : Int))
 (IntKind.wrap IntKind.i64
 ((0 : Int) - Int.tmod c (9007199254740992 : Int))) ∧
 b_2 = Bool.false →
 (∃ (x_16 : Int),
 ∃ (x_17 : Bool),
 Tot base (21 : Nat)
 [Value.int IntKind.i64 (Int.tmod a (9007199254740992 : Int)),
 Value.agg
 (Array.mk
 [Value.bool b, Value.int IntKind.u64 x,
 Value.int IntKind.u64 y, Value.int IntKind.i64 k])]
 (Value.tuple
 (Array.mk [Value.int IntKind.i64 x_16, Value.bool x_17]))) ∧
 ∀ (k_3 : Int) (b_3 : Bool),
 Tot base (21 : Nat)
 [Value.int IntKind.i64 (Int.tmod a (9007199254740992 : Int)),
 Value.agg
 (Array.mk
 [Value.bool b, Value.int IntKind.u64 x,
 Value.int IntKind.u64 y, Value.int IntKind.i64 k])]
 (Value.tuple
 (Array.mk [Value.int IntKind.i64 k_3, Value.bool b_3])) →
 (∃ (x_16 : Int),
 ∃ (x_17 : Bool),
 Tot base (22 : Nat)
 [Value.int IntKind.i64
 (Int.tmod a (9007199254740992 : Int)),
 Value.agg
 (Array.mk
 [Value.bool b, Value.int IntKind.u64 x,
 Value.int IntKind.u64 y,
 Value.int IntKind.i64 k])]
 (Value.tuple
 (Array.mk
 [Value.int IntKind.i64 x_16, Value.bool x_17]))) ∧
 ∀ (k_4 : Int) (b_4 : Bool),
 Tot base (22 : Nat)
 [Value.int IntKind.i64
 (Int.tmod a (9007199254740992 : Int)),
 Value.agg
 (Array.mk
 [Value.bool b, Value.int IntKind.u64 x,
 Value.int IntKind.u64 y,
 Value.int IntKind.i64 k])]
 (Value.tuple
 (Array.mk
 [Value.int IntKind.i64 k_4, Value.bool b_4])) →
 (∃ (x : Bool),
 ∃ (x_16 : Int),
 ∃ (x_17 : Int),
 ∃ (x_18 : Int),
 ∃ (x_19 : Bool),
 (u64 x_16 ∧
 u64 x_17 ∧
 i64 x_18) ∧
 Tot base
 (23 : Nat)
 [Value.int IntKind.i64
 (Int.tmod a (9007199254740992 : Int)),
 Value.int IntKind.i64
 (Int.tmod c (9007199254740992 : Int))]
 (Value.tuple
 (Array.mk
 [Value.agg
 (Array.mk
 [Value.bool x,
 Value.int IntKind.u64 x_16,
 Value.int IntKind.u64 x_17,
 Value.int IntKind.i64 x_18]),
 Value.bool x_19]))) ∧
 ∀ (n : Bool) (a_12 b e : Int) (ok : Bool),
 u64 a_12 →
 u64 b →
 i64 e →
 Tot base (23 : Nat)
 [Value.int IntKind.i64
 (Int.tmod a (9007199254740992 : Int)),
 Value.int IntKind.i64
 (Int.tmod c (9007199254740992 : Int))]
 (Value.tuple
 (Array.mk
 [Value.agg
 (Array.mk
 [Value.bool n,
 Value.int IntKind.u64 a_12,
 Value.int IntKind.u64 b,
 Value.int IntKind.i64 e]),
 Value.bool ok])) →
 (List.all
 [Value.bool n,
 Value.int IntKind.u64 a_12,
 Value.int IntKind.u64 b,
 Value.int IntKind.i64 e]
 fun (x : Go.Value) => Value.oneCell' x) =
 Bool.true ∧
 ∀ (x : Go.Value),
 isV
 (spanOk k_1)
 (Value.agg
 (Array.mk
 [Value.iface (125 : Nat)
 (Value.int IntKind.i64 k_1)]))
 (Value.agg (Array.mk [x])) →
 Tot base
 (24 : Nat)
 [Value.string
 (ByteArray.mk #[(43 : UInt8)]),
 Value.agg (Array.mk [x_2]),
 Value.agg (Array.mk [x_3]),
 Value.agg (Array.mk [x]),
 Value.bool b_1]
 (Value.bool Bool.true) ∧
 ∀ (x : Go.Value),
 isV
 (spanOk
 k_1)
 (Value.agg
 (Array.mk
 [Value.iface (126 : Nat)
 (Value.int IntKind.i64
 k_1)]))
 (Value.agg (Array.mk [x])) →
 Tot base
 (24 : Nat)
 [Value.string
 (ByteArray.mk #[(43 : UInt8)]),
 Value.agg (Array.mk [x_4]),
 Value.agg (Array.mk [x_5]),
 Value.agg (Array.mk [x]),
 Value.bool b_1]
 (Value.bool Bool.true) ∧
 ∀ (x : Go.Value),
 isV
 (spanOk
 k_2)
 (Value.agg
 (Array.mk
 [Value.iface (125 : Nat)
 (Value.int IntKind.i64
 k_2)]))
 (Value.agg (Array.mk [x])) →
 Tot
 base (24 : Nat)
 [Value.string
 (ByteArray.mk
 #[(45 : UInt8)]),
 Value.agg (Array.mk [x_2]),
 Value.agg (Array.mk [x_3]),
 Value.agg (Array.mk [x]),
 Value.bool b_2]
 (Value.bool Bool.true) ∧
 ∀ (x : Go.Value),
 isV
 (spanOk
 k_2)
 (Value.agg
 (Array.mk
 [Value.iface
 (126 : Nat)
 (Value.int
 IntKind.i64
 k_2)]))
 (Value.agg
 (Array.mk [x])) →
 Tot
 base (24 : Nat)
 [Value.string
 (ByteArray.mk
 #[(45 : UInt8)]),
 Value.agg
 (Array.mk [x_4]),
 Value.agg
 (Array.mk [x_5]),
 Value.agg
 (Array.mk [x]),
 Value.bool b_2]
 (Value.bool Bool.true) ∧
 ∀ (x : Go.Value),
 isV
 (spanOk
 k_3)
 (Value.agg
 (Array.mk
 [Value.iface
 (125 : Nat)
 (Value.int
 IntKind.i64
 k_3)]))
 (Value.agg
 (Array.mk [x])) →
 Tot
 base (24 : Nat)
 [Value.string
 (ByteArray.mk
 #[(42 :
 UInt8)]),
 Value.agg
 (Array.mk [x_2]),
 Value.agg
 (Array.mk [x_1]),
 Value.agg
 (Array.mk [x]),
 Value.bool b_3]
 (Value.bool
 Bool.true) ∧
 ∀ (x : Go.Value),
 isV
 (spanOk
 k_3)
 (Value.agg
 (Array.mk
 [Value.iface
 (126 :
 Nat)
 (Value.int
 IntKind.i64
 k_3)]))
 (Value.agg
 (Array.mk
 [x])) →
 Tot
 base (24 : Nat)
 [Value.string
 (ByteArray.mk
 #[(42 :
 UInt8)]),
 Value.agg
 (Array.mk
 [x_1]),
 Value.agg
 (Array.mk
 [x_4]),
 Value.agg
 (Array.mk
 [x]),
 Value.bool
 b_3]
 (Value.bool
 Bool.true) ∧
 ∀ (x : Go.Value),
 isV
 (spanOk
 k_4)
 (Value.agg
 (Array.mk
 [Value.iface
 (125 :
 Nat)
 (Value.int
 IntKind.i64
 k_4)]))
 (Value.agg
 (Array.mk
 [x])) →
 Tot
 base
 (24 : Nat)
 [Value.string
 (ByteArray.mk
 #[(47 :
 UInt8)]),
 Value.agg
 (Array.mk
 [x_2]),
 Value.agg
 (Array.mk
 [x_1]),
 Value.agg
 (Array.mk
 [x]),
 Value.bool
 b_4]
 (Value.bool
 Bool.true) ∧
 ∃ (x :
 Go.Value),
 Tot
 base
 (12 :
 Nat)
 [Value.agg
 (Array.mk
 [Value.bool
 n,
 Value.int
 IntKind.u64
 a_12,
 Value.int
 IntKind.u64
 b,
 Value.int
 IntKind.i64
 e])]
 (Value.agg
 (Array.mk
 [x])) ∧
 Tot
 base
 (24 :
 Nat)
 [Value.string
 (ByteArray.mk
 #[(47 :
 UInt8)]),
 Value.agg
 (Array.mk
 [x_4]),
 Value.agg
 (Array.mk
 [x_5]),
 Value.agg
 (Array.mk
 [x]),
 Value.bool
 ok]
 (Value.bool
 Bool.true) ∧
 Tot
 base
 (24 :
 Nat)
 [Value.string
 (ByteArray.mk
 #[(43 :
 UInt8)]),
 Value.agg
 (Array.mk
 [x_2]),
 Value.agg
 (Array.mk
 [x_4]),
 Value.agg
 (Array.mk
 [x_2]),
 Value.bool
 Bool.false]
 (Value.bool
 Bool.true) ∧
 Tot
 base
 (24 :
 Nat)
 [Value.string
 (ByteArray.mk
 #[(47 :
 UInt8)]),
 Value.agg
 (Array.mk
 [x_1]),
 Value.agg
 (Array.mk
 [x_2]),
 Value.agg
 (Array.mk
 [x_2]),
 Value.bool
 Bool.false]
 (Value.bool
 Bool.true) ∧
 Tot
 base
 (24 :
 Nat)
 [Value.string
 (ByteArray.mk
 #[(42 :
 UInt8)]),
 Value.agg
 (Array.mk
 [x_2]),
 Value.agg
 (Array.mk
 [x_3]),
 Value.agg
 (Array.mk
 [x_2]),
 Value.bool
 Bool.false]
 (Value.bool
 Bool.true) ∧
 K
 (Value.bool
 Bool.true)
 (11 :
 Nat)) := by kernel_rfl
end Go.Proofs.YtdbjbmdaekgbhaaGreatDoor
