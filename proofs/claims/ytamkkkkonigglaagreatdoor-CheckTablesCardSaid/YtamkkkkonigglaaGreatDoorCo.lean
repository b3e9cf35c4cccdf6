/-
  check.Arith is the law's table.
-/
import Derived.Test.YtamkkkkonigglaaGreatDoorCl
namespace Go.Proofs.YtamkkkkonigglaaGreatDoor
open Go Go.Pe Go.RowKit

theorem totP_nil {E : Env} {base : World} (hE : EnvOk E base) (hL : LoopsOk E base) (hEP : E.P = Tryz.prog) {d : Nat} {f : FuncId} {args : List Value} {v : Value}
    (hv : pureV 6 v = true) (ha : ∀ x ∈ args, pureV 6 x = true) (hk : funcK E d f args [] Tryz.prog.globals.size fun u _ _ mw => u = v ∧ Tryz.prog.globals.size ≤ mw) : TotP base f args v := fun E' hP h n =>
  (sem_of_funcK (E := E) hE hL hk hv ha (fun k b hb => by simp [getBlk] at hb) (by rw [hEP]; exact Nat.le_refl _) (Sub.nil h) n).env (hP.trans hEP.symm)
/-- A call over no blocks comes to this number. -/
structure Num (E : Env) (f : FuncId) (args : List Value) (r : Int) : Prop where
  out : funcK E 30 f args [] Tryz.prog.globals.size fun u _ _ mw => u = .int .i64 r ∧ Tryz.prog.globals.size ≤ mw
theorem Num.any {E : Env} {base : World} (hE : EnvOk E base) (hL : LoopsOk E base) (hEP : E.P = Tryz.prog) {f : FuncId} {args : List Value} {r : Int} (ha : ∀ x ∈ args, pureV 6 x = true) (h : Num E f args r) : TotP base f args (.int .i64 r) := totP_nil hE hL hEP rfl ha h.out
theorem Num.tot {f : FuncId} {args : List Value} {r : Int} (h : Num (envP 285 [] []) f args r) (base : World) (ha : ∀ x ∈ args, pureV 6 x = true) : TotP base f args (.int .i64 r) :=
  Num.any (E := envP 285 [] []) (envP_ok (wilds := []) all_good (rules := []) (fun _ h => by cases h)) envP_loops rfl ha h
theorem Num.totN {f : FuncId} {args : List Value} {r : Int} (h : Num (envNo []) f args r) (base : World) (ha : ∀ x ∈ args, pureV 6 x = true) : TotP base f args (.int .i64 r) :=
  Num.any (E := envNo []) (envNo_ok (rules := []) (fun _ h => by cases h)) envNo_loops rfl ha h
theorem args3 (s : ByteArray) (x y : Int) : ∀ v ∈ [Value.string s, Value.int .i64 x, Value.int .i64 y], pureV 6 v = true := List.forall_mem_cons.2 ⟨rfl, List.forall_mem_cons.2 ⟨rfl, List.forall_mem_cons.2 ⟨rfl, fun _ h => by cases h⟩⟩⟩
theorem lowB : Tryz.prog.globals.size ≤ big := Nat.le_of_ble_eq_true (by kernel_rfl)
theorem up16 {y : Int} (h0 : 0 ≤ y) (h1 : y < 16) : y = 0 ∨ y = 1 ∨ y = 2 ∨ y = 3 ∨ y = 4 ∨ y = 5 ∨ y = 6 ∨ y = 7 ∨ y = 8 ∨ y = 9 ∨ y = 10 ∨ y = 11 ∨ y = 12 ∨ y = 13 ∨ y = 14 ∨ y = 15 := by omega
/-- Both tables' word. -/
def Agree (E : Env) (f g : FuncId) (args : List Value) : Prop := ∃ r, Num E f args r ∧ Num E g args r

theorem ag_0 {x y : Int} : Agree (envP 285 [] []) 7 8 [.string ⟨#[111, 114]⟩, .int .i64 x, .int .i64 y] := by
  refine ⟨0, ⟨?_⟩, ⟨?_⟩⟩
  · rw [a_0]
    repeat' (first | exact ⟨rfl, lowB⟩ | refine bsel_of (fun _ => ?_) (fun _ => ?_))
  · rw [l_0]
    repeat' (first | exact ⟨rfl, lowB⟩ | refine bsel_of (fun _ => ?_) (fun _ => ?_))
theorem ag_1 {x y : Int} : Agree (envP 285 [] []) 7 8 [.string ⟨#[97, 110, 100]⟩, .int .i64 x, .int .i64 y] := by
  refine ⟨0, ⟨?_⟩, ⟨?_⟩⟩
  · rw [a_1]
    repeat' (first | exact ⟨rfl, lowB⟩ | refine bsel_of (fun _ => ?_) (fun _ => ?_))
  · rw [l_1]
    repeat' (first | exact ⟨rfl, lowB⟩ | refine bsel_of (fun _ => ?_) (fun _ => ?_))
theorem ag_2 {x y : Int} : Agree (envP 285 [] []) 7 8 [.string ⟨#[61]⟩, .int .i64 x, .int .i64 y] := by
  refine ⟨0, ⟨?_⟩, ⟨?_⟩⟩
  · rw [a_2]
    repeat' (first | exact ⟨rfl, lowB⟩ | refine bsel_of (fun _ => ?_) (fun _ => ?_))
  · rw [l_2]
    repeat' (first | exact ⟨rfl, lowB⟩ | refine bsel_of (fun _ => ?_) (fun _ => ?_))
theorem ag_3 {x y : Int} : Agree (envP 285 [] []) 7 8 [.string ⟨#[33, 61]⟩, .int .i64 x, .int .i64 y] := by
  refine ⟨0, ⟨?_⟩, ⟨?_⟩⟩
  · rw [a_3]
    repeat' (first | exact ⟨rfl, lowB⟩ | refine bsel_of (fun _ => ?_) (fun _ => ?_))
  · rw [l_3]
    repeat' (first | exact ⟨rfl, lowB⟩ | refine bsel_of (fun _ => ?_) (fun _ => ?_))
theorem ag_4 {x y : Int} : Agree (envP 285 [] []) 7 8 [.string ⟨#[60]⟩, .int .i64 x, .int .i64 y] := by
  refine ⟨0, ⟨?_⟩, ⟨?_⟩⟩
  · rw [a_4]
    repeat' (first | exact ⟨rfl, lowB⟩ | refine bsel_of (fun _ => ?_) (fun _ => ?_))
  · rw [l_4]
    repeat' (first | exact ⟨rfl, lowB⟩ | refine bsel_of (fun _ => ?_) (fun _ => ?_))
theorem ag_5 {x y : Int} : Agree (envP 285 [] []) 7 8 [.string ⟨#[60, 61]⟩, .int .i64 x, .int .i64 y] := by
  refine ⟨0, ⟨?_⟩, ⟨?_⟩⟩
  · rw [a_5]
    repeat' (first | exact ⟨rfl, lowB⟩ | refine bsel_of (fun _ => ?_) (fun _ => ?_))
  · rw [l_5]
    repeat' (first | exact ⟨rfl, lowB⟩ | refine bsel_of (fun _ => ?_) (fun _ => ?_))
theorem ag_6 {x y : Int} : Agree (envP 285 [] []) 7 8 [.string ⟨#[62]⟩, .int .i64 x, .int .i64 y] := by
  refine ⟨0, ⟨?_⟩, ⟨?_⟩⟩
  · rw [a_6]
    repeat' (first | exact ⟨rfl, lowB⟩ | refine bsel_of (fun _ => ?_) (fun _ => ?_))
  · rw [l_6]
    repeat' (first | exact ⟨rfl, lowB⟩ | refine bsel_of (fun _ => ?_) (fun _ => ?_))
theorem ag_7 {x y : Int} : Agree (envP 285 [] []) 7 8 [.string ⟨#[62, 61]⟩, .int .i64 x, .int .i64 y] := by
  refine ⟨0, ⟨?_⟩, ⟨?_⟩⟩
  · rw [a_7]
    repeat' (first | exact ⟨rfl, lowB⟩ | refine bsel_of (fun _ => ?_) (fun _ => ?_))
  · rw [l_7]
    repeat' (first | exact ⟨rfl, lowB⟩ | refine bsel_of (fun _ => ?_) (fun _ => ?_))
theorem ag_8_0 {y : Int} (h0 : 0 ≤ y) (h1 : y < 16) : Agree (envP 285 [] []) 7 8 [.string ⟨#[43]⟩, .int .i64 0, .int .i64 y] := by
  rcases up16 h0 h1 with rfl | rfl | rfl | rfl | rfl | rfl | rfl | rfl | rfl | rfl | rfl | rfl | rfl | rfl | rfl | rfl
  · exact ⟨0, ⟨by rw [a_8_0]; exact ⟨rfl, lowB⟩⟩, ⟨by rw [l_8_0]; exact ⟨rfl, lowB⟩⟩⟩
  · exact ⟨0, ⟨by rw [a_8_0]; exact ⟨rfl, lowB⟩⟩, ⟨by rw [l_8_0]; exact ⟨rfl, lowB⟩⟩⟩
  · exact ⟨0, ⟨by rw [a_8_0]; exact ⟨rfl, lowB⟩⟩, ⟨by rw [l_8_0]; exact ⟨rfl, lowB⟩⟩⟩
  · exact ⟨0, ⟨by rw [a_8_0]; exact ⟨rfl, lowB⟩⟩, ⟨by rw [l_8_0]; exact ⟨rfl, lowB⟩⟩⟩
  · exact ⟨0, ⟨by rw [a_8_0]; exact ⟨rfl, lowB⟩⟩, ⟨by rw [l_8_0]; exact ⟨rfl, lowB⟩⟩⟩
  · exact ⟨0, ⟨by rw [a_8_0]; exact ⟨rfl, lowB⟩⟩, ⟨by rw [l_8_0]; exact ⟨rfl, lowB⟩⟩⟩
  · exact ⟨0, ⟨by rw [a_8_0]; exact ⟨rfl, lowB⟩⟩, ⟨by rw [l_8_0]; exact ⟨rfl, lowB⟩⟩⟩
  · exact ⟨0, ⟨by rw [a_8_0]; exact ⟨rfl, lowB⟩⟩, ⟨by rw [l_8_0]; exact ⟨rfl, lowB⟩⟩⟩
  · exact ⟨0, ⟨by rw [a_8_0]; exact ⟨rfl, lowB⟩⟩, ⟨by rw [l_8_0]; exact ⟨rfl, lowB⟩⟩⟩
  · exact ⟨0, ⟨by rw [a_8_0]; exact ⟨rfl, lowB⟩⟩, ⟨by rw [l_8_0]; exact ⟨rfl, lowB⟩⟩⟩
  · exact ⟨0, ⟨by rw [a_8_0]; exact ⟨rfl, lowB⟩⟩, ⟨by rw [l_8_0]; exact ⟨rfl, lowB⟩⟩⟩
  · exact ⟨0, ⟨by rw [a_8_0]; exact ⟨rfl, lowB⟩⟩, ⟨by rw [l_8_0]; exact ⟨rfl, lowB⟩⟩⟩
  · exact ⟨0, ⟨by rw [a_8_0]; exact ⟨rfl, lowB⟩⟩, ⟨by rw [l_8_0]; exact ⟨rfl, lowB⟩⟩⟩
  · exact ⟨0, ⟨by rw [a_8_0]; exact ⟨rfl, lowB⟩⟩, ⟨by rw [l_8_0]; exact ⟨rfl, lowB⟩⟩⟩
  · exact ⟨0, ⟨by rw [a_8_0]; exact ⟨rfl, lowB⟩⟩, ⟨by rw [l_8_0]; exact ⟨rfl, lowB⟩⟩⟩
  · exact ⟨0, ⟨by rw [a_8_0]; exact ⟨rfl, lowB⟩⟩, ⟨by rw [l_8_0]; exact ⟨rfl, lowB⟩⟩⟩
theorem ag_8_1 {y : Int} (h0 : 0 ≤ y) (h1 : y < 16) : Agree (envP 285 [] []) 7 8 [.string ⟨#[43]⟩, .int .i64 1, .int .i64 y] := by
  rcases up16 h0 h1 with rfl | rfl | rfl | rfl | rfl | rfl | rfl | rfl | rfl | rfl | rfl | rfl | rfl | rfl | rfl | rfl
  · exact ⟨0, ⟨by rw [a_8_1]; exact ⟨rfl, lowB⟩⟩, ⟨by rw [l_8_1]; exact ⟨rfl, lowB⟩⟩⟩
  · exact ⟨0, ⟨by rw [a_8_1]; exact ⟨rfl, lowB⟩⟩, ⟨by rw [l_8_1]; exact ⟨rfl, lowB⟩⟩⟩
  · exact ⟨0, ⟨by rw [a_8_1]; exact ⟨rfl, lowB⟩⟩, ⟨by rw [l_8_1]; exact ⟨rfl, lowB⟩⟩⟩
  · exact ⟨0, ⟨by rw [a_8_1]; exact ⟨rfl, lowB⟩⟩, ⟨by rw [l_8_1]; exact ⟨rfl, lowB⟩⟩⟩
  · exact ⟨0, ⟨by rw [a_8_1]; exact ⟨rfl, lowB⟩⟩, ⟨by rw [l_8_1]; exact ⟨rfl, lowB⟩⟩⟩
  · exact ⟨0, ⟨by rw [a_8_1]; exact ⟨rfl, lowB⟩⟩, ⟨by rw [l_8_1]; exact ⟨rfl, lowB⟩⟩⟩
  · exact ⟨0, ⟨by rw [a_8_1]; exact ⟨rfl, lowB⟩⟩, ⟨by rw [l_8_1]; exact ⟨rfl, lowB⟩⟩⟩
  · exact ⟨0, ⟨by rw [a_8_1]; exact ⟨rfl, lowB⟩⟩, ⟨by rw [l_8_1]; exact ⟨rfl, lowB⟩⟩⟩
  · exact ⟨0, ⟨by rw [a_8_1]; exact ⟨rfl, lowB⟩⟩, ⟨by rw [l_8_1]; exact ⟨rfl, lowB⟩⟩⟩
  · exact ⟨0, ⟨by rw [a_8_1]; exact ⟨rfl, lowB⟩⟩, ⟨by rw [l_8_1]; exact ⟨rfl, lowB⟩⟩⟩
  · exact ⟨0, ⟨by rw [a_8_1]; exact ⟨rfl, lowB⟩⟩, ⟨by rw [l_8_1]; exact ⟨rfl, lowB⟩⟩⟩
  · exact ⟨0, ⟨by rw [a_8_1]; exact ⟨rfl, lowB⟩⟩, ⟨by rw [l_8_1]; exact ⟨rfl, lowB⟩⟩⟩
  · exact ⟨0, ⟨by rw [a_8_1]; exact ⟨rfl, lowB⟩⟩, ⟨by rw [l_8_1]; exact ⟨rfl, lowB⟩⟩⟩
  · exact ⟨0, ⟨by rw [a_8_1]; exact ⟨rfl, lowB⟩⟩, ⟨by rw [l_8_1]; exact ⟨rfl, lowB⟩⟩⟩
  · exact ⟨0, ⟨by rw [a_8_1]; exact ⟨rfl, lowB⟩⟩, ⟨by rw [l_8_1]; exact ⟨rfl, lowB⟩⟩⟩
  · exact ⟨0, ⟨by rw [a_8_1]; exact ⟨rfl, lowB⟩⟩, ⟨by rw [l_8_1]; exact ⟨rfl, lowB⟩⟩⟩
theorem ag_8_2 {y : Int} (h0 : 0 ≤ y) (h1 : y < 16) : Agree (envP 285 [] []) 7 8 [.string ⟨#[43]⟩, .int .i64 2, .int .i64 y] := by
  rcases up16 h0 h1 with rfl | rfl | rfl | rfl | rfl | rfl | rfl | rfl | rfl | rfl | rfl | rfl | rfl | rfl | rfl | rfl
  · exact ⟨0, ⟨by rw [a_8_2]; exact ⟨rfl, lowB⟩⟩, ⟨by rw [l_8_2]; exact ⟨rfl, lowB⟩⟩⟩
  · exact ⟨0, ⟨by rw [a_8_2]; exact ⟨rfl, lowB⟩⟩, ⟨by rw [l_8_2]; exact ⟨rfl, lowB⟩⟩⟩
  · exact ⟨0, ⟨by rw [a_8_2]; exact ⟨rfl, lowB⟩⟩, ⟨by rw [l_8_2]; exact ⟨rfl, lowB⟩⟩⟩
  · exact ⟨0, ⟨by rw [a_8_2]; exact ⟨rfl, lowB⟩⟩, ⟨by rw [l_8_2]; exact ⟨rfl, lowB⟩⟩⟩
  · exact ⟨0, ⟨by rw [a_8_2]; exact ⟨rfl, lowB⟩⟩, ⟨by rw [l_8_2]; exact ⟨rfl, lowB⟩⟩⟩
  · exact ⟨0, ⟨by rw [a_8_2]; exact ⟨rfl, lowB⟩⟩, ⟨by rw [l_8_2]; exact ⟨rfl, lowB⟩⟩⟩
  · exact ⟨0, ⟨by rw [a_8_2]; exact ⟨rfl, lowB⟩⟩, ⟨by rw [l_8_2]; exact ⟨rfl, lowB⟩⟩⟩
  · exact ⟨0, ⟨by rw [a_8_2]; exact ⟨rfl, lowB⟩⟩, ⟨by rw [l_8_2]; exact ⟨rfl, lowB⟩⟩⟩
  · exact ⟨0, ⟨by rw [a_8_2]; exact ⟨rfl, lowB⟩⟩, ⟨by rw [l_8_2]; exact ⟨rfl, lowB⟩⟩⟩
  · exact ⟨0, ⟨by rw [a_8_2]; exact ⟨rfl, lowB⟩⟩, ⟨by rw [l_8_2]; exact ⟨rfl, lowB⟩⟩⟩
  · exact ⟨0, ⟨by rw [a_8_2]; exact ⟨rfl, lowB⟩⟩, ⟨by rw [l_8_2]; exact ⟨rfl, lowB⟩⟩⟩
  · exact ⟨0, ⟨by rw [a_8_2]; exact ⟨rfl, lowB⟩⟩, ⟨by rw [l_8_2]; exact ⟨rfl, lowB⟩⟩⟩
  · exact ⟨0, ⟨by rw [a_8_2]; exact ⟨rfl, lowB⟩⟩, ⟨by rw [l_8_2]; exact ⟨rfl, lowB⟩⟩⟩
  · exact ⟨0, ⟨by rw [a_8_2]; exact ⟨rfl, lowB⟩⟩, ⟨by rw [l_8_2]; exact ⟨rfl, lowB⟩⟩⟩
  · exact ⟨0, ⟨by rw [a_8_2]; exact ⟨rfl, lowB⟩⟩, ⟨by rw [l_8_2]; exact ⟨rfl, lowB⟩⟩⟩
  · exact ⟨0, ⟨by rw [a_8_2]; exact ⟨rfl, lowB⟩⟩, ⟨by rw [l_8_2]; exact ⟨rfl, lowB⟩⟩⟩
theorem ag_8_3 {y : Int} (h0 : 0 ≤ y) (h1 : y < 16) : Agree (envP 285 [] []) 7 8 [.string ⟨#[43]⟩, .int .i64 3, .int .i64 y] := by
  rcases up16 h0 h1 with rfl | rfl | rfl | rfl | rfl | rfl | rfl | rfl | rfl | rfl | rfl | rfl | rfl | rfl | rfl | rfl
  · exact ⟨0, ⟨by rw [a_8_3]; exact ⟨rfl, lowB⟩⟩, ⟨by rw [l_8_3]; exact ⟨rfl, lowB⟩⟩⟩
  · exact ⟨0, ⟨by rw [a_8_3]; exact ⟨rfl, lowB⟩⟩, ⟨by rw [l_8_3]; exact ⟨rfl, lowB⟩⟩⟩
  · exact ⟨0, ⟨by rw [a_8_3]; exact ⟨rfl, lowB⟩⟩, ⟨by rw [l_8_3]; exact ⟨rfl, lowB⟩⟩⟩
  · exact ⟨3, ⟨by rw [a_8_3]; exact ⟨rfl, lowB⟩⟩, ⟨by rw [l_8_3]; exact ⟨rfl, lowB⟩⟩⟩
  · exact ⟨0, ⟨by rw [a_8_3]; exact ⟨rfl, lowB⟩⟩, ⟨by rw [l_8_3]; exact ⟨rfl, lowB⟩⟩⟩
  · exact ⟨0, ⟨by rw [a_8_3]; exact ⟨rfl, lowB⟩⟩, ⟨by rw [l_8_3]; exact ⟨rfl, lowB⟩⟩⟩
  · exact ⟨0, ⟨by rw [a_8_3]; exact ⟨rfl, lowB⟩⟩, ⟨by rw [l_8_3]; exact ⟨rfl, lowB⟩⟩⟩
  · exact ⟨0, ⟨by rw [a_8_3]; exact ⟨rfl, lowB⟩⟩, ⟨by rw [l_8_3]; exact ⟨rfl, lowB⟩⟩⟩
  · exact ⟨0, ⟨by rw [a_8_3]; exact ⟨rfl, lowB⟩⟩, ⟨by rw [l_8_3]; exact ⟨rfl, lowB⟩⟩⟩
  · exact ⟨0, ⟨by rw [a_8_3]; exact ⟨rfl, lowB⟩⟩, ⟨by rw [l_8_3]; exact ⟨rfl, lowB⟩⟩⟩
  · exact ⟨0, ⟨by rw [a_8_3]; exact ⟨rfl, lowB⟩⟩, ⟨by rw [l_8_3]; exact ⟨rfl, lowB⟩⟩⟩
  · exact ⟨0, ⟨by rw [a_8_3]; exact ⟨rfl, lowB⟩⟩, ⟨by rw [l_8_3]; exact ⟨rfl, lowB⟩⟩⟩
  · exact ⟨0, ⟨by rw [a_8_3]; exact ⟨rfl, lowB⟩⟩, ⟨by rw [l_8_3]; exact ⟨rfl, lowB⟩⟩⟩
  · exact ⟨0, ⟨by rw [a_8_3]; exact ⟨rfl, lowB⟩⟩, ⟨by rw [l_8_3]; exact ⟨rfl, lowB⟩⟩⟩
  · exact ⟨0, ⟨by rw [a_8_3]; exact ⟨rfl, lowB⟩⟩, ⟨by rw [l_8_3]; exact ⟨rfl, lowB⟩⟩⟩
  · exact ⟨0, ⟨by rw [a_8_3]; exact ⟨rfl, lowB⟩⟩, ⟨by rw [l_8_3]; exact ⟨rfl, lowB⟩⟩⟩
theorem ag_8_4 {y : Int} (h0 : 0 ≤ y) (h1 : y < 16) : Agree (envP 285 [] []) 7 8 [.string ⟨#[43]⟩, .int .i64 4, .int .i64 y] := by
  rcases up16 h0 h1 with rfl | rfl | rfl | rfl | rfl | rfl | rfl | rfl | rfl | rfl | rfl | rfl | rfl | rfl | rfl | rfl
  · exact ⟨0, ⟨by rw [a_8_4]; exact ⟨rfl, lowB⟩⟩, ⟨by rw [l_8_4]; exact ⟨rfl, lowB⟩⟩⟩
  · exact ⟨0, ⟨by rw [a_8_4]; exact ⟨rfl, lowB⟩⟩, ⟨by rw [l_8_4]; exact ⟨rfl, lowB⟩⟩⟩
  · exact ⟨0, ⟨by rw [a_8_4]; exact ⟨rfl, lowB⟩⟩, ⟨by rw [l_8_4]; exact ⟨rfl, lowB⟩⟩⟩
  · exact ⟨0, ⟨by rw [a_8_4]; exact ⟨rfl, lowB⟩⟩, ⟨by rw [l_8_4]; exact ⟨rfl, lowB⟩⟩⟩
  · exact ⟨4, ⟨by rw [a_8_4]; exact ⟨rfl, lowB⟩⟩, ⟨by rw [l_8_4]; exact ⟨rfl, lowB⟩⟩⟩
  · exact ⟨0, ⟨by rw [a_8_4]; exact ⟨rfl, lowB⟩⟩, ⟨by rw [l_8_4]; exact ⟨rfl, lowB⟩⟩⟩
  · exact ⟨0, ⟨by rw [a_8_4]; exact ⟨rfl, lowB⟩⟩, ⟨by rw [l_8_4]; exact ⟨rfl, lowB⟩⟩⟩
  · exact ⟨0, ⟨by rw [a_8_4]; exact ⟨rfl, lowB⟩⟩, ⟨by rw [l_8_4]; exact ⟨rfl, lowB⟩⟩⟩
  · exact ⟨0, ⟨by rw [a_8_4]; exact ⟨rfl, lowB⟩⟩, ⟨by rw [l_8_4]; exact ⟨rfl, lowB⟩⟩⟩
  · exact ⟨0, ⟨by rw [a_8_4]; exact ⟨rfl, lowB⟩⟩, ⟨by rw [l_8_4]; exact ⟨rfl, lowB⟩⟩⟩
  · exact ⟨0, ⟨by rw [a_8_4]; exact ⟨rfl, lowB⟩⟩, ⟨by rw [l_8_4]; exact ⟨rfl, lowB⟩⟩⟩
  · exact ⟨0, ⟨by rw [a_8_4]; exact ⟨rfl, lowB⟩⟩, ⟨by rw [l_8_4]; exact ⟨rfl, lowB⟩⟩⟩
  · exact ⟨0, ⟨by rw [a_8_4]; exact ⟨rfl, lowB⟩⟩, ⟨by rw [l_8_4]; exact ⟨rfl, lowB⟩⟩⟩
  · exact ⟨0, ⟨by rw [a_8_4]; exact ⟨rfl, lowB⟩⟩, ⟨by rw [l_8_4]; exact ⟨rfl, lowB⟩⟩⟩
  · exact ⟨0, ⟨by rw [a_8_4]; exact ⟨rfl, lowB⟩⟩, ⟨by rw [l_8_4]; exact ⟨rfl, lowB⟩⟩⟩
  · exact ⟨0, ⟨by rw [a_8_4]; exact ⟨rfl, lowB⟩⟩, ⟨by rw [l_8_4]; exact ⟨rfl, lowB⟩⟩⟩
theorem ag_8_5 {y : Int} (h0 : 0 ≤ y) (h1 : y < 16) : Agree (envP 285 [] []) 7 8 [.string ⟨#[43]⟩, .int .i64 5, .int .i64 y] := by
  rcases up16 h0 h1 with rfl | rfl | rfl | rfl | rfl | rfl | rfl | rfl | rfl | rfl | rfl | rfl | rfl | rfl | rfl | rfl
  · exact ⟨0, ⟨by rw [a_8_5]; exact ⟨rfl, lowB⟩⟩, ⟨by rw [l_8_5]; exact ⟨rfl, lowB⟩⟩⟩
  · exact ⟨0, ⟨by rw [a_8_5]; exact ⟨rfl, lowB⟩⟩, ⟨by rw [l_8_5]; exact ⟨rfl, lowB⟩⟩⟩
  · exact ⟨0, ⟨by rw [a_8_5]; exact ⟨rfl, lowB⟩⟩, ⟨by rw [l_8_5]; exact ⟨rfl, lowB⟩⟩⟩
  · exact ⟨0, ⟨by rw [a_8_5]; exact ⟨rfl, lowB⟩⟩, ⟨by rw [l_8_5]; exact ⟨rfl, lowB⟩⟩⟩
  · exact ⟨0, ⟨by rw [a_8_5]; exact ⟨rfl, lowB⟩⟩, ⟨by rw [l_8_5]; exact ⟨rfl, lowB⟩⟩⟩
  · exact ⟨0, ⟨by rw [a_8_5]; exact ⟨rfl, lowB⟩⟩, ⟨by rw [l_8_5]; exact ⟨rfl, lowB⟩⟩⟩
  · exact ⟨0, ⟨by rw [a_8_5]; exact ⟨rfl, lowB⟩⟩, ⟨by rw [l_8_5]; exact ⟨rfl, lowB⟩⟩⟩
  · exact ⟨0, ⟨by rw [a_8_5]; exact ⟨rfl, lowB⟩⟩, ⟨by rw [l_8_5]; exact ⟨rfl, lowB⟩⟩⟩
  · exact ⟨5, ⟨by rw [a_8_5]; exact ⟨rfl, lowB⟩⟩, ⟨by rw [l_8_5]; exact ⟨rfl, lowB⟩⟩⟩
  · exact ⟨5, ⟨by rw [a_8_5]; exact ⟨rfl, lowB⟩⟩, ⟨by rw [l_8_5]; exact ⟨rfl, lowB⟩⟩⟩
  · exact ⟨0, ⟨by rw [a_8_5]; exact ⟨rfl, lowB⟩⟩, ⟨by rw [l_8_5]; exact ⟨rfl, lowB⟩⟩⟩
  · exact ⟨0, ⟨by rw [a_8_5]; exact ⟨rfl, lowB⟩⟩, ⟨by rw [l_8_5]; exact ⟨rfl, lowB⟩⟩⟩
  · exact ⟨0, ⟨by rw [a_8_5]; exact ⟨rfl, lowB⟩⟩, ⟨by rw [l_8_5]; exact ⟨rfl, lowB⟩⟩⟩
  · exact ⟨0, ⟨by rw [a_8_5]; exact ⟨rfl, lowB⟩⟩, ⟨by rw [l_8_5]; exact ⟨rfl, lowB⟩⟩⟩
  · exact ⟨0, ⟨by rw [a_8_5]; exact ⟨rfl, lowB⟩⟩, ⟨by rw [l_8_5]; exact ⟨rfl, lowB⟩⟩⟩
  · exact ⟨0, ⟨by rw [a_8_5]; exact ⟨rfl, lowB⟩⟩, ⟨by rw [l_8_5]; exact ⟨rfl, lowB⟩⟩⟩
theorem ag_8_6 {y : Int} (h0 : 0 ≤ y) (h1 : y < 16) : Agree (envP 285 [] []) 7 8 [.string ⟨#[43]⟩, .int .i64 6, .int .i64 y] := by
  rcases up16 h0 h1 with rfl | rfl | rfl | rfl | rfl | rfl | rfl | rfl | rfl | rfl | rfl | rfl | rfl | rfl | rfl | rfl
  · exact ⟨0, ⟨by rw [a_8_6]; exact ⟨rfl, lowB⟩⟩, ⟨by rw [l_8_6]; exact ⟨rfl, lowB⟩⟩⟩
  · exact ⟨0, ⟨by rw [a_8_6]; exact ⟨rfl, lowB⟩⟩, ⟨by rw [l_8_6]; exact ⟨rfl, lowB⟩⟩⟩
  · exact ⟨0, ⟨by rw [a_8_6]; exact ⟨rfl, lowB⟩⟩, ⟨by rw [l_8_6]; exact ⟨rfl, lowB⟩⟩⟩
  · exact ⟨0, ⟨by rw [a_8_6]; exact ⟨rfl, lowB⟩⟩, ⟨by rw [l_8_6]; exact ⟨rfl, lowB⟩⟩⟩
  · exact ⟨0, ⟨by rw [a_8_6]; exact ⟨rfl, lowB⟩⟩, ⟨by rw [l_8_6]; exact ⟨rfl, lowB⟩⟩⟩
  · exact ⟨0, ⟨by rw [a_8_6]; exact ⟨rfl, lowB⟩⟩, ⟨by rw [l_8_6]; exact ⟨rfl, lowB⟩⟩⟩
  · exact ⟨0, ⟨by rw [a_8_6]; exact ⟨rfl, lowB⟩⟩, ⟨by rw [l_8_6]; exact ⟨rfl, lowB⟩⟩⟩
  · exact ⟨0, ⟨by rw [a_8_6]; exact ⟨rfl, lowB⟩⟩, ⟨by rw [l_8_6]; exact ⟨rfl, lowB⟩⟩⟩
  · exact ⟨6, ⟨by rw [a_8_6]; exact ⟨rfl, lowB⟩⟩, ⟨by rw [l_8_6]; exact ⟨rfl, lowB⟩⟩⟩
  · exact ⟨0, ⟨by rw [a_8_6]; exact ⟨rfl, lowB⟩⟩, ⟨by rw [l_8_6]; exact ⟨rfl, lowB⟩⟩⟩
  · exact ⟨0, ⟨by rw [a_8_6]; exact ⟨rfl, lowB⟩⟩, ⟨by rw [l_8_6]; exact ⟨rfl, lowB⟩⟩⟩
  · exact ⟨0, ⟨by rw [a_8_6]; exact ⟨rfl, lowB⟩⟩, ⟨by rw [l_8_6]; exact ⟨rfl, lowB⟩⟩⟩
  · exact ⟨0, ⟨by rw [a_8_6]; exact ⟨rfl, lowB⟩⟩, ⟨by rw [l_8_6]; exact ⟨rfl, lowB⟩⟩⟩
  · exact ⟨0, ⟨by rw [a_8_6]; exact ⟨rfl, lowB⟩⟩, ⟨by rw [l_8_6]; exact ⟨rfl, lowB⟩⟩⟩
  · exact ⟨0, ⟨by rw [a_8_6]; exact ⟨rfl, lowB⟩⟩, ⟨by rw [l_8_6]; exact ⟨rfl, lowB⟩⟩⟩
  · exact ⟨0, ⟨by rw [a_8_6]; exact ⟨rfl, lowB⟩⟩, ⟨by rw [l_8_6]; exact ⟨rfl, lowB⟩⟩⟩
theorem ag_8_7 {y : Int} (h0 : 0 ≤ y) (h1 : y < 16) : Agree (envP 285 [] []) 7 8 [.string ⟨#[43]⟩, .int .i64 7, .int .i64 y] := by
  rcases up16 h0 h1 with rfl | rfl | rfl | rfl | rfl | rfl | rfl | rfl | rfl | rfl | rfl | rfl | rfl | rfl | rfl | rfl
  · exact ⟨0, ⟨by rw [a_8_7]; exact ⟨rfl, lowB⟩⟩, ⟨by rw [l_8_7]; exact ⟨rfl, lowB⟩⟩⟩
  · exact ⟨0, ⟨by rw [a_8_7]; exact ⟨rfl, lowB⟩⟩, ⟨by rw [l_8_7]; exact ⟨rfl, lowB⟩⟩⟩
  · exact ⟨0, ⟨by rw [a_8_7]; exact ⟨rfl, lowB⟩⟩, ⟨by rw [l_8_7]; exact ⟨rfl, lowB⟩⟩⟩
  · exact ⟨0, ⟨by rw [a_8_7]; exact ⟨rfl, lowB⟩⟩, ⟨by rw [l_8_7]; exact ⟨rfl, lowB⟩⟩⟩
  · exact ⟨0, ⟨by rw [a_8_7]; exact ⟨rfl, lowB⟩⟩, ⟨by rw [l_8_7]; exact ⟨rfl, lowB⟩⟩⟩
  · exact ⟨0, ⟨by rw [a_8_7]; exact ⟨rfl, lowB⟩⟩, ⟨by rw [l_8_7]; exact ⟨rfl, lowB⟩⟩⟩
  · exact ⟨0, ⟨by rw [a_8_7]; exact ⟨rfl, lowB⟩⟩, ⟨by rw [l_8_7]; exact ⟨rfl, lowB⟩⟩⟩
  · exact ⟨0, ⟨by rw [a_8_7]; exact ⟨rfl, lowB⟩⟩, ⟨by rw [l_8_7]; exact ⟨rfl, lowB⟩⟩⟩
  · exact ⟨7, ⟨by rw [a_8_7]; exact ⟨rfl, lowB⟩⟩, ⟨by rw [l_8_7]; exact ⟨rfl, lowB⟩⟩⟩
  · exact ⟨7, ⟨by rw [a_8_7]; exact ⟨rfl, lowB⟩⟩, ⟨by rw [l_8_7]; exact ⟨rfl, lowB⟩⟩⟩
  · exact ⟨0, ⟨by rw [a_8_7]; exact ⟨rfl, lowB⟩⟩, ⟨by rw [l_8_7]; exact ⟨rfl, lowB⟩⟩⟩
  · exact ⟨0, ⟨by rw [a_8_7]; exact ⟨rfl, lowB⟩⟩, ⟨by rw [l_8_7]; exact ⟨rfl, lowB⟩⟩⟩
  · exact ⟨0, ⟨by rw [a_8_7]; exact ⟨rfl, lowB⟩⟩, ⟨by rw [l_8_7]; exact ⟨rfl, lowB⟩⟩⟩
  · exact ⟨0, ⟨by rw [a_8_7]; exact ⟨rfl, lowB⟩⟩, ⟨by rw [l_8_7]; exact ⟨rfl, lowB⟩⟩⟩
  · exact ⟨0, ⟨by rw [a_8_7]; exact ⟨rfl, lowB⟩⟩, ⟨by rw [l_8_7]; exact ⟨rfl, lowB⟩⟩⟩
  · exact ⟨0, ⟨by rw [a_8_7]; exact ⟨rfl, lowB⟩⟩, ⟨by rw [l_8_7]; exact ⟨rfl, lowB⟩⟩⟩
theorem ag_8_8 {y : Int} (h0 : 0 ≤ y) (h1 : y < 16) : Agree (envP 285 [] []) 7 8 [.string ⟨#[43]⟩, .int .i64 8, .int .i64 y] := by
  rcases up16 h0 h1 with rfl | rfl | rfl | rfl | rfl | rfl | rfl | rfl | rfl | rfl | rfl | rfl | rfl | rfl | rfl | rfl
  · exact ⟨0, ⟨by rw [a_8_8]; exact ⟨rfl, lowB⟩⟩, ⟨by rw [l_8_8]; exact ⟨rfl, lowB⟩⟩⟩
  · exact ⟨0, ⟨by rw [a_8_8]; exact ⟨rfl, lowB⟩⟩, ⟨by rw [l_8_8]; exact ⟨rfl, lowB⟩⟩⟩
  · exact ⟨0, ⟨by rw [a_8_8]; exact ⟨rfl, lowB⟩⟩, ⟨by rw [l_8_8]; exact ⟨rfl, lowB⟩⟩⟩
  · exact ⟨0, ⟨by rw [a_8_8]; exact ⟨rfl, lowB⟩⟩, ⟨by rw [l_8_8]; exact ⟨rfl, lowB⟩⟩⟩
  · exact ⟨0, ⟨by rw [a_8_8]; exact ⟨rfl, lowB⟩⟩, ⟨by rw [l_8_8]; exact ⟨rfl, lowB⟩⟩⟩
  · exact ⟨5, ⟨by rw [a_8_8]; exact ⟨rfl, lowB⟩⟩, ⟨by rw [l_8_8]; exact ⟨rfl, lowB⟩⟩⟩
  · exact ⟨6, ⟨by rw [a_8_8]; exact ⟨rfl, lowB⟩⟩, ⟨by rw [l_8_8]; exact ⟨rfl, lowB⟩⟩⟩
  · exact ⟨7, ⟨by rw [a_8_8]; exact ⟨rfl, lowB⟩⟩, ⟨by rw [l_8_8]; exact ⟨rfl, lowB⟩⟩⟩
  · exact ⟨8, ⟨by rw [a_8_8]; exact ⟨rfl, lowB⟩⟩, ⟨by rw [l_8_8]; exact ⟨rfl, lowB⟩⟩⟩
  · exact ⟨0, ⟨by rw [a_8_8]; exact ⟨rfl, lowB⟩⟩, ⟨by rw [l_8_8]; exact ⟨rfl, lowB⟩⟩⟩
  · exact ⟨0, ⟨by rw [a_8_8]; exact ⟨rfl, lowB⟩⟩, ⟨by rw [l_8_8]; exact ⟨rfl, lowB⟩⟩⟩
  · exact ⟨0, ⟨by rw [a_8_8]; exact ⟨rfl, lowB⟩⟩, ⟨by rw [l_8_8]; exact ⟨rfl, lowB⟩⟩⟩
  · exact ⟨0, ⟨by rw [a_8_8]; exact ⟨rfl, lowB⟩⟩, ⟨by rw [l_8_8]; exact ⟨rfl, lowB⟩⟩⟩
  · exact ⟨0, ⟨by rw [a_8_8]; exact ⟨rfl, lowB⟩⟩, ⟨by rw [l_8_8]; exact ⟨rfl, lowB⟩⟩⟩
  · exact ⟨0, ⟨by rw [a_8_8]; exact ⟨rfl, lowB⟩⟩, ⟨by rw [l_8_8]; exact ⟨rfl, lowB⟩⟩⟩
  · exact ⟨0, ⟨by rw [a_8_8]; exact ⟨rfl, lowB⟩⟩, ⟨by rw [l_8_8]; exact ⟨rfl, lowB⟩⟩⟩
theorem ag_8_9 {y : Int} (h0 : 0 ≤ y) (h1 : y < 16) : Agree (envP 285 [] []) 7 8 [.string ⟨#[43]⟩, .int .i64 9, .int .i64 y] := by
  rcases up16 h0 h1 with rfl | rfl | rfl | rfl | rfl | rfl | rfl | rfl | rfl | rfl | rfl | rfl | rfl | rfl | rfl | rfl
  · exact ⟨0, ⟨by rw [a_8_9]; exact ⟨rfl, lowB⟩⟩, ⟨by rw [l_8_9]; exact ⟨rfl, lowB⟩⟩⟩
  · exact ⟨0, ⟨by rw [a_8_9]; exact ⟨rfl, lowB⟩⟩, ⟨by rw [l_8_9]; exact ⟨rfl, lowB⟩⟩⟩
  · exact ⟨0, ⟨by rw [a_8_9]; exact ⟨rfl, lowB⟩⟩, ⟨by rw [l_8_9]; exact ⟨rfl, lowB⟩⟩⟩
  · exact ⟨0, ⟨by rw [a_8_9]; exact ⟨rfl, lowB⟩⟩, ⟨by rw [l_8_9]; exact ⟨rfl, lowB⟩⟩⟩
  · exact ⟨0, ⟨by rw [a_8_9]; exact ⟨rfl, lowB⟩⟩, ⟨by rw [l_8_9]; exact ⟨rfl, lowB⟩⟩⟩
  · exact ⟨5, ⟨by rw [a_8_9]; exact ⟨rfl, lowB⟩⟩, ⟨by rw [l_8_9]; exact ⟨rfl, lowB⟩⟩⟩
  · exact ⟨0, ⟨by rw [a_8_9]; exact ⟨rfl, lowB⟩⟩, ⟨by rw [l_8_9]; exact ⟨rfl, lowB⟩⟩⟩
  · exact ⟨7, ⟨by rw [a_8_9]; exact ⟨rfl, lowB⟩⟩, ⟨by rw [l_8_9]; exact ⟨rfl, lowB⟩⟩⟩
  · exact ⟨0, ⟨by rw [a_8_9]; exact ⟨rfl, lowB⟩⟩, ⟨by rw [l_8_9]; exact ⟨rfl, lowB⟩⟩⟩
  · exact ⟨9, ⟨by rw [a_8_9]; exact ⟨rfl, lowB⟩⟩, ⟨by rw [l_8_9]; exact ⟨rfl, lowB⟩⟩⟩
  · exact ⟨0, ⟨by rw [a_8_9]; exact ⟨rfl, lowB⟩⟩, ⟨by rw [l_8_9]; exact ⟨rfl, lowB⟩⟩⟩
  · exact ⟨0, ⟨by rw [a_8_9]; exact ⟨rfl, lowB⟩⟩, ⟨by rw [l_8_9]; exact ⟨rfl, lowB⟩⟩⟩
  · exact ⟨0, ⟨by rw [a_8_9]; exact ⟨rfl, lowB⟩⟩, ⟨by rw [l_8_9]; exact ⟨rfl, lowB⟩⟩⟩
  · exact ⟨0, ⟨by rw [a_8_9]; exact ⟨rfl, lowB⟩⟩, ⟨by rw [l_8_9]; exact ⟨rfl, lowB⟩⟩⟩
  · exact ⟨0, ⟨by rw [a_8_9]; exact ⟨rfl, lowB⟩⟩, ⟨by rw [l_8_9]; exact ⟨rfl, lowB⟩⟩⟩
  · exact ⟨0, ⟨by rw [a_8_9]; exact ⟨rfl, lowB⟩⟩, ⟨by rw [l_8_9]; exact ⟨rfl, lowB⟩⟩⟩
theorem ag_8_10 {y : Int} (h0 : 0 ≤ y) (h1 : y < 16) : Agree (envP 285 [] []) 7 8 [.string ⟨#[43]⟩, .int .i64 10, .int .i64 y] := by
  rcases up16 h0 h1 with rfl | rfl | rfl | rfl | rfl | rfl | rfl | rfl | rfl | rfl | rfl | rfl | rfl | rfl | rfl | rfl
  · exact ⟨0, ⟨by rw [a_8_10]; exact ⟨rfl, lowB⟩⟩, ⟨by rw [l_8_10]; exact ⟨rfl, lowB⟩⟩⟩
  · exact ⟨0, ⟨by rw [a_8_10]; exact ⟨rfl, lowB⟩⟩, ⟨by rw [l_8_10]; exact ⟨rfl, lowB⟩⟩⟩
  · exact ⟨0, ⟨by rw [a_8_10]; exact ⟨rfl, lowB⟩⟩, ⟨by rw [l_8_10]; exact ⟨rfl, lowB⟩⟩⟩
  · exact ⟨0, ⟨by rw [a_8_10]; exact ⟨rfl, lowB⟩⟩, ⟨by rw [l_8_10]; exact ⟨rfl, lowB⟩⟩⟩
  · exact ⟨0, ⟨by rw [a_8_10]; exact ⟨rfl, lowB⟩⟩, ⟨by rw [l_8_10]; exact ⟨rfl, lowB⟩⟩⟩
  · exact ⟨0, ⟨by rw [a_8_10]; exact ⟨rfl, lowB⟩⟩, ⟨by rw [l_8_10]; exact ⟨rfl, lowB⟩⟩⟩
  · exact ⟨0, ⟨by rw [a_8_10]; exact ⟨rfl, lowB⟩⟩, ⟨by rw [l_8_10]; exact ⟨rfl, lowB⟩⟩⟩
  · exact ⟨0, ⟨by rw [a_8_10]; exact ⟨rfl, lowB⟩⟩, ⟨by rw [l_8_10]; exact ⟨rfl, lowB⟩⟩⟩
  · exact ⟨0, ⟨by rw [a_8_10]; exact ⟨rfl, lowB⟩⟩, ⟨by rw [l_8_10]; exact ⟨rfl, lowB⟩⟩⟩
  · exact ⟨0, ⟨by rw [a_8_10]; exact ⟨rfl, lowB⟩⟩, ⟨by rw [l_8_10]; exact ⟨rfl, lowB⟩⟩⟩
  · exact ⟨0, ⟨by rw [a_8_10]; exact ⟨rfl, lowB⟩⟩, ⟨by rw [l_8_10]; exact ⟨rfl, lowB⟩⟩⟩
  · exact ⟨0, ⟨by rw [a_8_10]; exact ⟨rfl, lowB⟩⟩, ⟨by rw [l_8_10]; exact ⟨rfl, lowB⟩⟩⟩
  · exact ⟨0, ⟨by rw [a_8_10]; exact ⟨rfl, lowB⟩⟩, ⟨by rw [l_8_10]; exact ⟨rfl, lowB⟩⟩⟩
  · exact ⟨0, ⟨by rw [a_8_10]; exact ⟨rfl, lowB⟩⟩, ⟨by rw [l_8_10]; exact ⟨rfl, lowB⟩⟩⟩
  · exact ⟨0, ⟨by rw [a_8_10]; exact ⟨rfl, lowB⟩⟩, ⟨by rw [l_8_10]; exact ⟨rfl, lowB⟩⟩⟩
  · exact ⟨0, ⟨by rw [a_8_10]; exact ⟨rfl, lowB⟩⟩, ⟨by rw [l_8_10]; exact ⟨rfl, lowB⟩⟩⟩
theorem ag_8_11 {y : Int} (h0 : 0 ≤ y) (h1 : y < 16) : Agree (envP 285 [] []) 7 8 [.string ⟨#[43]⟩, .int .i64 11, .int .i64 y] := by
  rcases up16 h0 h1 with rfl | rfl | rfl | rfl | rfl | rfl | rfl | rfl | rfl | rfl | rfl | rfl | rfl | rfl | rfl | rfl
  · exact ⟨0, ⟨by rw [a_8_11]; exact ⟨rfl, lowB⟩⟩, ⟨by rw [l_8_11]; exact ⟨rfl, lowB⟩⟩⟩
  · exact ⟨0, ⟨by rw [a_8_11]; exact ⟨rfl, lowB⟩⟩, ⟨by rw [l_8_11]; exact ⟨rfl, lowB⟩⟩⟩
  · exact ⟨0, ⟨by rw [a_8_11]; exact ⟨rfl, lowB⟩⟩, ⟨by rw [l_8_11]; exact ⟨rfl, lowB⟩⟩⟩
  · exact ⟨0, ⟨by rw [a_8_11]; exact ⟨rfl, lowB⟩⟩, ⟨by rw [l_8_11]; exact ⟨rfl, lowB⟩⟩⟩
  · exact ⟨0, ⟨by rw [a_8_11]; exact ⟨rfl, lowB⟩⟩, ⟨by rw [l_8_11]; exact ⟨rfl, lowB⟩⟩⟩
  · exact ⟨0, ⟨by rw [a_8_11]; exact ⟨rfl, lowB⟩⟩, ⟨by rw [l_8_11]; exact ⟨rfl, lowB⟩⟩⟩
  · exact ⟨0, ⟨by rw [a_8_11]; exact ⟨rfl, lowB⟩⟩, ⟨by rw [l_8_11]; exact ⟨rfl, lowB⟩⟩⟩
  · exact ⟨0, ⟨by rw [a_8_11]; exact ⟨rfl, lowB⟩⟩, ⟨by rw [l_8_11]; exact ⟨rfl, lowB⟩⟩⟩
  · exact ⟨0, ⟨by rw [a_8_11]; exact ⟨rfl, lowB⟩⟩, ⟨by rw [l_8_11]; exact ⟨rfl, lowB⟩⟩⟩
  · exact ⟨0, ⟨by rw [a_8_11]; exact ⟨rfl, lowB⟩⟩, ⟨by rw [l_8_11]; exact ⟨rfl, lowB⟩⟩⟩
  · exact ⟨0, ⟨by rw [a_8_11]; exact ⟨rfl, lowB⟩⟩, ⟨by rw [l_8_11]; exact ⟨rfl, lowB⟩⟩⟩
  · exact ⟨0, ⟨by rw [a_8_11]; exact ⟨rfl, lowB⟩⟩, ⟨by rw [l_8_11]; exact ⟨rfl, lowB⟩⟩⟩
  · exact ⟨0, ⟨by rw [a_8_11]; exact ⟨rfl, lowB⟩⟩, ⟨by rw [l_8_11]; exact ⟨rfl, lowB⟩⟩⟩
  · exact ⟨0, ⟨by rw [a_8_11]; exact ⟨rfl, lowB⟩⟩, ⟨by rw [l_8_11]; exact ⟨rfl, lowB⟩⟩⟩
  · exact ⟨0, ⟨by rw [a_8_11]; exact ⟨rfl, lowB⟩⟩, ⟨by rw [l_8_11]; exact ⟨rfl, lowB⟩⟩⟩
  · exact ⟨0, ⟨by rw [a_8_11]; exact ⟨rfl, lowB⟩⟩, ⟨by rw [l_8_11]; exact ⟨rfl, lowB⟩⟩⟩
theorem ag_8_12 {y : Int} (h0 : 0 ≤ y) (h1 : y < 16) : Agree (envP 285 [] []) 7 8 [.string ⟨#[43]⟩, .int .i64 12, .int .i64 y] := by
  rcases up16 h0 h1 with rfl | rfl | rfl | rfl | rfl | rfl | rfl | rfl | rfl | rfl | rfl | rfl | rfl | rfl | rfl | rfl
  · exact ⟨0, ⟨by rw [a_8_12]; exact ⟨rfl, lowB⟩⟩, ⟨by rw [l_8_12]; exact ⟨rfl, lowB⟩⟩⟩
  · exact ⟨0, ⟨by rw [a_8_12]; exact ⟨rfl, lowB⟩⟩, ⟨by rw [l_8_12]; exact ⟨rfl, lowB⟩⟩⟩
  · exact ⟨0, ⟨by rw [a_8_12]; exact ⟨rfl, lowB⟩⟩, ⟨by rw [l_8_12]; exact ⟨rfl, lowB⟩⟩⟩
  · exact ⟨0, ⟨by rw [a_8_12]; exact ⟨rfl, lowB⟩⟩, ⟨by rw [l_8_12]; exact ⟨rfl, lowB⟩⟩⟩
  · exact ⟨0, ⟨by rw [a_8_12]; exact ⟨rfl, lowB⟩⟩, ⟨by rw [l_8_12]; exact ⟨rfl, lowB⟩⟩⟩
  · exact ⟨0, ⟨by rw [a_8_12]; exact ⟨rfl, lowB⟩⟩, ⟨by rw [l_8_12]; exact ⟨rfl, lowB⟩⟩⟩
  · exact ⟨0, ⟨by rw [a_8_12]; exact ⟨rfl, lowB⟩⟩, ⟨by rw [l_8_12]; exact ⟨rfl, lowB⟩⟩⟩
  · exact ⟨0, ⟨by rw [a_8_12]; exact ⟨rfl, lowB⟩⟩, ⟨by rw [l_8_12]; exact ⟨rfl, lowB⟩⟩⟩
  · exact ⟨0, ⟨by rw [a_8_12]; exact ⟨rfl, lowB⟩⟩, ⟨by rw [l_8_12]; exact ⟨rfl, lowB⟩⟩⟩
  · exact ⟨0, ⟨by rw [a_8_12]; exact ⟨rfl, lowB⟩⟩, ⟨by rw [l_8_12]; exact ⟨rfl, lowB⟩⟩⟩
  · exact ⟨0, ⟨by rw [a_8_12]; exact ⟨rfl, lowB⟩⟩, ⟨by rw [l_8_12]; exact ⟨rfl, lowB⟩⟩⟩
  · exact ⟨0, ⟨by rw [a_8_12]; exact ⟨rfl, lowB⟩⟩, ⟨by rw [l_8_12]; exact ⟨rfl, lowB⟩⟩⟩
  · exact ⟨0, ⟨by rw [a_8_12]; exact ⟨rfl, lowB⟩⟩, ⟨by rw [l_8_12]; exact ⟨rfl, lowB⟩⟩⟩
  · exact ⟨0, ⟨by rw [a_8_12]; exact ⟨rfl, lowB⟩⟩, ⟨by rw [l_8_12]; exact ⟨rfl, lowB⟩⟩⟩
  · exact ⟨0, ⟨by rw [a_8_12]; exact ⟨rfl, lowB⟩⟩, ⟨by rw [l_8_12]; exact ⟨rfl, lowB⟩⟩⟩
  · exact ⟨0, ⟨by rw [a_8_12]; exact ⟨rfl, lowB⟩⟩, ⟨by rw [l_8_12]; exact ⟨rfl, lowB⟩⟩⟩
theorem ag_8_13 {y : Int} (h0 : 0 ≤ y) (h1 : y < 16) : Agree (envP 285 [] []) 7 8 [.string ⟨#[43]⟩, .int .i64 13, .int .i64 y] := by
  rcases up16 h0 h1 with rfl | rfl | rfl | rfl | rfl | rfl | rfl | rfl | rfl | rfl | rfl | rfl | rfl | rfl | rfl | rfl
  · exact ⟨0, ⟨by rw [a_8_13]; exact ⟨rfl, lowB⟩⟩, ⟨by rw [l_8_13]; exact ⟨rfl, lowB⟩⟩⟩
  · exact ⟨0, ⟨by rw [a_8_13]; exact ⟨rfl, lowB⟩⟩, ⟨by rw [l_8_13]; exact ⟨rfl, lowB⟩⟩⟩
  · exact ⟨0, ⟨by rw [a_8_13]; exact ⟨rfl, lowB⟩⟩, ⟨by rw [l_8_13]; exact ⟨rfl, lowB⟩⟩⟩
  · exact ⟨0, ⟨by rw [a_8_13]; exact ⟨rfl, lowB⟩⟩, ⟨by rw [l_8_13]; exact ⟨rfl, lowB⟩⟩⟩
  · exact ⟨0, ⟨by rw [a_8_13]; exact ⟨rfl, lowB⟩⟩, ⟨by rw [l_8_13]; exact ⟨rfl, lowB⟩⟩⟩
  · exact ⟨0, ⟨by rw [a_8_13]; exact ⟨rfl, lowB⟩⟩, ⟨by rw [l_8_13]; exact ⟨rfl, lowB⟩⟩⟩
  · exact ⟨0, ⟨by rw [a_8_13]; exact ⟨rfl, lowB⟩⟩, ⟨by rw [l_8_13]; exact ⟨rfl, lowB⟩⟩⟩
  · exact ⟨0, ⟨by rw [a_8_13]; exact ⟨rfl, lowB⟩⟩, ⟨by rw [l_8_13]; exact ⟨rfl, lowB⟩⟩⟩
  · exact ⟨0, ⟨by rw [a_8_13]; exact ⟨rfl, lowB⟩⟩, ⟨by rw [l_8_13]; exact ⟨rfl, lowB⟩⟩⟩
  · exact ⟨0, ⟨by rw [a_8_13]; exact ⟨rfl, lowB⟩⟩, ⟨by rw [l_8_13]; exact ⟨rfl, lowB⟩⟩⟩
  · exact ⟨0, ⟨by rw [a_8_13]; exact ⟨rfl, lowB⟩⟩, ⟨by rw [l_8_13]; exact ⟨rfl, lowB⟩⟩⟩
  · exact ⟨0, ⟨by rw [a_8_13]; exact ⟨rfl, lowB⟩⟩, ⟨by rw [l_8_13]; exact ⟨rfl, lowB⟩⟩⟩
  · exact ⟨0, ⟨by rw [a_8_13]; exact ⟨rfl, lowB⟩⟩, ⟨by rw [l_8_13]; exact ⟨rfl, lowB⟩⟩⟩
  · exact ⟨0, ⟨by rw [a_8_13]; exact ⟨rfl, lowB⟩⟩, ⟨by rw [l_8_13]; exact ⟨rfl, lowB⟩⟩⟩
  · exact ⟨0, ⟨by rw [a_8_13]; exact ⟨rfl, lowB⟩⟩, ⟨by rw [l_8_13]; exact ⟨rfl, lowB⟩⟩⟩
  · exact ⟨0, ⟨by rw [a_8_13]; exact ⟨rfl, lowB⟩⟩, ⟨by rw [l_8_13]; exact ⟨rfl, lowB⟩⟩⟩
theorem ag_8_14 {y : Int} (h0 : 0 ≤ y) (h1 : y < 16) : Agree (envP 285 [] []) 7 8 [.string ⟨#[43]⟩, .int .i64 14, .int .i64 y] := by
  rcases up16 h0 h1 with rfl | rfl | rfl | rfl | rfl | rfl | rfl | rfl | rfl | rfl | rfl | rfl | rfl | rfl | rfl | rfl
  · exact ⟨0, ⟨by rw [a_8_14]; exact ⟨rfl, lowB⟩⟩, ⟨by rw [l_8_14]; exact ⟨rfl, lowB⟩⟩⟩
  · exact ⟨0, ⟨by rw [a_8_14]; exact ⟨rfl, lowB⟩⟩, ⟨by rw [l_8_14]; exact ⟨rfl, lowB⟩⟩⟩
  · exact ⟨0, ⟨by rw [a_8_14]; exact ⟨rfl, lowB⟩⟩, ⟨by rw [l_8_14]; exact ⟨rfl, lowB⟩⟩⟩
  · exact ⟨0, ⟨by rw [a_8_14]; exact ⟨rfl, lowB⟩⟩, ⟨by rw [l_8_14]; exact ⟨rfl, lowB⟩⟩⟩
  · exact ⟨0, ⟨by rw [a_8_14]; exact ⟨rfl, lowB⟩⟩, ⟨by rw [l_8_14]; exact ⟨rfl, lowB⟩⟩⟩
  · exact ⟨0, ⟨by rw [a_8_14]; exact ⟨rfl, lowB⟩⟩, ⟨by rw [l_8_14]; exact ⟨rfl, lowB⟩⟩⟩
  · exact ⟨0, ⟨by rw [a_8_14]; exact ⟨rfl, lowB⟩⟩, ⟨by rw [l_8_14]; exact ⟨rfl, lowB⟩⟩⟩
  · exact ⟨0, ⟨by rw [a_8_14]; exact ⟨rfl, lowB⟩⟩, ⟨by rw [l_8_14]; exact ⟨rfl, lowB⟩⟩⟩
  · exact ⟨0, ⟨by rw [a_8_14]; exact ⟨rfl, lowB⟩⟩, ⟨by rw [l_8_14]; exact ⟨rfl, lowB⟩⟩⟩
  · exact ⟨0, ⟨by rw [a_8_14]; exact ⟨rfl, lowB⟩⟩, ⟨by rw [l_8_14]; exact ⟨rfl, lowB⟩⟩⟩
  · exact ⟨0, ⟨by rw [a_8_14]; exact ⟨rfl, lowB⟩⟩, ⟨by rw [l_8_14]; exact ⟨rfl, lowB⟩⟩⟩
  · exact ⟨0, ⟨by rw [a_8_14]; exact ⟨rfl, lowB⟩⟩, ⟨by rw [l_8_14]; exact ⟨rfl, lowB⟩⟩⟩
  · exact ⟨0, ⟨by rw [a_8_14]; exact ⟨rfl, lowB⟩⟩, ⟨by rw [l_8_14]; exact ⟨rfl, lowB⟩⟩⟩
  · exact ⟨0, ⟨by rw [a_8_14]; exact ⟨rfl, lowB⟩⟩, ⟨by rw [l_8_14]; exact ⟨rfl, lowB⟩⟩⟩
  · exact ⟨0, ⟨by rw [a_8_14]; exact ⟨rfl, lowB⟩⟩, ⟨by rw [l_8_14]; exact ⟨rfl, lowB⟩⟩⟩
  · exact ⟨0, ⟨by rw [a_8_14]; exact ⟨rfl, lowB⟩⟩, ⟨by rw [l_8_14]; exact ⟨rfl, lowB⟩⟩⟩
theorem ag_8_15 {y : Int} (h0 : 0 ≤ y) (h1 : y < 16) : Agree (envP 285 [] []) 7 8 [.string ⟨#[43]⟩, .int .i64 15, .int .i64 y] := by
  rcases up16 h0 h1 with rfl | rfl | rfl | rfl | rfl | rfl | rfl | rfl | rfl | rfl | rfl | rfl | rfl | rfl | rfl | rfl
  · exact ⟨0, ⟨by rw [a_8_15]; exact ⟨rfl, lowB⟩⟩, ⟨by rw [l_8_15]; exact ⟨rfl, lowB⟩⟩⟩
  · exact ⟨0, ⟨by rw [a_8_15]; exact ⟨rfl, lowB⟩⟩, ⟨by rw [l_8_15]; exact ⟨rfl, lowB⟩⟩⟩
  · exact ⟨0, ⟨by rw [a_8_15]; exact ⟨rfl, lowB⟩⟩, ⟨by rw [l_8_15]; exact ⟨rfl, lowB⟩⟩⟩
  · exact ⟨0, ⟨by rw [a_8_15]; exact ⟨rfl, lowB⟩⟩, ⟨by rw [l_8_15]; exact ⟨rfl, lowB⟩⟩⟩
  · exact ⟨0, ⟨by rw [a_8_15]; exact ⟨rfl, lowB⟩⟩, ⟨by rw [l_8_15]; exact ⟨rfl, lowB⟩⟩⟩
  · exact ⟨0, ⟨by rw [a_8_15]; exact ⟨rfl, lowB⟩⟩, ⟨by rw [l_8_15]; exact ⟨rfl, lowB⟩⟩⟩
  · exact ⟨0, ⟨by rw [a_8_15]; exact ⟨rfl, lowB⟩⟩, ⟨by rw [l_8_15]; exact ⟨rfl, lowB⟩⟩⟩
  · exact ⟨0, ⟨by rw [a_8_15]; exact ⟨rfl, lowB⟩⟩, ⟨by rw [l_8_15]; exact ⟨rfl, lowB⟩⟩⟩
  · exact ⟨0, ⟨by rw [a_8_15]; exact ⟨rfl, lowB⟩⟩, ⟨by rw [l_8_15]; exact ⟨rfl, lowB⟩⟩⟩
  · exact ⟨0, ⟨by rw [a_8_15]; exact ⟨rfl, lowB⟩⟩, ⟨by rw [l_8_15]; exact ⟨rfl, lowB⟩⟩⟩
  · exact ⟨0, ⟨by rw [a_8_15]; exact ⟨rfl, lowB⟩⟩, ⟨by rw [l_8_15]; exact ⟨rfl, lowB⟩⟩⟩
  · exact ⟨0, ⟨by rw [a_8_15]; exact ⟨rfl, lowB⟩⟩, ⟨by rw [l_8_15]; exact ⟨rfl, lowB⟩⟩⟩
  · exact ⟨0, ⟨by rw [a_8_15]; exact ⟨rfl, lowB⟩⟩, ⟨by rw [l_8_15]; exact ⟨rfl, lowB⟩⟩⟩
  · exact ⟨0, ⟨by rw [a_8_15]; exact ⟨rfl, lowB⟩⟩, ⟨by rw [l_8_15]; exact ⟨rfl, lowB⟩⟩⟩
  · exact ⟨0, ⟨by rw [a_8_15]; exact ⟨rfl, lowB⟩⟩, ⟨by rw [l_8_15]; exact ⟨rfl, lowB⟩⟩⟩
  · exact ⟨0, ⟨by rw [a_8_15]; exact ⟨rfl, lowB⟩⟩, ⟨by rw [l_8_15]; exact ⟨rfl, lowB⟩⟩⟩
theorem ag_8 {x y : Int} (g0 : 0 ≤ x) (g1 : x < 16) (h0 : 0 ≤ y) (h1 : y < 16) : Agree (envP 285 [] []) 7 8 [.string ⟨#[43]⟩, .int .i64 x, .int .i64 y] := by
  rcases up16 g0 g1 with rfl | rfl | rfl | rfl | rfl | rfl | rfl | rfl | rfl | rfl | rfl | rfl | rfl | rfl | rfl | rfl
  · exact ag_8_0 h0 h1
  · exact ag_8_1 h0 h1
  · exact ag_8_2 h0 h1
  · exact ag_8_3 h0 h1
  · exact ag_8_4 h0 h1
  · exact ag_8_5 h0 h1
  · exact ag_8_6 h0 h1
  · exact ag_8_7 h0 h1
  · exact ag_8_8 h0 h1
  · exact ag_8_9 h0 h1
  · exact ag_8_10 h0 h1
  · exact ag_8_11 h0 h1
  · exact ag_8_12 h0 h1
  · exact ag_8_13 h0 h1
  · exact ag_8_14 h0 h1
  · exact ag_8_15 h0 h1
theorem ag_9_0 {y : Int} (h0 : 0 ≤ y) (h1 : y < 16) : Agree (envP 285 [] []) 7 8 [.string ⟨#[45]⟩, .int .i64 0, .int .i64 y] := by
  rcases up16 h0 h1 with rfl | rfl | rfl | rfl | rfl | rfl | rfl | rfl | rfl | rfl | rfl | rfl | rfl | rfl | rfl | rfl
  · exact ⟨0, ⟨by rw [a_9_0]; exact ⟨rfl, lowB⟩⟩, ⟨by rw [l_9_0]; exact ⟨rfl, lowB⟩⟩⟩
  · exact ⟨0, ⟨by rw [a_9_0]; exact ⟨rfl, lowB⟩⟩, ⟨by rw [l_9_0]; exact ⟨rfl, lowB⟩⟩⟩
  · exact ⟨0, ⟨by rw [a_9_0]; exact ⟨rfl, lowB⟩⟩, ⟨by rw [l_9_0]; exact ⟨rfl, lowB⟩⟩⟩
  · exact ⟨0, ⟨by rw [a_9_0]; exact ⟨rfl, lowB⟩⟩, ⟨by rw [l_9_0]; exact ⟨rfl, lowB⟩⟩⟩
  · exact ⟨0, ⟨by rw [a_9_0]; exact ⟨rfl, lowB⟩⟩, ⟨by rw [l_9_0]; exact ⟨rfl, lowB⟩⟩⟩
  · exact ⟨0, ⟨by rw [a_9_0]; exact ⟨rfl, lowB⟩⟩, ⟨by rw [l_9_0]; exact ⟨rfl, lowB⟩⟩⟩
  · exact ⟨0, ⟨by rw [a_9_0]; exact ⟨rfl, lowB⟩⟩, ⟨by rw [l_9_0]; exact ⟨rfl, lowB⟩⟩⟩
  · exact ⟨0, ⟨by rw [a_9_0]; exact ⟨rfl, lowB⟩⟩, ⟨by rw [l_9_0]; exact ⟨rfl, lowB⟩⟩⟩
  · exact ⟨0, ⟨by rw [a_9_0]; exact ⟨rfl, lowB⟩⟩, ⟨by rw [l_9_0]; exact ⟨rfl, lowB⟩⟩⟩
  · exact ⟨0, ⟨by rw [a_9_0]; exact ⟨rfl, lowB⟩⟩, ⟨by rw [l_9_0]; exact ⟨rfl, lowB⟩⟩⟩
  · exact ⟨0, ⟨by rw [a_9_0]; exact ⟨rfl, lowB⟩⟩, ⟨by rw [l_9_0]; exact ⟨rfl, lowB⟩⟩⟩
  · exact ⟨0, ⟨by rw [a_9_0]; exact ⟨rfl, lowB⟩⟩, ⟨by rw [l_9_0]; exact ⟨rfl, lowB⟩⟩⟩
  · exact ⟨0, ⟨by rw [a_9_0]; exact ⟨rfl, lowB⟩⟩, ⟨by rw [l_9_0]; exact ⟨rfl, lowB⟩⟩⟩
  · exact ⟨0, ⟨by rw [a_9_0]; exact ⟨rfl, lowB⟩⟩, ⟨by rw [l_9_0]; exact ⟨rfl, lowB⟩⟩⟩
  · exact ⟨0, ⟨by rw [a_9_0]; exact ⟨rfl, lowB⟩⟩, ⟨by rw [l_9_0]; exact ⟨rfl, lowB⟩⟩⟩
  · exact ⟨0, ⟨by rw [a_9_0]; exact ⟨rfl, lowB⟩⟩, ⟨by rw [l_9_0]; exact ⟨rfl, lowB⟩⟩⟩
theorem ag_9_1 {y : Int} (h0 : 0 ≤ y) (h1 : y < 16) : Agree (envP 285 [] []) 7 8 [.string ⟨#[45]⟩, .int .i64 1, .int .i64 y] := by
  rcases up16 h0 h1 with rfl | rfl | rfl | rfl | rfl | rfl | rfl | rfl | rfl | rfl | rfl | rfl | rfl | rfl | rfl | rfl
  · exact ⟨0, ⟨by rw [a_9_1]; exact ⟨rfl, lowB⟩⟩, ⟨by rw [l_9_1]; exact ⟨rfl, lowB⟩⟩⟩
  · exact ⟨0, ⟨by rw [a_9_1]; exact ⟨rfl, lowB⟩⟩, ⟨by rw [l_9_1]; exact ⟨rfl, lowB⟩⟩⟩
  · exact ⟨0, ⟨by rw [a_9_1]; exact ⟨rfl, lowB⟩⟩, ⟨by rw [l_9_1]; exact ⟨rfl, lowB⟩⟩⟩
  · exact ⟨0, ⟨by rw [a_9_1]; exact ⟨rfl, lowB⟩⟩, ⟨by rw [l_9_1]; exact ⟨rfl, lowB⟩⟩⟩
  · exact ⟨0, ⟨by rw [a_9_1]; exact ⟨rfl, lowB⟩⟩, ⟨by rw [l_9_1]; exact ⟨rfl, lowB⟩⟩⟩
  · exact ⟨0, ⟨by rw [a_9_1]; exact ⟨rfl, lowB⟩⟩, ⟨by rw [l_9_1]; exact ⟨rfl, lowB⟩⟩⟩
  · exact ⟨0, ⟨by rw [a_9_1]; exact ⟨rfl, lowB⟩⟩, ⟨by rw [l_9_1]; exact ⟨rfl, lowB⟩⟩⟩
  · exact ⟨0, ⟨by rw [a_9_1]; exact ⟨rfl, lowB⟩⟩, ⟨by rw [l_9_1]; exact ⟨rfl, lowB⟩⟩⟩
  · exact ⟨0, ⟨by rw [a_9_1]; exact ⟨rfl, lowB⟩⟩, ⟨by rw [l_9_1]; exact ⟨rfl, lowB⟩⟩⟩
  · exact ⟨0, ⟨by rw [a_9_1]; exact ⟨rfl, lowB⟩⟩, ⟨by rw [l_9_1]; exact ⟨rfl, lowB⟩⟩⟩
  · exact ⟨0, ⟨by rw [a_9_1]; exact ⟨rfl, lowB⟩⟩, ⟨by rw [l_9_1]; exact ⟨rfl, lowB⟩⟩⟩
  · exact ⟨0, ⟨by rw [a_9_1]; exact ⟨rfl, lowB⟩⟩, ⟨by rw [l_9_1]; exact ⟨rfl, lowB⟩⟩⟩
  · exact ⟨0, ⟨by rw [a_9_1]; exact ⟨rfl, lowB⟩⟩, ⟨by rw [l_9_1]; exact ⟨rfl, lowB⟩⟩⟩
  · exact ⟨0, ⟨by rw [a_9_1]; exact ⟨rfl, lowB⟩⟩, ⟨by rw [l_9_1]; exact ⟨rfl, lowB⟩⟩⟩
  · exact ⟨0, ⟨by rw [a_9_1]; exact ⟨rfl, lowB⟩⟩, ⟨by rw [l_9_1]; exact ⟨rfl, lowB⟩⟩⟩
  · exact ⟨0, ⟨by rw [a_9_1]; exact ⟨rfl, lowB⟩⟩, ⟨by rw [l_9_1]; exact ⟨rfl, lowB⟩⟩⟩
theorem ag_9_2 {y : Int} (h0 : 0 ≤ y) (h1 : y < 16) : Agree (envP 285 [] []) 7 8 [.string ⟨#[45]⟩, .int .i64 2, .int .i64 y] := by
  rcases up16 h0 h1 with rfl | rfl | rfl | rfl | rfl | rfl | rfl | rfl | rfl | rfl | rfl | rfl | rfl | rfl | rfl | rfl
  · exact ⟨0, ⟨by rw [a_9_2]; exact ⟨rfl, lowB⟩⟩, ⟨by rw [l_9_2]; exact ⟨rfl, lowB⟩⟩⟩
  · exact ⟨0, ⟨by rw [a_9_2]; exact ⟨rfl, lowB⟩⟩, ⟨by rw [l_9_2]; exact ⟨rfl, lowB⟩⟩⟩
  · exact ⟨0, ⟨by rw [a_9_2]; exact ⟨rfl, lowB⟩⟩, ⟨by rw [l_9_2]; exact ⟨rfl, lowB⟩⟩⟩
  · exact ⟨0, ⟨by rw [a_9_2]; exact ⟨rfl, lowB⟩⟩, ⟨by rw [l_9_2]; exact ⟨rfl, lowB⟩⟩⟩
  · exact ⟨0, ⟨by rw [a_9_2]; exact ⟨rfl, lowB⟩⟩, ⟨by rw [l_9_2]; exact ⟨rfl, lowB⟩⟩⟩
  · exact ⟨0, ⟨by rw [a_9_2]; exact ⟨rfl, lowB⟩⟩, ⟨by rw [l_9_2]; exact ⟨rfl, lowB⟩⟩⟩
  · exact ⟨0, ⟨by rw [a_9_2]; exact ⟨rfl, lowB⟩⟩, ⟨by rw [l_9_2]; exact ⟨rfl, lowB⟩⟩⟩
  · exact ⟨0, ⟨by rw [a_9_2]; exact ⟨rfl, lowB⟩⟩, ⟨by rw [l_9_2]; exact ⟨rfl, lowB⟩⟩⟩
  · exact ⟨0, ⟨by rw [a_9_2]; exact ⟨rfl, lowB⟩⟩, ⟨by rw [l_9_2]; exact ⟨rfl, lowB⟩⟩⟩
  · exact ⟨0, ⟨by rw [a_9_2]; exact ⟨rfl, lowB⟩⟩, ⟨by rw [l_9_2]; exact ⟨rfl, lowB⟩⟩⟩
  · exact ⟨0, ⟨by rw [a_9_2]; exact ⟨rfl, lowB⟩⟩, ⟨by rw [l_9_2]; exact ⟨rfl, lowB⟩⟩⟩
  · exact ⟨0, ⟨by rw [a_9_2]; exact ⟨rfl, lowB⟩⟩, ⟨by rw [l_9_2]; exact ⟨rfl, lowB⟩⟩⟩
  · exact ⟨0, ⟨by rw [a_9_2]; exact ⟨rfl, lowB⟩⟩, ⟨by rw [l_9_2]; exact ⟨rfl, lowB⟩⟩⟩
  · exact ⟨0, ⟨by rw [a_9_2]; exact ⟨rfl, lowB⟩⟩, ⟨by rw [l_9_2]; exact ⟨rfl, lowB⟩⟩⟩
  · exact ⟨0, ⟨by rw [a_9_2]; exact ⟨rfl, lowB⟩⟩, ⟨by rw [l_9_2]; exact ⟨rfl, lowB⟩⟩⟩
  · exact ⟨0, ⟨by rw [a_9_2]; exact ⟨rfl, lowB⟩⟩, ⟨by rw [l_9_2]; exact ⟨rfl, lowB⟩⟩⟩
theorem ag_9_3 {y : Int} (h0 : 0 ≤ y) (h1 : y < 16) : Agree (envP 285 [] []) 7 8 [.string ⟨#[45]⟩, .int .i64 3, .int .i64 y] := by
  rcases up16 h0 h1 with rfl | rfl | rfl | rfl | rfl | rfl | rfl | rfl | rfl | rfl | rfl | rfl | rfl | rfl | rfl | rfl
  · exact ⟨0, ⟨by rw [a_9_3]; exact ⟨rfl, lowB⟩⟩, ⟨by rw [l_9_3]; exact ⟨rfl, lowB⟩⟩⟩
  · exact ⟨0, ⟨by rw [a_9_3]; exact ⟨rfl, lowB⟩⟩, ⟨by rw [l_9_3]; exact ⟨rfl, lowB⟩⟩⟩
  · exact ⟨0, ⟨by rw [a_9_3]; exact ⟨rfl, lowB⟩⟩, ⟨by rw [l_9_3]; exact ⟨rfl, lowB⟩⟩⟩
  · exact ⟨3, ⟨by rw [a_9_3]; exact ⟨rfl, lowB⟩⟩, ⟨by rw [l_9_3]; exact ⟨rfl, lowB⟩⟩⟩
  · exact ⟨0, ⟨by rw [a_9_3]; exact ⟨rfl, lowB⟩⟩, ⟨by rw [l_9_3]; exact ⟨rfl, lowB⟩⟩⟩
  · exact ⟨0, ⟨by rw [a_9_3]; exact ⟨rfl, lowB⟩⟩, ⟨by rw [l_9_3]; exact ⟨rfl, lowB⟩⟩⟩
  · exact ⟨0, ⟨by rw [a_9_3]; exact ⟨rfl, lowB⟩⟩, ⟨by rw [l_9_3]; exact ⟨rfl, lowB⟩⟩⟩
  · exact ⟨0, ⟨by rw [a_9_3]; exact ⟨rfl, lowB⟩⟩, ⟨by rw [l_9_3]; exact ⟨rfl, lowB⟩⟩⟩
  · exact ⟨0, ⟨by rw [a_9_3]; exact ⟨rfl, lowB⟩⟩, ⟨by rw [l_9_3]; exact ⟨rfl, lowB⟩⟩⟩
  · exact ⟨0, ⟨by rw [a_9_3]; exact ⟨rfl, lowB⟩⟩, ⟨by rw [l_9_3]; exact ⟨rfl, lowB⟩⟩⟩
  · exact ⟨0, ⟨by rw [a_9_3]; exact ⟨rfl, lowB⟩⟩, ⟨by rw [l_9_3]; exact ⟨rfl, lowB⟩⟩⟩
  · exact ⟨0, ⟨by rw [a_9_3]; exact ⟨rfl, lowB⟩⟩, ⟨by rw [l_9_3]; exact ⟨rfl, lowB⟩⟩⟩
  · exact ⟨0, ⟨by rw [a_9_3]; exact ⟨rfl, lowB⟩⟩, ⟨by rw [l_9_3]; exact ⟨rfl, lowB⟩⟩⟩
  · exact ⟨0, ⟨by rw [a_9_3]; exact ⟨rfl, lowB⟩⟩, ⟨by rw [l_9_3]; exact ⟨rfl, lowB⟩⟩⟩
  · exact ⟨0, ⟨by rw [a_9_3]; exact ⟨rfl, lowB⟩⟩, ⟨by rw [l_9_3]; exact ⟨rfl, lowB⟩⟩⟩
  · exact ⟨0, ⟨by rw [a_9_3]; exact ⟨rfl, lowB⟩⟩, ⟨by rw [l_9_3]; exact ⟨rfl, lowB⟩⟩⟩
theorem ag_9_4 {y : Int} (h0 : 0 ≤ y) (h1 : y < 16) : Agree (envP 285 [] []) 7 8 [.string ⟨#[45]⟩, .int .i64 4, .int .i64 y] := by
  rcases up16 h0 h1 with rfl | rfl | rfl | rfl | rfl | rfl | rfl | rfl | rfl | rfl | rfl | rfl | rfl | rfl | rfl | rfl
  · exact ⟨0, ⟨by rw [a_9_4]; exact ⟨rfl, lowB⟩⟩, ⟨by rw [l_9_4]; exact ⟨rfl, lowB⟩⟩⟩
  · exact ⟨0, ⟨by rw [a_9_4]; exact ⟨rfl, lowB⟩⟩, ⟨by rw [l_9_4]; exact ⟨rfl, lowB⟩⟩⟩
  · exact ⟨0, ⟨by rw [a_9_4]; exact ⟨rfl, lowB⟩⟩, ⟨by rw [l_9_4]; exact ⟨rfl, lowB⟩⟩⟩
  · exact ⟨0, ⟨by rw [a_9_4]; exact ⟨rfl, lowB⟩⟩, ⟨by rw [l_9_4]; exact ⟨rfl, lowB⟩⟩⟩
  · exact ⟨0, ⟨by rw [a_9_4]; exact ⟨rfl, lowB⟩⟩, ⟨by rw [l_9_4]; exact ⟨rfl, lowB⟩⟩⟩
  · exact ⟨0, ⟨by rw [a_9_4]; exact ⟨rfl, lowB⟩⟩, ⟨by rw [l_9_4]; exact ⟨rfl, lowB⟩⟩⟩
  · exact ⟨0, ⟨by rw [a_9_4]; exact ⟨rfl, lowB⟩⟩, ⟨by rw [l_9_4]; exact ⟨rfl, lowB⟩⟩⟩
  · exact ⟨0, ⟨by rw [a_9_4]; exact ⟨rfl, lowB⟩⟩, ⟨by rw [l_9_4]; exact ⟨rfl, lowB⟩⟩⟩
  · exact ⟨0, ⟨by rw [a_9_4]; exact ⟨rfl, lowB⟩⟩, ⟨by rw [l_9_4]; exact ⟨rfl, lowB⟩⟩⟩
  · exact ⟨0, ⟨by rw [a_9_4]; exact ⟨rfl, lowB⟩⟩, ⟨by rw [l_9_4]; exact ⟨rfl, lowB⟩⟩⟩
  · exact ⟨0, ⟨by rw [a_9_4]; exact ⟨rfl, lowB⟩⟩, ⟨by rw [l_9_4]; exact ⟨rfl, lowB⟩⟩⟩
  · exact ⟨0, ⟨by rw [a_9_4]; exact ⟨rfl, lowB⟩⟩, ⟨by rw [l_9_4]; exact ⟨rfl, lowB⟩⟩⟩
  · exact ⟨0, ⟨by rw [a_9_4]; exact ⟨rfl, lowB⟩⟩, ⟨by rw [l_9_4]; exact ⟨rfl, lowB⟩⟩⟩
  · exact ⟨0, ⟨by rw [a_9_4]; exact ⟨rfl, lowB⟩⟩, ⟨by rw [l_9_4]; exact ⟨rfl, lowB⟩⟩⟩
  · exact ⟨0, ⟨by rw [a_9_4]; exact ⟨rfl, lowB⟩⟩, ⟨by rw [l_9_4]; exact ⟨rfl, lowB⟩⟩⟩
  · exact ⟨0, ⟨by rw [a_9_4]; exact ⟨rfl, lowB⟩⟩, ⟨by rw [l_9_4]; exact ⟨rfl, lowB⟩⟩⟩
theorem ag_9_5 {y : Int} (h0 : 0 ≤ y) (h1 : y < 16) : Agree (envP 285 [] []) 7 8 [.string ⟨#[45]⟩, .int .i64 5, .int .i64 y] := by
  rcases up16 h0 h1 with rfl | rfl | rfl | rfl | rfl | rfl | rfl | rfl | rfl | rfl | rfl | rfl | rfl | rfl | rfl | rfl
  · exact ⟨0, ⟨by rw [a_9_5]; exact ⟨rfl, lowB⟩⟩, ⟨by rw [l_9_5]; exact ⟨rfl, lowB⟩⟩⟩
  · exact ⟨0, ⟨by rw [a_9_5]; exact ⟨rfl, lowB⟩⟩, ⟨by rw [l_9_5]; exact ⟨rfl, lowB⟩⟩⟩
  · exact ⟨0, ⟨by rw [a_9_5]; exact ⟨rfl, lowB⟩⟩, ⟨by rw [l_9_5]; exact ⟨rfl, lowB⟩⟩⟩
  · exact ⟨0, ⟨by rw [a_9_5]; exact ⟨rfl, lowB⟩⟩, ⟨by rw [l_9_5]; exact ⟨rfl, lowB⟩⟩⟩
  · exact ⟨0, ⟨by rw [a_9_5]; exact ⟨rfl, lowB⟩⟩, ⟨by rw [l_9_5]; exact ⟨rfl, lowB⟩⟩⟩
  · exact ⟨8, ⟨by rw [a_9_5]; exact ⟨rfl, lowB⟩⟩, ⟨by rw [l_9_5]; exact ⟨rfl, lowB⟩⟩⟩
  · exact ⟨0, ⟨by rw [a_9_5]; exact ⟨rfl, lowB⟩⟩, ⟨by rw [l_9_5]; exact ⟨rfl, lowB⟩⟩⟩
  · exact ⟨8, ⟨by rw [a_9_5]; exact ⟨rfl, lowB⟩⟩, ⟨by rw [l_9_5]; exact ⟨rfl, lowB⟩⟩⟩
  · exact ⟨5, ⟨by rw [a_9_5]; exact ⟨rfl, lowB⟩⟩, ⟨by rw [l_9_5]; exact ⟨rfl, lowB⟩⟩⟩
  · exact ⟨5, ⟨by rw [a_9_5]; exact ⟨rfl, lowB⟩⟩, ⟨by rw [l_9_5]; exact ⟨rfl, lowB⟩⟩⟩
  · exact ⟨0, ⟨by rw [a_9_5]; exact ⟨rfl, lowB⟩⟩, ⟨by rw [l_9_5]; exact ⟨rfl, lowB⟩⟩⟩
  · exact ⟨0, ⟨by rw [a_9_5]; exact ⟨rfl, lowB⟩⟩, ⟨by rw [l_9_5]; exact ⟨rfl, lowB⟩⟩⟩
  · exact ⟨0, ⟨by rw [a_9_5]; exact ⟨rfl, lowB⟩⟩, ⟨by rw [l_9_5]; exact ⟨rfl, lowB⟩⟩⟩
  · exact ⟨0, ⟨by rw [a_9_5]; exact ⟨rfl, lowB⟩⟩, ⟨by rw [l_9_5]; exact ⟨rfl, lowB⟩⟩⟩
  · exact ⟨0, ⟨by rw [a_9_5]; exact ⟨rfl, lowB⟩⟩, ⟨by rw [l_9_5]; exact ⟨rfl, lowB⟩⟩⟩
  · exact ⟨0, ⟨by rw [a_9_5]; exact ⟨rfl, lowB⟩⟩, ⟨by rw [l_9_5]; exact ⟨rfl, lowB⟩⟩⟩
theorem ag_9_6 {y : Int} (h0 : 0 ≤ y) (h1 : y < 16) : Agree (envP 285 [] []) 7 8 [.string ⟨#[45]⟩, .int .i64 6, .int .i64 y] := by
  rcases up16 h0 h1 with rfl | rfl | rfl | rfl | rfl | rfl | rfl | rfl | rfl | rfl | rfl | rfl | rfl | rfl | rfl | rfl
  · exact ⟨0, ⟨by rw [a_9_6]; exact ⟨rfl, lowB⟩⟩, ⟨by rw [l_9_6]; exact ⟨rfl, lowB⟩⟩⟩
  · exact ⟨0, ⟨by rw [a_9_6]; exact ⟨rfl, lowB⟩⟩, ⟨by rw [l_9_6]; exact ⟨rfl, lowB⟩⟩⟩
  · exact ⟨0, ⟨by rw [a_9_6]; exact ⟨rfl, lowB⟩⟩, ⟨by rw [l_9_6]; exact ⟨rfl, lowB⟩⟩⟩
  · exact ⟨0, ⟨by rw [a_9_6]; exact ⟨rfl, lowB⟩⟩, ⟨by rw [l_9_6]; exact ⟨rfl, lowB⟩⟩⟩
  · exact ⟨0, ⟨by rw [a_9_6]; exact ⟨rfl, lowB⟩⟩, ⟨by rw [l_9_6]; exact ⟨rfl, lowB⟩⟩⟩
  · exact ⟨0, ⟨by rw [a_9_6]; exact ⟨rfl, lowB⟩⟩, ⟨by rw [l_9_6]; exact ⟨rfl, lowB⟩⟩⟩
  · exact ⟨8, ⟨by rw [a_9_6]; exact ⟨rfl, lowB⟩⟩, ⟨by rw [l_9_6]; exact ⟨rfl, lowB⟩⟩⟩
  · exact ⟨0, ⟨by rw [a_9_6]; exact ⟨rfl, lowB⟩⟩, ⟨by rw [l_9_6]; exact ⟨rfl, lowB⟩⟩⟩
  · exact ⟨6, ⟨by rw [a_9_6]; exact ⟨rfl, lowB⟩⟩, ⟨by rw [l_9_6]; exact ⟨rfl, lowB⟩⟩⟩
  · exact ⟨0, ⟨by rw [a_9_6]; exact ⟨rfl, lowB⟩⟩, ⟨by rw [l_9_6]; exact ⟨rfl, lowB⟩⟩⟩
  · exact ⟨0, ⟨by rw [a_9_6]; exact ⟨rfl, lowB⟩⟩, ⟨by rw [l_9_6]; exact ⟨rfl, lowB⟩⟩⟩
  · exact ⟨0, ⟨by rw [a_9_6]; exact ⟨rfl, lowB⟩⟩, ⟨by rw [l_9_6]; exact ⟨rfl, lowB⟩⟩⟩
  · exact ⟨0, ⟨by rw [a_9_6]; exact ⟨rfl, lowB⟩⟩, ⟨by rw [l_9_6]; exact ⟨rfl, lowB⟩⟩⟩
  · exact ⟨0, ⟨by rw [a_9_6]; exact ⟨rfl, lowB⟩⟩, ⟨by rw [l_9_6]; exact ⟨rfl, lowB⟩⟩⟩
  · exact ⟨0, ⟨by rw [a_9_6]; exact ⟨rfl, lowB⟩⟩, ⟨by rw [l_9_6]; exact ⟨rfl, lowB⟩⟩⟩
  · exact ⟨0, ⟨by rw [a_9_6]; exact ⟨rfl, lowB⟩⟩, ⟨by rw [l_9_6]; exact ⟨rfl, lowB⟩⟩⟩
theorem ag_9_7 {y : Int} (h0 : 0 ≤ y) (h1 : y < 16) : Agree (envP 285 [] []) 7 8 [.string ⟨#[45]⟩, .int .i64 7, .int .i64 y] := by
  rcases up16 h0 h1 with rfl | rfl | rfl | rfl | rfl | rfl | rfl | rfl | rfl | rfl | rfl | rfl | rfl | rfl | rfl | rfl
  · exact ⟨0, ⟨by rw [a_9_7]; exact ⟨rfl, lowB⟩⟩, ⟨by rw [l_9_7]; exact ⟨rfl, lowB⟩⟩⟩
  · exact ⟨0, ⟨by rw [a_9_7]; exact ⟨rfl, lowB⟩⟩, ⟨by rw [l_9_7]; exact ⟨rfl, lowB⟩⟩⟩
  · exact ⟨0, ⟨by rw [a_9_7]; exact ⟨rfl, lowB⟩⟩, ⟨by rw [l_9_7]; exact ⟨rfl, lowB⟩⟩⟩
  · exact ⟨0, ⟨by rw [a_9_7]; exact ⟨rfl, lowB⟩⟩, ⟨by rw [l_9_7]; exact ⟨rfl, lowB⟩⟩⟩
  · exact ⟨0, ⟨by rw [a_9_7]; exact ⟨rfl, lowB⟩⟩, ⟨by rw [l_9_7]; exact ⟨rfl, lowB⟩⟩⟩
  · exact ⟨8, ⟨by rw [a_9_7]; exact ⟨rfl, lowB⟩⟩, ⟨by rw [l_9_7]; exact ⟨rfl, lowB⟩⟩⟩
  · exact ⟨0, ⟨by rw [a_9_7]; exact ⟨rfl, lowB⟩⟩, ⟨by rw [l_9_7]; exact ⟨rfl, lowB⟩⟩⟩
  · exact ⟨8, ⟨by rw [a_9_7]; exact ⟨rfl, lowB⟩⟩, ⟨by rw [l_9_7]; exact ⟨rfl, lowB⟩⟩⟩
  · exact ⟨7, ⟨by rw [a_9_7]; exact ⟨rfl, lowB⟩⟩, ⟨by rw [l_9_7]; exact ⟨rfl, lowB⟩⟩⟩
  · exact ⟨7, ⟨by rw [a_9_7]; exact ⟨rfl, lowB⟩⟩, ⟨by rw [l_9_7]; exact ⟨rfl, lowB⟩⟩⟩
  · exact ⟨0, ⟨by rw [a_9_7]; exact ⟨rfl, lowB⟩⟩, ⟨by rw [l_9_7]; exact ⟨rfl, lowB⟩⟩⟩
  · exact ⟨0, ⟨by rw [a_9_7]; exact ⟨rfl, lowB⟩⟩, ⟨by rw [l_9_7]; exact ⟨rfl, lowB⟩⟩⟩
  · exact ⟨0, ⟨by rw [a_9_7]; exact ⟨rfl, lowB⟩⟩, ⟨by rw [l_9_7]; exact ⟨rfl, lowB⟩⟩⟩
  · exact ⟨0, ⟨by rw [a_9_7]; exact ⟨rfl, lowB⟩⟩, ⟨by rw [l_9_7]; exact ⟨rfl, lowB⟩⟩⟩
  · exact ⟨0, ⟨by rw [a_9_7]; exact ⟨rfl, lowB⟩⟩, ⟨by rw [l_9_7]; exact ⟨rfl, lowB⟩⟩⟩
  · exact ⟨0, ⟨by rw [a_9_7]; exact ⟨rfl, lowB⟩⟩, ⟨by rw [l_9_7]; exact ⟨rfl, lowB⟩⟩⟩
theorem ag_9_8 {y : Int} (h0 : 0 ≤ y) (h1 : y < 16) : Agree (envP 285 [] []) 7 8 [.string ⟨#[45]⟩, .int .i64 8, .int .i64 y] := by
  rcases up16 h0 h1 with rfl | rfl | rfl | rfl | rfl | rfl | rfl | rfl | rfl | rfl | rfl | rfl | rfl | rfl | rfl | rfl
  · exact ⟨0, ⟨by rw [a_9_8]; exact ⟨rfl, lowB⟩⟩, ⟨by rw [l_9_8]; exact ⟨rfl, lowB⟩⟩⟩
  · exact ⟨0, ⟨by rw [a_9_8]; exact ⟨rfl, lowB⟩⟩, ⟨by rw [l_9_8]; exact ⟨rfl, lowB⟩⟩⟩
  · exact ⟨0, ⟨by rw [a_9_8]; exact ⟨rfl, lowB⟩⟩, ⟨by rw [l_9_8]; exact ⟨rfl, lowB⟩⟩⟩
  · exact ⟨0, ⟨by rw [a_9_8]; exact ⟨rfl, lowB⟩⟩, ⟨by rw [l_9_8]; exact ⟨rfl, lowB⟩⟩⟩
  · exact ⟨0, ⟨by rw [a_9_8]; exact ⟨rfl, lowB⟩⟩, ⟨by rw [l_9_8]; exact ⟨rfl, lowB⟩⟩⟩
  · exact ⟨0, ⟨by rw [a_9_8]; exact ⟨rfl, lowB⟩⟩, ⟨by rw [l_9_8]; exact ⟨rfl, lowB⟩⟩⟩
  · exact ⟨0, ⟨by rw [a_9_8]; exact ⟨rfl, lowB⟩⟩, ⟨by rw [l_9_8]; exact ⟨rfl, lowB⟩⟩⟩
  · exact ⟨0, ⟨by rw [a_9_8]; exact ⟨rfl, lowB⟩⟩, ⟨by rw [l_9_8]; exact ⟨rfl, lowB⟩⟩⟩
  · exact ⟨8, ⟨by rw [a_9_8]; exact ⟨rfl, lowB⟩⟩, ⟨by rw [l_9_8]; exact ⟨rfl, lowB⟩⟩⟩
  · exact ⟨0, ⟨by rw [a_9_8]; exact ⟨rfl, lowB⟩⟩, ⟨by rw [l_9_8]; exact ⟨rfl, lowB⟩⟩⟩
  · exact ⟨0, ⟨by rw [a_9_8]; exact ⟨rfl, lowB⟩⟩, ⟨by rw [l_9_8]; exact ⟨rfl, lowB⟩⟩⟩
  · exact ⟨0, ⟨by rw [a_9_8]; exact ⟨rfl, lowB⟩⟩, ⟨by rw [l_9_8]; exact ⟨rfl, lowB⟩⟩⟩
  · exact ⟨0, ⟨by rw [a_9_8]; exact ⟨rfl, lowB⟩⟩, ⟨by rw [l_9_8]; exact ⟨rfl, lowB⟩⟩⟩
  · exact ⟨0, ⟨by rw [a_9_8]; exact ⟨rfl, lowB⟩⟩, ⟨by rw [l_9_8]; exact ⟨rfl, lowB⟩⟩⟩
  · exact ⟨0, ⟨by rw [a_9_8]; exact ⟨rfl, lowB⟩⟩, ⟨by rw [l_9_8]; exact ⟨rfl, lowB⟩⟩⟩
  · exact ⟨0, ⟨by rw [a_9_8]; exact ⟨rfl, lowB⟩⟩, ⟨by rw [l_9_8]; exact ⟨rfl, lowB⟩⟩⟩
theorem ag_9_9 {y : Int} (h0 : 0 ≤ y) (h1 : y < 16) : Agree (envP 285 [] []) 7 8 [.string ⟨#[45]⟩, .int .i64 9, .int .i64 y] := by
  rcases up16 h0 h1 with rfl | rfl | rfl | rfl | rfl | rfl | rfl | rfl | rfl | rfl | rfl | rfl | rfl | rfl | rfl | rfl
  · exact ⟨0, ⟨by rw [a_9_9]; exact ⟨rfl, lowB⟩⟩, ⟨by rw [l_9_9]; exact ⟨rfl, lowB⟩⟩⟩
  · exact ⟨0, ⟨by rw [a_9_9]; exact ⟨rfl, lowB⟩⟩, ⟨by rw [l_9_9]; exact ⟨rfl, lowB⟩⟩⟩
  · exact ⟨0, ⟨by rw [a_9_9]; exact ⟨rfl, lowB⟩⟩, ⟨by rw [l_9_9]; exact ⟨rfl, lowB⟩⟩⟩
  · exact ⟨0, ⟨by rw [a_9_9]; exact ⟨rfl, lowB⟩⟩, ⟨by rw [l_9_9]; exact ⟨rfl, lowB⟩⟩⟩
  · exact ⟨0, ⟨by rw [a_9_9]; exact ⟨rfl, lowB⟩⟩, ⟨by rw [l_9_9]; exact ⟨rfl, lowB⟩⟩⟩
  · exact ⟨0, ⟨by rw [a_9_9]; exact ⟨rfl, lowB⟩⟩, ⟨by rw [l_9_9]; exact ⟨rfl, lowB⟩⟩⟩
  · exact ⟨0, ⟨by rw [a_9_9]; exact ⟨rfl, lowB⟩⟩, ⟨by rw [l_9_9]; exact ⟨rfl, lowB⟩⟩⟩
  · exact ⟨0, ⟨by rw [a_9_9]; exact ⟨rfl, lowB⟩⟩, ⟨by rw [l_9_9]; exact ⟨rfl, lowB⟩⟩⟩
  · exact ⟨0, ⟨by rw [a_9_9]; exact ⟨rfl, lowB⟩⟩, ⟨by rw [l_9_9]; exact ⟨rfl, lowB⟩⟩⟩
  · exact ⟨9, ⟨by rw [a_9_9]; exact ⟨rfl, lowB⟩⟩, ⟨by rw [l_9_9]; exact ⟨rfl, lowB⟩⟩⟩
  · exact ⟨0, ⟨by rw [a_9_9]; exact ⟨rfl, lowB⟩⟩, ⟨by rw [l_9_9]; exact ⟨rfl, lowB⟩⟩⟩
  · exact ⟨0, ⟨by rw [a_9_9]; exact ⟨rfl, lowB⟩⟩, ⟨by rw [l_9_9]; exact ⟨rfl, lowB⟩⟩⟩
  · exact ⟨0, ⟨by rw [a_9_9]; exact ⟨rfl, lowB⟩⟩, ⟨by rw [l_9_9]; exact ⟨rfl, lowB⟩⟩⟩
  · exact ⟨0, ⟨by rw [a_9_9]; exact ⟨rfl, lowB⟩⟩, ⟨by rw [l_9_9]; exact ⟨rfl, lowB⟩⟩⟩
  · exact ⟨0, ⟨by rw [a_9_9]; exact ⟨rfl, lowB⟩⟩, ⟨by rw [l_9_9]; exact ⟨rfl, lowB⟩⟩⟩
  · exact ⟨0, ⟨by rw [a_9_9]; exact ⟨rfl, lowB⟩⟩, ⟨by rw [l_9_9]; exact ⟨rfl, lowB⟩⟩⟩
theorem ag_9_10 {y : Int} (h0 : 0 ≤ y) (h1 : y < 16) : Agree (envP 285 [] []) 7 8 [.string ⟨#[45]⟩, .int .i64 10, .int .i64 y] := by
  rcases up16 h0 h1 with rfl | rfl | rfl | rfl | rfl | rfl | rfl | rfl | rfl | rfl | rfl | rfl | rfl | rfl | rfl | rfl
  · exact ⟨0, ⟨by rw [a_9_10]; exact ⟨rfl, lowB⟩⟩, ⟨by rw [l_9_10]; exact ⟨rfl, lowB⟩⟩⟩
  · exact ⟨0, ⟨by rw [a_9_10]; exact ⟨rfl, lowB⟩⟩, ⟨by rw [l_9_10]; exact ⟨rfl, lowB⟩⟩⟩
  · exact ⟨0, ⟨by rw [a_9_10]; exact ⟨rfl, lowB⟩⟩, ⟨by rw [l_9_10]; exact ⟨rfl, lowB⟩⟩⟩
  · exact ⟨0, ⟨by rw [a_9_10]; exact ⟨rfl, lowB⟩⟩, ⟨by rw [l_9_10]; exact ⟨rfl, lowB⟩⟩⟩
  · exact ⟨0, ⟨by rw [a_9_10]; exact ⟨rfl, lowB⟩⟩, ⟨by rw [l_9_10]; exact ⟨rfl, lowB⟩⟩⟩
  · exact ⟨0, ⟨by rw [a_9_10]; exact ⟨rfl, lowB⟩⟩, ⟨by rw [l_9_10]; exact ⟨rfl, lowB⟩⟩⟩
  · exact ⟨0, ⟨by rw [a_9_10]; exact ⟨rfl, lowB⟩⟩, ⟨by rw [l_9_10]; exact ⟨rfl, lowB⟩⟩⟩
  · exact ⟨0, ⟨by rw [a_9_10]; exact ⟨rfl, lowB⟩⟩, ⟨by rw [l_9_10]; exact ⟨rfl, lowB⟩⟩⟩
  · exact ⟨0, ⟨by rw [a_9_10]; exact ⟨rfl, lowB⟩⟩, ⟨by rw [l_9_10]; exact ⟨rfl, lowB⟩⟩⟩
  · exact ⟨0, ⟨by rw [a_9_10]; exact ⟨rfl, lowB⟩⟩, ⟨by rw [l_9_10]; exact ⟨rfl, lowB⟩⟩⟩
  · exact ⟨0, ⟨by rw [a_9_10]; exact ⟨rfl, lowB⟩⟩, ⟨by rw [l_9_10]; exact ⟨rfl, lowB⟩⟩⟩
  · exact ⟨0, ⟨by rw [a_9_10]; exact ⟨rfl, lowB⟩⟩, ⟨by rw [l_9_10]; exact ⟨rfl, lowB⟩⟩⟩
  · exact ⟨0, ⟨by rw [a_9_10]; exact ⟨rfl, lowB⟩⟩, ⟨by rw [l_9_10]; exact ⟨rfl, lowB⟩⟩⟩
  · exact ⟨0, ⟨by rw [a_9_10]; exact ⟨rfl, lowB⟩⟩, ⟨by rw [l_9_10]; exact ⟨rfl, lowB⟩⟩⟩
  · exact ⟨0, ⟨by rw [a_9_10]; exact ⟨rfl, lowB⟩⟩, ⟨by rw [l_9_10]; exact ⟨rfl, lowB⟩⟩⟩
  · exact ⟨0, ⟨by rw [a_9_10]; exact ⟨rfl, lowB⟩⟩, ⟨by rw [l_9_10]; exact ⟨rfl, lowB⟩⟩⟩
theorem ag_9_11 {y : Int} (h0 : 0 ≤ y) (h1 : y < 16) : Agree (envP 285 [] []) 7 8 [.string ⟨#[45]⟩, .int .i64 11, .int .i64 y] := by
  rcases up16 h0 h1 with rfl | rfl | rfl | rfl | rfl | rfl | rfl | rfl | rfl | rfl | rfl | rfl | rfl | rfl | rfl | rfl
  · exact ⟨0, ⟨by rw [a_9_11]; exact ⟨rfl, lowB⟩⟩, ⟨by rw [l_9_11]; exact ⟨rfl, lowB⟩⟩⟩
  · exact ⟨0, ⟨by rw [a_9_11]; exact ⟨rfl, lowB⟩⟩, ⟨by rw [l_9_11]; exact ⟨rfl, lowB⟩⟩⟩
  · exact ⟨0, ⟨by rw [a_9_11]; exact ⟨rfl, lowB⟩⟩, ⟨by rw [l_9_11]; exact ⟨rfl, lowB⟩⟩⟩
  · exact ⟨0, ⟨by rw [a_9_11]; exact ⟨rfl, lowB⟩⟩, ⟨by rw [l_9_11]; exact ⟨rfl, lowB⟩⟩⟩
  · exact ⟨0, ⟨by rw [a_9_11]; exact ⟨rfl, lowB⟩⟩, ⟨by rw [l_9_11]; exact ⟨rfl, lowB⟩⟩⟩
  · exact ⟨0, ⟨by rw [a_9_11]; exact ⟨rfl, lowB⟩⟩, ⟨by rw [l_9_11]; exact ⟨rfl, lowB⟩⟩⟩
  · exact ⟨0, ⟨by rw [a_9_11]; exact ⟨rfl, lowB⟩⟩, ⟨by rw [l_9_11]; exact ⟨rfl, lowB⟩⟩⟩
  · exact ⟨0, ⟨by rw [a_9_11]; exact ⟨rfl, lowB⟩⟩, ⟨by rw [l_9_11]; exact ⟨rfl, lowB⟩⟩⟩
  · exact ⟨0, ⟨by rw [a_9_11]; exact ⟨rfl, lowB⟩⟩, ⟨by rw [l_9_11]; exact ⟨rfl, lowB⟩⟩⟩
  · exact ⟨0, ⟨by rw [a_9_11]; exact ⟨rfl, lowB⟩⟩, ⟨by rw [l_9_11]; exact ⟨rfl, lowB⟩⟩⟩
  · exact ⟨0, ⟨by rw [a_9_11]; exact ⟨rfl, lowB⟩⟩, ⟨by rw [l_9_11]; exact ⟨rfl, lowB⟩⟩⟩
  · exact ⟨0, ⟨by rw [a_9_11]; exact ⟨rfl, lowB⟩⟩, ⟨by rw [l_9_11]; exact ⟨rfl, lowB⟩⟩⟩
  · exact ⟨0, ⟨by rw [a_9_11]; exact ⟨rfl, lowB⟩⟩, ⟨by rw [l_9_11]; exact ⟨rfl, lowB⟩⟩⟩
  · exact ⟨0, ⟨by rw [a_9_11]; exact ⟨rfl, lowB⟩⟩, ⟨by rw [l_9_11]; exact ⟨rfl, lowB⟩⟩⟩
  · exact ⟨0, ⟨by rw [a_9_11]; exact ⟨rfl, lowB⟩⟩, ⟨by rw [l_9_11]; exact ⟨rfl, lowB⟩⟩⟩
  · exact ⟨0, ⟨by rw [a_9_11]; exact ⟨rfl, lowB⟩⟩, ⟨by rw [l_9_11]; exact ⟨rfl, lowB⟩⟩⟩
theorem ag_9_12 {y : Int} (h0 : 0 ≤ y) (h1 : y < 16) : Agree (envP 285 [] []) 7 8 [.string ⟨#[45]⟩, .int .i64 12, .int .i64 y] := by
  rcases up16 h0 h1 with rfl | rfl | rfl | rfl | rfl | rfl | rfl | rfl | rfl | rfl | rfl | rfl | rfl | rfl | rfl | rfl
  · exact ⟨0, ⟨by rw [a_9_12]; exact ⟨rfl, lowB⟩⟩, ⟨by rw [l_9_12]; exact ⟨rfl, lowB⟩⟩⟩
  · exact ⟨0, ⟨by rw [a_9_12]; exact ⟨rfl, lowB⟩⟩, ⟨by rw [l_9_12]; exact ⟨rfl, lowB⟩⟩⟩
  · exact ⟨0, ⟨by rw [a_9_12]; exact ⟨rfl, lowB⟩⟩, ⟨by rw [l_9_12]; exact ⟨rfl, lowB⟩⟩⟩
  · exact ⟨0, ⟨by rw [a_9_12]; exact ⟨rfl, lowB⟩⟩, ⟨by rw [l_9_12]; exact ⟨rfl, lowB⟩⟩⟩
  · exact ⟨0, ⟨by rw [a_9_12]; exact ⟨rfl, lowB⟩⟩, ⟨by rw [l_9_12]; exact ⟨rfl, lowB⟩⟩⟩
  · exact ⟨0, ⟨by rw [a_9_12]; exact ⟨rfl, lowB⟩⟩, ⟨by rw [l_9_12]; exact ⟨rfl, lowB⟩⟩⟩
  · exact ⟨0, ⟨by rw [a_9_12]; exact ⟨rfl, lowB⟩⟩, ⟨by rw [l_9_12]; exact ⟨rfl, lowB⟩⟩⟩
  · exact ⟨0, ⟨by rw [a_9_12]; exact ⟨rfl, lowB⟩⟩, ⟨by rw [l_9_12]; exact ⟨rfl, lowB⟩⟩⟩
  · exact ⟨0, ⟨by rw [a_9_12]; exact ⟨rfl, lowB⟩⟩, ⟨by rw [l_9_12]; exact ⟨rfl, lowB⟩⟩⟩
  · exact ⟨0, ⟨by rw [a_9_12]; exact ⟨rfl, lowB⟩⟩, ⟨by rw [l_9_12]; exact ⟨rfl, lowB⟩⟩⟩
  · exact ⟨0, ⟨by rw [a_9_12]; exact ⟨rfl, lowB⟩⟩, ⟨by rw [l_9_12]; exact ⟨rfl, lowB⟩⟩⟩
  · exact ⟨0, ⟨by rw [a_9_12]; exact ⟨rfl, lowB⟩⟩, ⟨by rw [l_9_12]; exact ⟨rfl, lowB⟩⟩⟩
  · exact ⟨0, ⟨by rw [a_9_12]; exact ⟨rfl, lowB⟩⟩, ⟨by rw [l_9_12]; exact ⟨rfl, lowB⟩⟩⟩
  · exact ⟨0, ⟨by rw [a_9_12]; exact ⟨rfl, lowB⟩⟩, ⟨by rw [l_9_12]; exact ⟨rfl, lowB⟩⟩⟩
  · exact ⟨0, ⟨by rw [a_9_12]; exact ⟨rfl, lowB⟩⟩, ⟨by rw [l_9_12]; exact ⟨rfl, lowB⟩⟩⟩
  · exact ⟨0, ⟨by rw [a_9_12]; exact ⟨rfl, lowB⟩⟩, ⟨by rw [l_9_12]; exact ⟨rfl, lowB⟩⟩⟩
theorem ag_9_13 {y : Int} (h0 : 0 ≤ y) (h1 : y < 16) : Agree (envP 285 [] []) 7 8 [.string ⟨#[45]⟩, .int .i64 13, .int .i64 y] := by
  rcases up16 h0 h1 with rfl | rfl | rfl | rfl | rfl | rfl | rfl | rfl | rfl | rfl | rfl | rfl | rfl | rfl | rfl | rfl
  · exact ⟨0, ⟨by rw [a_9_13]; exact ⟨rfl, lowB⟩⟩, ⟨by rw [l_9_13]; exact ⟨rfl, lowB⟩⟩⟩
  · exact ⟨0, ⟨by rw [a_9_13]; exact ⟨rfl, lowB⟩⟩, ⟨by rw [l_9_13]; exact ⟨rfl, lowB⟩⟩⟩
  · exact ⟨0, ⟨by rw [a_9_13]; exact ⟨rfl, lowB⟩⟩, ⟨by rw [l_9_13]; exact ⟨rfl, lowB⟩⟩⟩
  · exact ⟨0, ⟨by rw [a_9_13]; exact ⟨rfl, lowB⟩⟩, ⟨by rw [l_9_13]; exact ⟨rfl, lowB⟩⟩⟩
  · exact ⟨0, ⟨by rw [a_9_13]; exact ⟨rfl, lowB⟩⟩, ⟨by rw [l_9_13]; exact ⟨rfl, lowB⟩⟩⟩
  · exact ⟨0, ⟨by rw [a_9_13]; exact ⟨rfl, lowB⟩⟩, ⟨by rw [l_9_13]; exact ⟨rfl, lowB⟩⟩⟩
  · exact ⟨0, ⟨by rw [a_9_13]; exact ⟨rfl, lowB⟩⟩, ⟨by rw [l_9_13]; exact ⟨rfl, lowB⟩⟩⟩
  · exact ⟨0, ⟨by rw [a_9_13]; exact ⟨rfl, lowB⟩⟩, ⟨by rw [l_9_13]; exact ⟨rfl, lowB⟩⟩⟩
  · exact ⟨0, ⟨by rw [a_9_13]; exact ⟨rfl, lowB⟩⟩, ⟨by rw [l_9_13]; exact ⟨rfl, lowB⟩⟩⟩
  · exact ⟨0, ⟨by rw [a_9_13]; exact ⟨rfl, lowB⟩⟩, ⟨by rw [l_9_13]; exact ⟨rfl, lowB⟩⟩⟩
  · exact ⟨0, ⟨by rw [a_9_13]; exact ⟨rfl, lowB⟩⟩, ⟨by rw [l_9_13]; exact ⟨rfl, lowB⟩⟩⟩
  · exact ⟨0, ⟨by rw [a_9_13]; exact ⟨rfl, lowB⟩⟩, ⟨by rw [l_9_13]; exact ⟨rfl, lowB⟩⟩⟩
  · exact ⟨0, ⟨by rw [a_9_13]; exact ⟨rfl, lowB⟩⟩, ⟨by rw [l_9_13]; exact ⟨rfl, lowB⟩⟩⟩
  · exact ⟨0, ⟨by rw [a_9_13]; exact ⟨rfl, lowB⟩⟩, ⟨by rw [l_9_13]; exact ⟨rfl, lowB⟩⟩⟩
  · exact ⟨0, ⟨by rw [a_9_13]; exact ⟨rfl, lowB⟩⟩, ⟨by rw [l_9_13]; exact ⟨rfl, lowB⟩⟩⟩
  · exact ⟨0, ⟨by rw [a_9_13]; exact ⟨rfl, lowB⟩⟩, ⟨by rw [l_9_13]; exact ⟨rfl, lowB⟩⟩⟩
theorem ag_9_14 {y : Int} (h0 : 0 ≤ y) (h1 : y < 16) : Agree (envP 285 [] []) 7 8 [.string ⟨#[45]⟩, .int .i64 14, .int .i64 y] := by
  rcases up16 h0 h1 with rfl | rfl | rfl | rfl | rfl | rfl | rfl | rfl | rfl | rfl | rfl | rfl | rfl | rfl | rfl | rfl
  · exact ⟨0, ⟨by rw [a_9_14]; exact ⟨rfl, lowB⟩⟩, ⟨by rw [l_9_14]; exact ⟨rfl, lowB⟩⟩⟩
  · exact ⟨0, ⟨by rw [a_9_14]; exact ⟨rfl, lowB⟩⟩, ⟨by rw [l_9_14]; exact ⟨rfl, lowB⟩⟩⟩
  · exact ⟨0, ⟨by rw [a_9_14]; exact ⟨rfl, lowB⟩⟩, ⟨by rw [l_9_14]; exact ⟨rfl, lowB⟩⟩⟩
  · exact ⟨0, ⟨by rw [a_9_14]; exact ⟨rfl, lowB⟩⟩, ⟨by rw [l_9_14]; exact ⟨rfl, lowB⟩⟩⟩
  · exact ⟨0, ⟨by rw [a_9_14]; exact ⟨rfl, lowB⟩⟩, ⟨by rw [l_9_14]; exact ⟨rfl, lowB⟩⟩⟩
  · exact ⟨0, ⟨by rw [a_9_14]; exact ⟨rfl, lowB⟩⟩, ⟨by rw [l_9_14]; exact ⟨rfl, lowB⟩⟩⟩
  · exact ⟨0, ⟨by rw [a_9_14]; exact ⟨rfl, lowB⟩⟩, ⟨by rw [l_9_14]; exact ⟨rfl, lowB⟩⟩⟩
  · exact ⟨0, ⟨by rw [a_9_14]; exact ⟨rfl, lowB⟩⟩, ⟨by rw [l_9_14]; exact ⟨rfl, lowB⟩⟩⟩
  · exact ⟨0, ⟨by rw [a_9_14]; exact ⟨rfl, lowB⟩⟩, ⟨by rw [l_9_14]; exact ⟨rfl, lowB⟩⟩⟩
  · exact ⟨0, ⟨by rw [a_9_14]; exact ⟨rfl, lowB⟩⟩, ⟨by rw [l_9_14]; exact ⟨rfl, lowB⟩⟩⟩
  · exact ⟨0, ⟨by rw [a_9_14]; exact ⟨rfl, lowB⟩⟩, ⟨by rw [l_9_14]; exact ⟨rfl, lowB⟩⟩⟩
  · exact ⟨0, ⟨by rw [a_9_14]; exact ⟨rfl, lowB⟩⟩, ⟨by rw [l_9_14]; exact ⟨rfl, lowB⟩⟩⟩
  · exact ⟨0, ⟨by rw [a_9_14]; exact ⟨rfl, lowB⟩⟩, ⟨by rw [l_9_14]; exact ⟨rfl, lowB⟩⟩⟩
  · exact ⟨0, ⟨by rw [a_9_14]; exact ⟨rfl, lowB⟩⟩, ⟨by rw [l_9_14]; exact ⟨rfl, lowB⟩⟩⟩
  · exact ⟨0, ⟨by rw [a_9_14]; exact ⟨rfl, lowB⟩⟩, ⟨by rw [l_9_14]; exact ⟨rfl, lowB⟩⟩⟩
  · exact ⟨0, ⟨by rw [a_9_14]; exact ⟨rfl, lowB⟩⟩, ⟨by rw [l_9_14]; exact ⟨rfl, lowB⟩⟩⟩
theorem ag_9_15 {y : Int} (h0 : 0 ≤ y) (h1 : y < 16) : Agree (envP 285 [] []) 7 8 [.string ⟨#[45]⟩, .int .i64 15, .int .i64 y] := by
  rcases up16 h0 h1 with rfl | rfl | rfl | rfl | rfl | rfl | rfl | rfl | rfl | rfl | rfl | rfl | rfl | rfl | rfl | rfl
  · exact ⟨0, ⟨by rw [a_9_15]; exact ⟨rfl, lowB⟩⟩, ⟨by rw [l_9_15]; exact ⟨rfl, lowB⟩⟩⟩
  · exact ⟨0, ⟨by rw [a_9_15]; exact ⟨rfl, lowB⟩⟩, ⟨by rw [l_9_15]; exact ⟨rfl, lowB⟩⟩⟩
  · exact ⟨0, ⟨by rw [a_9_15]; exact ⟨rfl, lowB⟩⟩, ⟨by rw [l_9_15]; exact ⟨rfl, lowB⟩⟩⟩
  · exact ⟨0, ⟨by rw [a_9_15]; exact ⟨rfl, lowB⟩⟩, ⟨by rw [l_9_15]; exact ⟨rfl, lowB⟩⟩⟩
  · exact ⟨0, ⟨by rw [a_9_15]; exact ⟨rfl, lowB⟩⟩, ⟨by rw [l_9_15]; exact ⟨rfl, lowB⟩⟩⟩
  · exact ⟨0, ⟨by rw [a_9_15]; exact ⟨rfl, lowB⟩⟩, ⟨by rw [l_9_15]; exact ⟨rfl, lowB⟩⟩⟩
  · exact ⟨0, ⟨by rw [a_9_15]; exact ⟨rfl, lowB⟩⟩, ⟨by rw [l_9_15]; exact ⟨rfl, lowB⟩⟩⟩
  · exact ⟨0, ⟨by rw [a_9_15]; exact ⟨rfl, lowB⟩⟩, ⟨by rw [l_9_15]; exact ⟨rfl, lowB⟩⟩⟩
  · exact ⟨0, ⟨by rw [a_9_15]; exact ⟨rfl, lowB⟩⟩, ⟨by rw [l_9_15]; exact ⟨rfl, lowB⟩⟩⟩
  · exact ⟨0, ⟨by rw [a_9_15]; exact ⟨rfl, lowB⟩⟩, ⟨by rw [l_9_15]; exact ⟨rfl, lowB⟩⟩⟩
  · exact ⟨0, ⟨by rw [a_9_15]; exact ⟨rfl, lowB⟩⟩, ⟨by rw [l_9_15]; exact ⟨rfl, lowB⟩⟩⟩
  · exact ⟨0, ⟨by rw [a_9_15]; exact ⟨rfl, lowB⟩⟩, ⟨by rw [l_9_15]; exact ⟨rfl, lowB⟩⟩⟩
  · exact ⟨0, ⟨by rw [a_9_15]; exact ⟨rfl, lowB⟩⟩, ⟨by rw [l_9_15]; exact ⟨rfl, lowB⟩⟩⟩
  · exact ⟨0, ⟨by rw [a_9_15]; exact ⟨rfl, lowB⟩⟩, ⟨by rw [l_9_15]; exact ⟨rfl, lowB⟩⟩⟩
  · exact ⟨0, ⟨by rw [a_9_15]; exact ⟨rfl, lowB⟩⟩, ⟨by rw [l_9_15]; exact ⟨rfl, lowB⟩⟩⟩
  · exact ⟨0, ⟨by rw [a_9_15]; exact ⟨rfl, lowB⟩⟩, ⟨by rw [l_9_15]; exact ⟨rfl, lowB⟩⟩⟩
theorem ag_9 {x y : Int} (g0 : 0 ≤ x) (g1 : x < 16) (h0 : 0 ≤ y) (h1 : y < 16) : Agree (envP 285 [] []) 7 8 [.string ⟨#[45]⟩, .int .i64 x, .int .i64 y] := by
  rcases up16 g0 g1 with rfl | rfl | rfl | rfl | rfl | rfl | rfl | rfl | rfl | rfl | rfl | rfl | rfl | rfl | rfl | rfl
  · exact ag_9_0 h0 h1
  · exact ag_9_1 h0 h1
  · exact ag_9_2 h0 h1
  · exact ag_9_3 h0 h1
  · exact ag_9_4 h0 h1
  · exact ag_9_5 h0 h1
  · exact ag_9_6 h0 h1
  · exact ag_9_7 h0 h1
  · exact ag_9_8 h0 h1
  · exact ag_9_9 h0 h1
  · exact ag_9_10 h0 h1
  · exact ag_9_11 h0 h1
  · exact ag_9_12 h0 h1
  · exact ag_9_13 h0 h1
  · exact ag_9_14 h0 h1
  · exact ag_9_15 h0 h1
theorem ag_10_0 {y : Int} (h0 : 0 ≤ y) (h1 : y < 16) : Agree (envP 285 [] []) 7 8 [.string ⟨#[42]⟩, .int .i64 0, .int .i64 y] := by
  rcases up16 h0 h1 with rfl | rfl | rfl | rfl | rfl | rfl | rfl | rfl | rfl | rfl | rfl | rfl | rfl | rfl | rfl | rfl
  · exact ⟨0, ⟨by rw [a_10_0]; exact ⟨rfl, lowB⟩⟩, ⟨by rw [l_10_0]; exact ⟨rfl, lowB⟩⟩⟩
  · exact ⟨0, ⟨by rw [a_10_0]; exact ⟨rfl, lowB⟩⟩, ⟨by rw [l_10_0]; exact ⟨rfl, lowB⟩⟩⟩
  · exact ⟨0, ⟨by rw [a_10_0]; exact ⟨rfl, lowB⟩⟩, ⟨by rw [l_10_0]; exact ⟨rfl, lowB⟩⟩⟩
  · exact ⟨0, ⟨by rw [a_10_0]; exact ⟨rfl, lowB⟩⟩, ⟨by rw [l_10_0]; exact ⟨rfl, lowB⟩⟩⟩
  · exact ⟨0, ⟨by rw [a_10_0]; exact ⟨rfl, lowB⟩⟩, ⟨by rw [l_10_0]; exact ⟨rfl, lowB⟩⟩⟩
  · exact ⟨0, ⟨by rw [a_10_0]; exact ⟨rfl, lowB⟩⟩, ⟨by rw [l_10_0]; exact ⟨rfl, lowB⟩⟩⟩
  · exact ⟨0, ⟨by rw [a_10_0]; exact ⟨rfl, lowB⟩⟩, ⟨by rw [l_10_0]; exact ⟨rfl, lowB⟩⟩⟩
  · exact ⟨0, ⟨by rw [a_10_0]; exact ⟨rfl, lowB⟩⟩, ⟨by rw [l_10_0]; exact ⟨rfl, lowB⟩⟩⟩
  · exact ⟨0, ⟨by rw [a_10_0]; exact ⟨rfl, lowB⟩⟩, ⟨by rw [l_10_0]; exact ⟨rfl, lowB⟩⟩⟩
  · exact ⟨0, ⟨by rw [a_10_0]; exact ⟨rfl, lowB⟩⟩, ⟨by rw [l_10_0]; exact ⟨rfl, lowB⟩⟩⟩
  · exact ⟨0, ⟨by rw [a_10_0]; exact ⟨rfl, lowB⟩⟩, ⟨by rw [l_10_0]; exact ⟨rfl, lowB⟩⟩⟩
  · exact ⟨0, ⟨by rw [a_10_0]; exact ⟨rfl, lowB⟩⟩, ⟨by rw [l_10_0]; exact ⟨rfl, lowB⟩⟩⟩
  · exact ⟨0, ⟨by rw [a_10_0]; exact ⟨rfl, lowB⟩⟩, ⟨by rw [l_10_0]; exact ⟨rfl, lowB⟩⟩⟩
  · exact ⟨0, ⟨by rw [a_10_0]; exact ⟨rfl, lowB⟩⟩, ⟨by rw [l_10_0]; exact ⟨rfl, lowB⟩⟩⟩
  · exact ⟨0, ⟨by rw [a_10_0]; exact ⟨rfl, lowB⟩⟩, ⟨by rw [l_10_0]; exact ⟨rfl, lowB⟩⟩⟩
  · exact ⟨0, ⟨by rw [a_10_0]; exact ⟨rfl, lowB⟩⟩, ⟨by rw [l_10_0]; exact ⟨rfl, lowB⟩⟩⟩
theorem ag_10_1 {y : Int} (h0 : 0 ≤ y) (h1 : y < 16) : Agree (envP 285 [] []) 7 8 [.string ⟨#[42]⟩, .int .i64 1, .int .i64 y] := by
  rcases up16 h0 h1 with rfl | rfl | rfl | rfl | rfl | rfl | rfl | rfl | rfl | rfl | rfl | rfl | rfl | rfl | rfl | rfl
  · exact ⟨0, ⟨by rw [a_10_1]; exact ⟨rfl, lowB⟩⟩, ⟨by rw [l_10_1]; exact ⟨rfl, lowB⟩⟩⟩
  · exact ⟨0, ⟨by rw [a_10_1]; exact ⟨rfl, lowB⟩⟩, ⟨by rw [l_10_1]; exact ⟨rfl, lowB⟩⟩⟩
  · exact ⟨0, ⟨by rw [a_10_1]; exact ⟨rfl, lowB⟩⟩, ⟨by rw [l_10_1]; exact ⟨rfl, lowB⟩⟩⟩
  · exact ⟨0, ⟨by rw [a_10_1]; exact ⟨rfl, lowB⟩⟩, ⟨by rw [l_10_1]; exact ⟨rfl, lowB⟩⟩⟩
  · exact ⟨0, ⟨by rw [a_10_1]; exact ⟨rfl, lowB⟩⟩, ⟨by rw [l_10_1]; exact ⟨rfl, lowB⟩⟩⟩
  · exact ⟨0, ⟨by rw [a_10_1]; exact ⟨rfl, lowB⟩⟩, ⟨by rw [l_10_1]; exact ⟨rfl, lowB⟩⟩⟩
  · exact ⟨0, ⟨by rw [a_10_1]; exact ⟨rfl, lowB⟩⟩, ⟨by rw [l_10_1]; exact ⟨rfl, lowB⟩⟩⟩
  · exact ⟨0, ⟨by rw [a_10_1]; exact ⟨rfl, lowB⟩⟩, ⟨by rw [l_10_1]; exact ⟨rfl, lowB⟩⟩⟩
  · exact ⟨0, ⟨by rw [a_10_1]; exact ⟨rfl, lowB⟩⟩, ⟨by rw [l_10_1]; exact ⟨rfl, lowB⟩⟩⟩
  · exact ⟨0, ⟨by rw [a_10_1]; exact ⟨rfl, lowB⟩⟩, ⟨by rw [l_10_1]; exact ⟨rfl, lowB⟩⟩⟩
  · exact ⟨0, ⟨by rw [a_10_1]; exact ⟨rfl, lowB⟩⟩, ⟨by rw [l_10_1]; exact ⟨rfl, lowB⟩⟩⟩
  · exact ⟨0, ⟨by rw [a_10_1]; exact ⟨rfl, lowB⟩⟩, ⟨by rw [l_10_1]; exact ⟨rfl, lowB⟩⟩⟩
  · exact ⟨0, ⟨by rw [a_10_1]; exact ⟨rfl, lowB⟩⟩, ⟨by rw [l_10_1]; exact ⟨rfl, lowB⟩⟩⟩
  · exact ⟨0, ⟨by rw [a_10_1]; exact ⟨rfl, lowB⟩⟩, ⟨by rw [l_10_1]; exact ⟨rfl, lowB⟩⟩⟩
  · exact ⟨0, ⟨by rw [a_10_1]; exact ⟨rfl, lowB⟩⟩, ⟨by rw [l_10_1]; exact ⟨rfl, lowB⟩⟩⟩
  · exact ⟨0, ⟨by rw [a_10_1]; exact ⟨rfl, lowB⟩⟩, ⟨by rw [l_10_1]; exact ⟨rfl, lowB⟩⟩⟩
theorem ag_10_2 {y : Int} (h0 : 0 ≤ y) (h1 : y < 16) : Agree (envP 285 [] []) 7 8 [.string ⟨#[42]⟩, .int .i64 2, .int .i64 y] := by
  rcases up16 h0 h1 with rfl | rfl | rfl | rfl | rfl | rfl | rfl | rfl | rfl | rfl | rfl | rfl | rfl | rfl | rfl | rfl
  · exact ⟨0, ⟨by rw [a_10_2]; exact ⟨rfl, lowB⟩⟩, ⟨by rw [l_10_2]; exact ⟨rfl, lowB⟩⟩⟩
  · exact ⟨0, ⟨by rw [a_10_2]; exact ⟨rfl, lowB⟩⟩, ⟨by rw [l_10_2]; exact ⟨rfl, lowB⟩⟩⟩
  · exact ⟨0, ⟨by rw [a_10_2]; exact ⟨rfl, lowB⟩⟩, ⟨by rw [l_10_2]; exact ⟨rfl, lowB⟩⟩⟩
  · exact ⟨0, ⟨by rw [a_10_2]; exact ⟨rfl, lowB⟩⟩, ⟨by rw [l_10_2]; exact ⟨rfl, lowB⟩⟩⟩
  · exact ⟨0, ⟨by rw [a_10_2]; exact ⟨rfl, lowB⟩⟩, ⟨by rw [l_10_2]; exact ⟨rfl, lowB⟩⟩⟩
  · exact ⟨0, ⟨by rw [a_10_2]; exact ⟨rfl, lowB⟩⟩, ⟨by rw [l_10_2]; exact ⟨rfl, lowB⟩⟩⟩
  · exact ⟨0, ⟨by rw [a_10_2]; exact ⟨rfl, lowB⟩⟩, ⟨by rw [l_10_2]; exact ⟨rfl, lowB⟩⟩⟩
  · exact ⟨0, ⟨by rw [a_10_2]; exact ⟨rfl, lowB⟩⟩, ⟨by rw [l_10_2]; exact ⟨rfl, lowB⟩⟩⟩
  · exact ⟨0, ⟨by rw [a_10_2]; exact ⟨rfl, lowB⟩⟩, ⟨by rw [l_10_2]; exact ⟨rfl, lowB⟩⟩⟩
  · exact ⟨0, ⟨by rw [a_10_2]; exact ⟨rfl, lowB⟩⟩, ⟨by rw [l_10_2]; exact ⟨rfl, lowB⟩⟩⟩
  · exact ⟨0, ⟨by rw [a_10_2]; exact ⟨rfl, lowB⟩⟩, ⟨by rw [l_10_2]; exact ⟨rfl, lowB⟩⟩⟩
  · exact ⟨0, ⟨by rw [a_10_2]; exact ⟨rfl, lowB⟩⟩, ⟨by rw [l_10_2]; exact ⟨rfl, lowB⟩⟩⟩
  · exact ⟨0, ⟨by rw [a_10_2]; exact ⟨rfl, lowB⟩⟩, ⟨by rw [l_10_2]; exact ⟨rfl, lowB⟩⟩⟩
  · exact ⟨0, ⟨by rw [a_10_2]; exact ⟨rfl, lowB⟩⟩, ⟨by rw [l_10_2]; exact ⟨rfl, lowB⟩⟩⟩
  · exact ⟨0, ⟨by rw [a_10_2]; exact ⟨rfl, lowB⟩⟩, ⟨by rw [l_10_2]; exact ⟨rfl, lowB⟩⟩⟩
  · exact ⟨0, ⟨by rw [a_10_2]; exact ⟨rfl, lowB⟩⟩, ⟨by rw [l_10_2]; exact ⟨rfl, lowB⟩⟩⟩
theorem ag_10_3 {y : Int} (h0 : 0 ≤ y) (h1 : y < 16) : Agree (envP 285 [] []) 7 8 [.string ⟨#[42]⟩, .int .i64 3, .int .i64 y] := by
  rcases up16 h0 h1 with rfl | rfl | rfl | rfl | rfl | rfl | rfl | rfl | rfl | rfl | rfl | rfl | rfl | rfl | rfl | rfl
  · exact ⟨0, ⟨by rw [a_10_3]; exact ⟨rfl, lowB⟩⟩, ⟨by rw [l_10_3]; exact ⟨rfl, lowB⟩⟩⟩
  · exact ⟨0, ⟨by rw [a_10_3]; exact ⟨rfl, lowB⟩⟩, ⟨by rw [l_10_3]; exact ⟨rfl, lowB⟩⟩⟩
  · exact ⟨0, ⟨by rw [a_10_3]; exact ⟨rfl, lowB⟩⟩, ⟨by rw [l_10_3]; exact ⟨rfl, lowB⟩⟩⟩
  · exact ⟨3, ⟨by rw [a_10_3]; exact ⟨rfl, lowB⟩⟩, ⟨by rw [l_10_3]; exact ⟨rfl, lowB⟩⟩⟩
  · exact ⟨0, ⟨by rw [a_10_3]; exact ⟨rfl, lowB⟩⟩, ⟨by rw [l_10_3]; exact ⟨rfl, lowB⟩⟩⟩
  · exact ⟨0, ⟨by rw [a_10_3]; exact ⟨rfl, lowB⟩⟩, ⟨by rw [l_10_3]; exact ⟨rfl, lowB⟩⟩⟩
  · exact ⟨0, ⟨by rw [a_10_3]; exact ⟨rfl, lowB⟩⟩, ⟨by rw [l_10_3]; exact ⟨rfl, lowB⟩⟩⟩
  · exact ⟨0, ⟨by rw [a_10_3]; exact ⟨rfl, lowB⟩⟩, ⟨by rw [l_10_3]; exact ⟨rfl, lowB⟩⟩⟩
  · exact ⟨8, ⟨by rw [a_10_3]; exact ⟨rfl, lowB⟩⟩, ⟨by rw [l_10_3]; exact ⟨rfl, lowB⟩⟩⟩
  · exact ⟨9, ⟨by rw [a_10_3]; exact ⟨rfl, lowB⟩⟩, ⟨by rw [l_10_3]; exact ⟨rfl, lowB⟩⟩⟩
  · exact ⟨0, ⟨by rw [a_10_3]; exact ⟨rfl, lowB⟩⟩, ⟨by rw [l_10_3]; exact ⟨rfl, lowB⟩⟩⟩
  · exact ⟨0, ⟨by rw [a_10_3]; exact ⟨rfl, lowB⟩⟩, ⟨by rw [l_10_3]; exact ⟨rfl, lowB⟩⟩⟩
  · exact ⟨0, ⟨by rw [a_10_3]; exact ⟨rfl, lowB⟩⟩, ⟨by rw [l_10_3]; exact ⟨rfl, lowB⟩⟩⟩
  · exact ⟨0, ⟨by rw [a_10_3]; exact ⟨rfl, lowB⟩⟩, ⟨by rw [l_10_3]; exact ⟨rfl, lowB⟩⟩⟩
  · exact ⟨0, ⟨by rw [a_10_3]; exact ⟨rfl, lowB⟩⟩, ⟨by rw [l_10_3]; exact ⟨rfl, lowB⟩⟩⟩
  · exact ⟨0, ⟨by rw [a_10_3]; exact ⟨rfl, lowB⟩⟩, ⟨by rw [l_10_3]; exact ⟨rfl, lowB⟩⟩⟩
theorem ag_10_4 {y : Int} (h0 : 0 ≤ y) (h1 : y < 16) : Agree (envP 285 [] []) 7 8 [.string ⟨#[42]⟩, .int .i64 4, .int .i64 y] := by
  rcases up16 h0 h1 with rfl | rfl | rfl | rfl | rfl | rfl | rfl | rfl | rfl | rfl | rfl | rfl | rfl | rfl | rfl | rfl
  · exact ⟨0, ⟨by rw [a_10_4]; exact ⟨rfl, lowB⟩⟩, ⟨by rw [l_10_4]; exact ⟨rfl, lowB⟩⟩⟩
  · exact ⟨0, ⟨by rw [a_10_4]; exact ⟨rfl, lowB⟩⟩, ⟨by rw [l_10_4]; exact ⟨rfl, lowB⟩⟩⟩
  · exact ⟨0, ⟨by rw [a_10_4]; exact ⟨rfl, lowB⟩⟩, ⟨by rw [l_10_4]; exact ⟨rfl, lowB⟩⟩⟩
  · exact ⟨0, ⟨by rw [a_10_4]; exact ⟨rfl, lowB⟩⟩, ⟨by rw [l_10_4]; exact ⟨rfl, lowB⟩⟩⟩
  · exact ⟨0, ⟨by rw [a_10_4]; exact ⟨rfl, lowB⟩⟩, ⟨by rw [l_10_4]; exact ⟨rfl, lowB⟩⟩⟩
  · exact ⟨0, ⟨by rw [a_10_4]; exact ⟨rfl, lowB⟩⟩, ⟨by rw [l_10_4]; exact ⟨rfl, lowB⟩⟩⟩
  · exact ⟨0, ⟨by rw [a_10_4]; exact ⟨rfl, lowB⟩⟩, ⟨by rw [l_10_4]; exact ⟨rfl, lowB⟩⟩⟩
  · exact ⟨0, ⟨by rw [a_10_4]; exact ⟨rfl, lowB⟩⟩, ⟨by rw [l_10_4]; exact ⟨rfl, lowB⟩⟩⟩
  · exact ⟨0, ⟨by rw [a_10_4]; exact ⟨rfl, lowB⟩⟩, ⟨by rw [l_10_4]; exact ⟨rfl, lowB⟩⟩⟩
  · exact ⟨0, ⟨by rw [a_10_4]; exact ⟨rfl, lowB⟩⟩, ⟨by rw [l_10_4]; exact ⟨rfl, lowB⟩⟩⟩
  · exact ⟨0, ⟨by rw [a_10_4]; exact ⟨rfl, lowB⟩⟩, ⟨by rw [l_10_4]; exact ⟨rfl, lowB⟩⟩⟩
  · exact ⟨0, ⟨by rw [a_10_4]; exact ⟨rfl, lowB⟩⟩, ⟨by rw [l_10_4]; exact ⟨rfl, lowB⟩⟩⟩
  · exact ⟨0, ⟨by rw [a_10_4]; exact ⟨rfl, lowB⟩⟩, ⟨by rw [l_10_4]; exact ⟨rfl, lowB⟩⟩⟩
  · exact ⟨0, ⟨by rw [a_10_4]; exact ⟨rfl, lowB⟩⟩, ⟨by rw [l_10_4]; exact ⟨rfl, lowB⟩⟩⟩
  · exact ⟨0, ⟨by rw [a_10_4]; exact ⟨rfl, lowB⟩⟩, ⟨by rw [l_10_4]; exact ⟨rfl, lowB⟩⟩⟩
  · exact ⟨0, ⟨by rw [a_10_4]; exact ⟨rfl, lowB⟩⟩, ⟨by rw [l_10_4]; exact ⟨rfl, lowB⟩⟩⟩
theorem ag_10_5 {y : Int} (h0 : 0 ≤ y) (h1 : y < 16) : Agree (envP 285 [] []) 7 8 [.string ⟨#[42]⟩, .int .i64 5, .int .i64 y] := by
  rcases up16 h0 h1 with rfl | rfl | rfl | rfl | rfl | rfl | rfl | rfl | rfl | rfl | rfl | rfl | rfl | rfl | rfl | rfl
  · exact ⟨0, ⟨by rw [a_10_5]; exact ⟨rfl, lowB⟩⟩, ⟨by rw [l_10_5]; exact ⟨rfl, lowB⟩⟩⟩
  · exact ⟨0, ⟨by rw [a_10_5]; exact ⟨rfl, lowB⟩⟩, ⟨by rw [l_10_5]; exact ⟨rfl, lowB⟩⟩⟩
  · exact ⟨0, ⟨by rw [a_10_5]; exact ⟨rfl, lowB⟩⟩, ⟨by rw [l_10_5]; exact ⟨rfl, lowB⟩⟩⟩
  · exact ⟨0, ⟨by rw [a_10_5]; exact ⟨rfl, lowB⟩⟩, ⟨by rw [l_10_5]; exact ⟨rfl, lowB⟩⟩⟩
  · exact ⟨0, ⟨by rw [a_10_5]; exact ⟨rfl, lowB⟩⟩, ⟨by rw [l_10_5]; exact ⟨rfl, lowB⟩⟩⟩
  · exact ⟨0, ⟨by rw [a_10_5]; exact ⟨rfl, lowB⟩⟩, ⟨by rw [l_10_5]; exact ⟨rfl, lowB⟩⟩⟩
  · exact ⟨0, ⟨by rw [a_10_5]; exact ⟨rfl, lowB⟩⟩, ⟨by rw [l_10_5]; exact ⟨rfl, lowB⟩⟩⟩
  · exact ⟨0, ⟨by rw [a_10_5]; exact ⟨rfl, lowB⟩⟩, ⟨by rw [l_10_5]; exact ⟨rfl, lowB⟩⟩⟩
  · exact ⟨0, ⟨by rw [a_10_5]; exact ⟨rfl, lowB⟩⟩, ⟨by rw [l_10_5]; exact ⟨rfl, lowB⟩⟩⟩
  · exact ⟨0, ⟨by rw [a_10_5]; exact ⟨rfl, lowB⟩⟩, ⟨by rw [l_10_5]; exact ⟨rfl, lowB⟩⟩⟩
  · exact ⟨0, ⟨by rw [a_10_5]; exact ⟨rfl, lowB⟩⟩, ⟨by rw [l_10_5]; exact ⟨rfl, lowB⟩⟩⟩
  · exact ⟨0, ⟨by rw [a_10_5]; exact ⟨rfl, lowB⟩⟩, ⟨by rw [l_10_5]; exact ⟨rfl, lowB⟩⟩⟩
  · exact ⟨0, ⟨by rw [a_10_5]; exact ⟨rfl, lowB⟩⟩, ⟨by rw [l_10_5]; exact ⟨rfl, lowB⟩⟩⟩
  · exact ⟨0, ⟨by rw [a_10_5]; exact ⟨rfl, lowB⟩⟩, ⟨by rw [l_10_5]; exact ⟨rfl, lowB⟩⟩⟩
  · exact ⟨0, ⟨by rw [a_10_5]; exact ⟨rfl, lowB⟩⟩, ⟨by rw [l_10_5]; exact ⟨rfl, lowB⟩⟩⟩
  · exact ⟨0, ⟨by rw [a_10_5]; exact ⟨rfl, lowB⟩⟩, ⟨by rw [l_10_5]; exact ⟨rfl, lowB⟩⟩⟩
theorem ag_10_6 {y : Int} (h0 : 0 ≤ y) (h1 : y < 16) : Agree (envP 285 [] []) 7 8 [.string ⟨#[42]⟩, .int .i64 6, .int .i64 y] := by
  rcases up16 h0 h1 with rfl | rfl | rfl | rfl | rfl | rfl | rfl | rfl | rfl | rfl | rfl | rfl | rfl | rfl | rfl | rfl
  · exact ⟨0, ⟨by rw [a_10_6]; exact ⟨rfl, lowB⟩⟩, ⟨by rw [l_10_6]; exact ⟨rfl, lowB⟩⟩⟩
  · exact ⟨0, ⟨by rw [a_10_6]; exact ⟨rfl, lowB⟩⟩, ⟨by rw [l_10_6]; exact ⟨rfl, lowB⟩⟩⟩
  · exact ⟨0, ⟨by rw [a_10_6]; exact ⟨rfl, lowB⟩⟩, ⟨by rw [l_10_6]; exact ⟨rfl, lowB⟩⟩⟩
  · exact ⟨0, ⟨by rw [a_10_6]; exact ⟨rfl, lowB⟩⟩, ⟨by rw [l_10_6]; exact ⟨rfl, lowB⟩⟩⟩
  · exact ⟨0, ⟨by rw [a_10_6]; exact ⟨rfl, lowB⟩⟩, ⟨by rw [l_10_6]; exact ⟨rfl, lowB⟩⟩⟩
  · exact ⟨0, ⟨by rw [a_10_6]; exact ⟨rfl, lowB⟩⟩, ⟨by rw [l_10_6]; exact ⟨rfl, lowB⟩⟩⟩
  · exact ⟨0, ⟨by rw [a_10_6]; exact ⟨rfl, lowB⟩⟩, ⟨by rw [l_10_6]; exact ⟨rfl, lowB⟩⟩⟩
  · exact ⟨0, ⟨by rw [a_10_6]; exact ⟨rfl, lowB⟩⟩, ⟨by rw [l_10_6]; exact ⟨rfl, lowB⟩⟩⟩
  · exact ⟨0, ⟨by rw [a_10_6]; exact ⟨rfl, lowB⟩⟩, ⟨by rw [l_10_6]; exact ⟨rfl, lowB⟩⟩⟩
  · exact ⟨0, ⟨by rw [a_10_6]; exact ⟨rfl, lowB⟩⟩, ⟨by rw [l_10_6]; exact ⟨rfl, lowB⟩⟩⟩
  · exact ⟨0, ⟨by rw [a_10_6]; exact ⟨rfl, lowB⟩⟩, ⟨by rw [l_10_6]; exact ⟨rfl, lowB⟩⟩⟩
  · exact ⟨0, ⟨by rw [a_10_6]; exact ⟨rfl, lowB⟩⟩, ⟨by rw [l_10_6]; exact ⟨rfl, lowB⟩⟩⟩
  · exact ⟨0, ⟨by rw [a_10_6]; exact ⟨rfl, lowB⟩⟩, ⟨by rw [l_10_6]; exact ⟨rfl, lowB⟩⟩⟩
  · exact ⟨0, ⟨by rw [a_10_6]; exact ⟨rfl, lowB⟩⟩, ⟨by rw [l_10_6]; exact ⟨rfl, lowB⟩⟩⟩
  · exact ⟨0, ⟨by rw [a_10_6]; exact ⟨rfl, lowB⟩⟩, ⟨by rw [l_10_6]; exact ⟨rfl, lowB⟩⟩⟩
  · exact ⟨0, ⟨by rw [a_10_6]; exact ⟨rfl, lowB⟩⟩, ⟨by rw [l_10_6]; exact ⟨rfl, lowB⟩⟩⟩
theorem ag_10_7 {y : Int} (h0 : 0 ≤ y) (h1 : y < 16) : Agree (envP 285 [] []) 7 8 [.string ⟨#[42]⟩, .int .i64 7, .int .i64 y] := by
  rcases up16 h0 h1 with rfl | rfl | rfl | rfl | rfl | rfl | rfl | rfl | rfl | rfl | rfl | rfl | rfl | rfl | rfl | rfl
  · exact ⟨0, ⟨by rw [a_10_7]; exact ⟨rfl, lowB⟩⟩, ⟨by rw [l_10_7]; exact ⟨rfl, lowB⟩⟩⟩
  · exact ⟨0, ⟨by rw [a_10_7]; exact ⟨rfl, lowB⟩⟩, ⟨by rw [l_10_7]; exact ⟨rfl, lowB⟩⟩⟩
  · exact ⟨0, ⟨by rw [a_10_7]; exact ⟨rfl, lowB⟩⟩, ⟨by rw [l_10_7]; exact ⟨rfl, lowB⟩⟩⟩
  · exact ⟨0, ⟨by rw [a_10_7]; exact ⟨rfl, lowB⟩⟩, ⟨by rw [l_10_7]; exact ⟨rfl, lowB⟩⟩⟩
  · exact ⟨0, ⟨by rw [a_10_7]; exact ⟨rfl, lowB⟩⟩, ⟨by rw [l_10_7]; exact ⟨rfl, lowB⟩⟩⟩
  · exact ⟨0, ⟨by rw [a_10_7]; exact ⟨rfl, lowB⟩⟩, ⟨by rw [l_10_7]; exact ⟨rfl, lowB⟩⟩⟩
  · exact ⟨0, ⟨by rw [a_10_7]; exact ⟨rfl, lowB⟩⟩, ⟨by rw [l_10_7]; exact ⟨rfl, lowB⟩⟩⟩
  · exact ⟨0, ⟨by rw [a_10_7]; exact ⟨rfl, lowB⟩⟩, ⟨by rw [l_10_7]; exact ⟨rfl, lowB⟩⟩⟩
  · exact ⟨0, ⟨by rw [a_10_7]; exact ⟨rfl, lowB⟩⟩, ⟨by rw [l_10_7]; exact ⟨rfl, lowB⟩⟩⟩
  · exact ⟨0, ⟨by rw [a_10_7]; exact ⟨rfl, lowB⟩⟩, ⟨by rw [l_10_7]; exact ⟨rfl, lowB⟩⟩⟩
  · exact ⟨0, ⟨by rw [a_10_7]; exact ⟨rfl, lowB⟩⟩, ⟨by rw [l_10_7]; exact ⟨rfl, lowB⟩⟩⟩
  · exact ⟨0, ⟨by rw [a_10_7]; exact ⟨rfl, lowB⟩⟩, ⟨by rw [l_10_7]; exact ⟨rfl, lowB⟩⟩⟩
  · exact ⟨0, ⟨by rw [a_10_7]; exact ⟨rfl, lowB⟩⟩, ⟨by rw [l_10_7]; exact ⟨rfl, lowB⟩⟩⟩
  · exact ⟨0, ⟨by rw [a_10_7]; exact ⟨rfl, lowB⟩⟩, ⟨by rw [l_10_7]; exact ⟨rfl, lowB⟩⟩⟩
  · exact ⟨0, ⟨by rw [a_10_7]; exact ⟨rfl, lowB⟩⟩, ⟨by rw [l_10_7]; exact ⟨rfl, lowB⟩⟩⟩
  · exact ⟨0, ⟨by rw [a_10_7]; exact ⟨rfl, lowB⟩⟩, ⟨by rw [l_10_7]; exact ⟨rfl, lowB⟩⟩⟩
theorem ag_10_8 {y : Int} (h0 : 0 ≤ y) (h1 : y < 16) : Agree (envP 285 [] []) 7 8 [.string ⟨#[42]⟩, .int .i64 8, .int .i64 y] := by
  rcases up16 h0 h1 with rfl | rfl | rfl | rfl | rfl | rfl | rfl | rfl | rfl | rfl | rfl | rfl | rfl | rfl | rfl | rfl
  · exact ⟨0, ⟨by rw [a_10_8]; exact ⟨rfl, lowB⟩⟩, ⟨by rw [l_10_8]; exact ⟨rfl, lowB⟩⟩⟩
  · exact ⟨0, ⟨by rw [a_10_8]; exact ⟨rfl, lowB⟩⟩, ⟨by rw [l_10_8]; exact ⟨rfl, lowB⟩⟩⟩
  · exact ⟨0, ⟨by rw [a_10_8]; exact ⟨rfl, lowB⟩⟩, ⟨by rw [l_10_8]; exact ⟨rfl, lowB⟩⟩⟩
  · exact ⟨8, ⟨by rw [a_10_8]; exact ⟨rfl, lowB⟩⟩, ⟨by rw [l_10_8]; exact ⟨rfl, lowB⟩⟩⟩
  · exact ⟨0, ⟨by rw [a_10_8]; exact ⟨rfl, lowB⟩⟩, ⟨by rw [l_10_8]; exact ⟨rfl, lowB⟩⟩⟩
  · exact ⟨0, ⟨by rw [a_10_8]; exact ⟨rfl, lowB⟩⟩, ⟨by rw [l_10_8]; exact ⟨rfl, lowB⟩⟩⟩
  · exact ⟨0, ⟨by rw [a_10_8]; exact ⟨rfl, lowB⟩⟩, ⟨by rw [l_10_8]; exact ⟨rfl, lowB⟩⟩⟩
  · exact ⟨0, ⟨by rw [a_10_8]; exact ⟨rfl, lowB⟩⟩, ⟨by rw [l_10_8]; exact ⟨rfl, lowB⟩⟩⟩
  · exact ⟨0, ⟨by rw [a_10_8]; exact ⟨rfl, lowB⟩⟩, ⟨by rw [l_10_8]; exact ⟨rfl, lowB⟩⟩⟩
  · exact ⟨0, ⟨by rw [a_10_8]; exact ⟨rfl, lowB⟩⟩, ⟨by rw [l_10_8]; exact ⟨rfl, lowB⟩⟩⟩
  · exact ⟨0, ⟨by rw [a_10_8]; exact ⟨rfl, lowB⟩⟩, ⟨by rw [l_10_8]; exact ⟨rfl, lowB⟩⟩⟩
  · exact ⟨0, ⟨by rw [a_10_8]; exact ⟨rfl, lowB⟩⟩, ⟨by rw [l_10_8]; exact ⟨rfl, lowB⟩⟩⟩
  · exact ⟨0, ⟨by rw [a_10_8]; exact ⟨rfl, lowB⟩⟩, ⟨by rw [l_10_8]; exact ⟨rfl, lowB⟩⟩⟩
  · exact ⟨0, ⟨by rw [a_10_8]; exact ⟨rfl, lowB⟩⟩, ⟨by rw [l_10_8]; exact ⟨rfl, lowB⟩⟩⟩
  · exact ⟨0, ⟨by rw [a_10_8]; exact ⟨rfl, lowB⟩⟩, ⟨by rw [l_10_8]; exact ⟨rfl, lowB⟩⟩⟩
  · exact ⟨0, ⟨by rw [a_10_8]; exact ⟨rfl, lowB⟩⟩, ⟨by rw [l_10_8]; exact ⟨rfl, lowB⟩⟩⟩
theorem ag_10_9 {y : Int} (h0 : 0 ≤ y) (h1 : y < 16) : Agree (envP 285 [] []) 7 8 [.string ⟨#[42]⟩, .int .i64 9, .int .i64 y] := by
  rcases up16 h0 h1 with rfl | rfl | rfl | rfl | rfl | rfl | rfl | rfl | rfl | rfl | rfl | rfl | rfl | rfl | rfl | rfl
  · exact ⟨0, ⟨by rw [a_10_9]; exact ⟨rfl, lowB⟩⟩, ⟨by rw [l_10_9]; exact ⟨rfl, lowB⟩⟩⟩
  · exact ⟨0, ⟨by rw [a_10_9]; exact ⟨rfl, lowB⟩⟩, ⟨by rw [l_10_9]; exact ⟨rfl, lowB⟩⟩⟩
  · exact ⟨0, ⟨by rw [a_10_9]; exact ⟨rfl, lowB⟩⟩, ⟨by rw [l_10_9]; exact ⟨rfl, lowB⟩⟩⟩
  · exact ⟨9, ⟨by rw [a_10_9]; exact ⟨rfl, lowB⟩⟩, ⟨by rw [l_10_9]; exact ⟨rfl, lowB⟩⟩⟩
  · exact ⟨0, ⟨by rw [a_10_9]; exact ⟨rfl, lowB⟩⟩, ⟨by rw [l_10_9]; exact ⟨rfl, lowB⟩⟩⟩
  · exact ⟨0, ⟨by rw [a_10_9]; exact ⟨rfl, lowB⟩⟩, ⟨by rw [l_10_9]; exact ⟨rfl, lowB⟩⟩⟩
  · exact ⟨0, ⟨by rw [a_10_9]; exact ⟨rfl, lowB⟩⟩, ⟨by rw [l_10_9]; exact ⟨rfl, lowB⟩⟩⟩
  · exact ⟨0, ⟨by rw [a_10_9]; exact ⟨rfl, lowB⟩⟩, ⟨by rw [l_10_9]; exact ⟨rfl, lowB⟩⟩⟩
  · exact ⟨0, ⟨by rw [a_10_9]; exact ⟨rfl, lowB⟩⟩, ⟨by rw [l_10_9]; exact ⟨rfl, lowB⟩⟩⟩
  · exact ⟨0, ⟨by rw [a_10_9]; exact ⟨rfl, lowB⟩⟩, ⟨by rw [l_10_9]; exact ⟨rfl, lowB⟩⟩⟩
  · exact ⟨0, ⟨by rw [a_10_9]; exact ⟨rfl, lowB⟩⟩, ⟨by rw [l_10_9]; exact ⟨rfl, lowB⟩⟩⟩
  · exact ⟨0, ⟨by rw [a_10_9]; exact ⟨rfl, lowB⟩⟩, ⟨by rw [l_10_9]; exact ⟨rfl, lowB⟩⟩⟩
  · exact ⟨0, ⟨by rw [a_10_9]; exact ⟨rfl, lowB⟩⟩, ⟨by rw [l_10_9]; exact ⟨rfl, lowB⟩⟩⟩
  · exact ⟨0, ⟨by rw [a_10_9]; exact ⟨rfl, lowB⟩⟩, ⟨by rw [l_10_9]; exact ⟨rfl, lowB⟩⟩⟩
  · exact ⟨0, ⟨by rw [a_10_9]; exact ⟨rfl, lowB⟩⟩, ⟨by rw [l_10_9]; exact ⟨rfl, lowB⟩⟩⟩
  · exact ⟨0, ⟨by rw [a_10_9]; exact ⟨rfl, lowB⟩⟩, ⟨by rw [l_10_9]; exact ⟨rfl, lowB⟩⟩⟩
theorem ag_10_10 {y : Int} (h0 : 0 ≤ y) (h1 : y < 16) : Agree (envP 285 [] []) 7 8 [.string ⟨#[42]⟩, .int .i64 10, .int .i64 y] := by
  rcases up16 h0 h1 with rfl | rfl | rfl | rfl | rfl | rfl | rfl | rfl | rfl | rfl | rfl | rfl | rfl | rfl | rfl | rfl
  · exact ⟨0, ⟨by rw [a_10_10]; exact ⟨rfl, lowB⟩⟩, ⟨by rw [l_10_10]; exact ⟨rfl, lowB⟩⟩⟩
  · exact ⟨0, ⟨by rw [a_10_10]; exact ⟨rfl, lowB⟩⟩, ⟨by rw [l_10_10]; exact ⟨rfl, lowB⟩⟩⟩
  · exact ⟨0, ⟨by rw [a_10_10]; exact ⟨rfl, lowB⟩⟩, ⟨by rw [l_10_10]; exact ⟨rfl, lowB⟩⟩⟩
  · exact ⟨0, ⟨by rw [a_10_10]; exact ⟨rfl, lowB⟩⟩, ⟨by rw [l_10_10]; exact ⟨rfl, lowB⟩⟩⟩
  · exact ⟨0, ⟨by rw [a_10_10]; exact ⟨rfl, lowB⟩⟩, ⟨by rw [l_10_10]; exact ⟨rfl, lowB⟩⟩⟩
  · exact ⟨0, ⟨by rw [a_10_10]; exact ⟨rfl, lowB⟩⟩, ⟨by rw [l_10_10]; exact ⟨rfl, lowB⟩⟩⟩
  · exact ⟨0, ⟨by rw [a_10_10]; exact ⟨rfl, lowB⟩⟩, ⟨by rw [l_10_10]; exact ⟨rfl, lowB⟩⟩⟩
  · exact ⟨0, ⟨by rw [a_10_10]; exact ⟨rfl, lowB⟩⟩, ⟨by rw [l_10_10]; exact ⟨rfl, lowB⟩⟩⟩
  · exact ⟨0, ⟨by rw [a_10_10]; exact ⟨rfl, lowB⟩⟩, ⟨by rw [l_10_10]; exact ⟨rfl, lowB⟩⟩⟩
  · exact ⟨0, ⟨by rw [a_10_10]; exact ⟨rfl, lowB⟩⟩, ⟨by rw [l_10_10]; exact ⟨rfl, lowB⟩⟩⟩
  · exact ⟨0, ⟨by rw [a_10_10]; exact ⟨rfl, lowB⟩⟩, ⟨by rw [l_10_10]; exact ⟨rfl, lowB⟩⟩⟩
  · exact ⟨0, ⟨by rw [a_10_10]; exact ⟨rfl, lowB⟩⟩, ⟨by rw [l_10_10]; exact ⟨rfl, lowB⟩⟩⟩
  · exact ⟨0, ⟨by rw [a_10_10]; exact ⟨rfl, lowB⟩⟩, ⟨by rw [l_10_10]; exact ⟨rfl, lowB⟩⟩⟩
  · exact ⟨0, ⟨by rw [a_10_10]; exact ⟨rfl, lowB⟩⟩, ⟨by rw [l_10_10]; exact ⟨rfl, lowB⟩⟩⟩
  · exact ⟨0, ⟨by rw [a_10_10]; exact ⟨rfl, lowB⟩⟩, ⟨by rw [l_10_10]; exact ⟨rfl, lowB⟩⟩⟩
  · exact ⟨0, ⟨by rw [a_10_10]; exact ⟨rfl, lowB⟩⟩, ⟨by rw [l_10_10]; exact ⟨rfl, lowB⟩⟩⟩
theorem ag_10_11 {y : Int} (h0 : 0 ≤ y) (h1 : y < 16) : Agree (envP 285 [] []) 7 8 [.string ⟨#[42]⟩, .int .i64 11, .int .i64 y] := by
  rcases up16 h0 h1 with rfl | rfl | rfl | rfl | rfl | rfl | rfl | rfl | rfl | rfl | rfl | rfl | rfl | rfl | rfl | rfl
  · exact ⟨0, ⟨by rw [a_10_11]; exact ⟨rfl, lowB⟩⟩, ⟨by rw [l_10_11]; exact ⟨rfl, lowB⟩⟩⟩
  · exact ⟨0, ⟨by rw [a_10_11]; exact ⟨rfl, lowB⟩⟩, ⟨by rw [l_10_11]; exact ⟨rfl, lowB⟩⟩⟩
  · exact ⟨0, ⟨by rw [a_10_11]; exact ⟨rfl, lowB⟩⟩, ⟨by rw [l_10_11]; exact ⟨rfl, lowB⟩⟩⟩
  · exact ⟨0, ⟨by rw [a_10_11]; exact ⟨rfl, lowB⟩⟩, ⟨by rw [l_10_11]; exact ⟨rfl, lowB⟩⟩⟩
  · exact ⟨0, ⟨by rw [a_10_11]; exact ⟨rfl, lowB⟩⟩, ⟨by rw [l_10_11]; exact ⟨rfl, lowB⟩⟩⟩
  · exact ⟨0, ⟨by rw [a_10_11]; exact ⟨rfl, lowB⟩⟩, ⟨by rw [l_10_11]; exact ⟨rfl, lowB⟩⟩⟩
  · exact ⟨0, ⟨by rw [a_10_11]; exact ⟨rfl, lowB⟩⟩, ⟨by rw [l_10_11]; exact ⟨rfl, lowB⟩⟩⟩
  · exact ⟨0, ⟨by rw [a_10_11]; exact ⟨rfl, lowB⟩⟩, ⟨by rw [l_10_11]; exact ⟨rfl, lowB⟩⟩⟩
  · exact ⟨0, ⟨by rw [a_10_11]; exact ⟨rfl, lowB⟩⟩, ⟨by rw [l_10_11]; exact ⟨rfl, lowB⟩⟩⟩
  · exact ⟨0, ⟨by rw [a_10_11]; exact ⟨rfl, lowB⟩⟩, ⟨by rw [l_10_11]; exact ⟨rfl, lowB⟩⟩⟩
  · exact ⟨0, ⟨by rw [a_10_11]; exact ⟨rfl, lowB⟩⟩, ⟨by rw [l_10_11]; exact ⟨rfl, lowB⟩⟩⟩
  · exact ⟨0, ⟨by rw [a_10_11]; exact ⟨rfl, lowB⟩⟩, ⟨by rw [l_10_11]; exact ⟨rfl, lowB⟩⟩⟩
  · exact ⟨0, ⟨by rw [a_10_11]; exact ⟨rfl, lowB⟩⟩, ⟨by rw [l_10_11]; exact ⟨rfl, lowB⟩⟩⟩
  · exact ⟨0, ⟨by rw [a_10_11]; exact ⟨rfl, lowB⟩⟩, ⟨by rw [l_10_11]; exact ⟨rfl, lowB⟩⟩⟩
  · exact ⟨0, ⟨by rw [a_10_11]; exact ⟨rfl, lowB⟩⟩, ⟨by rw [l_10_11]; exact ⟨rfl, lowB⟩⟩⟩
  · exact ⟨0, ⟨by rw [a_10_11]; exact ⟨rfl, lowB⟩⟩, ⟨by rw [l_10_11]; exact ⟨rfl, lowB⟩⟩⟩
theorem ag_10_12 {y : Int} (h0 : 0 ≤ y) (h1 : y < 16) : Agree (envP 285 [] []) 7 8 [.string ⟨#[42]⟩, .int .i64 12, .int .i64 y] := by
  rcases up16 h0 h1 with rfl | rfl | rfl | rfl | rfl | rfl | rfl | rfl | rfl | rfl | rfl | rfl | rfl | rfl | rfl | rfl
  · exact ⟨0, ⟨by rw [a_10_12]; exact ⟨rfl, lowB⟩⟩, ⟨by rw [l_10_12]; exact ⟨rfl, lowB⟩⟩⟩
  · exact ⟨0, ⟨by rw [a_10_12]; exact ⟨rfl, lowB⟩⟩, ⟨by rw [l_10_12]; exact ⟨rfl, lowB⟩⟩⟩
  · exact ⟨0, ⟨by rw [a_10_12]; exact ⟨rfl, lowB⟩⟩, ⟨by rw [l_10_12]; exact ⟨rfl, lowB⟩⟩⟩
  · exact ⟨0, ⟨by rw [a_10_12]; exact ⟨rfl, lowB⟩⟩, ⟨by rw [l_10_12]; exact ⟨rfl, lowB⟩⟩⟩
  · exact ⟨0, ⟨by rw [a_10_12]; exact ⟨rfl, lowB⟩⟩, ⟨by rw [l_10_12]; exact ⟨rfl, lowB⟩⟩⟩
  · exact ⟨0, ⟨by rw [a_10_12]; exact ⟨rfl, lowB⟩⟩, ⟨by rw [l_10_12]; exact ⟨rfl, lowB⟩⟩⟩
  · exact ⟨0, ⟨by rw [a_10_12]; exact ⟨rfl, lowB⟩⟩, ⟨by rw [l_10_12]; exact ⟨rfl, lowB⟩⟩⟩
  · exact ⟨0, ⟨by rw [a_10_12]; exact ⟨rfl, lowB⟩⟩, ⟨by rw [l_10_12]; exact ⟨rfl, lowB⟩⟩⟩
  · exact ⟨0, ⟨by rw [a_10_12]; exact ⟨rfl, lowB⟩⟩, ⟨by rw [l_10_12]; exact ⟨rfl, lowB⟩⟩⟩
  · exact ⟨0, ⟨by rw [a_10_12]; exact ⟨rfl, lowB⟩⟩, ⟨by rw [l_10_12]; exact ⟨rfl, lowB⟩⟩⟩
  · exact ⟨0, ⟨by rw [a_10_12]; exact ⟨rfl, lowB⟩⟩, ⟨by rw [l_10_12]; exact ⟨rfl, lowB⟩⟩⟩
  · exact ⟨0, ⟨by rw [a_10_12]; exact ⟨rfl, lowB⟩⟩, ⟨by rw [l_10_12]; exact ⟨rfl, lowB⟩⟩⟩
  · exact ⟨0, ⟨by rw [a_10_12]; exact ⟨rfl, lowB⟩⟩, ⟨by rw [l_10_12]; exact ⟨rfl, lowB⟩⟩⟩
  · exact ⟨0, ⟨by rw [a_10_12]; exact ⟨rfl, lowB⟩⟩, ⟨by rw [l_10_12]; exact ⟨rfl, lowB⟩⟩⟩
  · exact ⟨0, ⟨by rw [a_10_12]; exact ⟨rfl, lowB⟩⟩, ⟨by rw [l_10_12]; exact ⟨rfl, lowB⟩⟩⟩
  · exact ⟨0, ⟨by rw [a_10_12]; exact ⟨rfl, lowB⟩⟩, ⟨by rw [l_10_12]; exact ⟨rfl, lowB⟩⟩⟩
theorem ag_10_13 {y : Int} (h0 : 0 ≤ y) (h1 : y < 16) : Agree (envP 285 [] []) 7 8 [.string ⟨#[42]⟩, .int .i64 13, .int .i64 y] := by
  rcases up16 h0 h1 with rfl | rfl | rfl | rfl | rfl | rfl | rfl | rfl | rfl | rfl | rfl | rfl | rfl | rfl | rfl | rfl
  · exact ⟨0, ⟨by rw [a_10_13]; exact ⟨rfl, lowB⟩⟩, ⟨by rw [l_10_13]; exact ⟨rfl, lowB⟩⟩⟩
  · exact ⟨0, ⟨by rw [a_10_13]; exact ⟨rfl, lowB⟩⟩, ⟨by rw [l_10_13]; exact ⟨rfl, lowB⟩⟩⟩
  · exact ⟨0, ⟨by rw [a_10_13]; exact ⟨rfl, lowB⟩⟩, ⟨by rw [l_10_13]; exact ⟨rfl, lowB⟩⟩⟩
  · exact ⟨0, ⟨by rw [a_10_13]; exact ⟨rfl, lowB⟩⟩, ⟨by rw [l_10_13]; exact ⟨rfl, lowB⟩⟩⟩
  · exact ⟨0, ⟨by rw [a_10_13]; exact ⟨rfl, lowB⟩⟩, ⟨by rw [l_10_13]; exact ⟨rfl, lowB⟩⟩⟩
  · exact ⟨0, ⟨by rw [a_10_13]; exact ⟨rfl, lowB⟩⟩, ⟨by rw [l_10_13]; exact ⟨rfl, lowB⟩⟩⟩
  · exact ⟨0, ⟨by rw [a_10_13]; exact ⟨rfl, lowB⟩⟩, ⟨by rw [l_10_13]; exact ⟨rfl, lowB⟩⟩⟩
  · exact ⟨0, ⟨by rw [a_10_13]; exact ⟨rfl, lowB⟩⟩, ⟨by rw [l_10_13]; exact ⟨rfl, lowB⟩⟩⟩
  · exact ⟨0, ⟨by rw [a_10_13]; exact ⟨rfl, lowB⟩⟩, ⟨by rw [l_10_13]; exact ⟨rfl, lowB⟩⟩⟩
  · exact ⟨0, ⟨by rw [a_10_13]; exact ⟨rfl, lowB⟩⟩, ⟨by rw [l_10_13]; exact ⟨rfl, lowB⟩⟩⟩
  · exact ⟨0, ⟨by rw [a_10_13]; exact ⟨rfl, lowB⟩⟩, ⟨by rw [l_10_13]; exact ⟨rfl, lowB⟩⟩⟩
  · exact ⟨0, ⟨by rw [a_10_13]; exact ⟨rfl, lowB⟩⟩, ⟨by rw [l_10_13]; exact ⟨rfl, lowB⟩⟩⟩
  · exact ⟨0, ⟨by rw [a_10_13]; exact ⟨rfl, lowB⟩⟩, ⟨by rw [l_10_13]; exact ⟨rfl, lowB⟩⟩⟩
  · exact ⟨0, ⟨by rw [a_10_13]; exact ⟨rfl, lowB⟩⟩, ⟨by rw [l_10_13]; exact ⟨rfl, lowB⟩⟩⟩
  · exact ⟨0, ⟨by rw [a_10_13]; exact ⟨rfl, lowB⟩⟩, ⟨by rw [l_10_13]; exact ⟨rfl, lowB⟩⟩⟩
  · exact ⟨0, ⟨by rw [a_10_13]; exact ⟨rfl, lowB⟩⟩, ⟨by rw [l_10_13]; exact ⟨rfl, lowB⟩⟩⟩
theorem ag_10_14 {y : Int} (h0 : 0 ≤ y) (h1 : y < 16) : Agree (envP 285 [] []) 7 8 [.string ⟨#[42]⟩, .int .i64 14, .int .i64 y] := by
  rcases up16 h0 h1 with rfl | rfl | rfl | rfl | rfl | rfl | rfl | rfl | rfl | rfl | rfl | rfl | rfl | rfl | rfl | rfl
  · exact ⟨0, ⟨by rw [a_10_14]; exact ⟨rfl, lowB⟩⟩, ⟨by rw [l_10_14]; exact ⟨rfl, lowB⟩⟩⟩
  · exact ⟨0, ⟨by rw [a_10_14]; exact ⟨rfl, lowB⟩⟩, ⟨by rw [l_10_14]; exact ⟨rfl, lowB⟩⟩⟩
  · exact ⟨0, ⟨by rw [a_10_14]; exact ⟨rfl, lowB⟩⟩, ⟨by rw [l_10_14]; exact ⟨rfl, lowB⟩⟩⟩
  · exact ⟨0, ⟨by rw [a_10_14]; exact ⟨rfl, lowB⟩⟩, ⟨by rw [l_10_14]; exact ⟨rfl, lowB⟩⟩⟩
  · exact ⟨0, ⟨by rw [a_10_14]; exact ⟨rfl, lowB⟩⟩, ⟨by rw [l_10_14]; exact ⟨rfl, lowB⟩⟩⟩
  · exact ⟨0, ⟨by rw [a_10_14]; exact ⟨rfl, lowB⟩⟩, ⟨by rw [l_10_14]; exact ⟨rfl, lowB⟩⟩⟩
  · exact ⟨0, ⟨by rw [a_10_14]; exact ⟨rfl, lowB⟩⟩, ⟨by rw [l_10_14]; exact ⟨rfl, lowB⟩⟩⟩
  · exact ⟨0, ⟨by rw [a_10_14]; exact ⟨rfl, lowB⟩⟩, ⟨by rw [l_10_14]; exact ⟨rfl, lowB⟩⟩⟩
  · exact ⟨0, ⟨by rw [a_10_14]; exact ⟨rfl, lowB⟩⟩, ⟨by rw [l_10_14]; exact ⟨rfl, lowB⟩⟩⟩
  · exact ⟨0, ⟨by rw [a_10_14]; exact ⟨rfl, lowB⟩⟩, ⟨by rw [l_10_14]; exact ⟨rfl, lowB⟩⟩⟩
  · exact ⟨0, ⟨by rw [a_10_14]; exact ⟨rfl, lowB⟩⟩, ⟨by rw [l_10_14]; exact ⟨rfl, lowB⟩⟩⟩
  · exact ⟨0, ⟨by rw [a_10_14]; exact ⟨rfl, lowB⟩⟩, ⟨by rw [l_10_14]; exact ⟨rfl, lowB⟩⟩⟩
  · exact ⟨0, ⟨by rw [a_10_14]; exact ⟨rfl, lowB⟩⟩, ⟨by rw [l_10_14]; exact ⟨rfl, lowB⟩⟩⟩
  · exact ⟨0, ⟨by rw [a_10_14]; exact ⟨rfl, lowB⟩⟩, ⟨by rw [l_10_14]; exact ⟨rfl, lowB⟩⟩⟩
  · exact ⟨0, ⟨by rw [a_10_14]; exact ⟨rfl, lowB⟩⟩, ⟨by rw [l_10_14]; exact ⟨rfl, lowB⟩⟩⟩
  · exact ⟨0, ⟨by rw [a_10_14]; exact ⟨rfl, lowB⟩⟩, ⟨by rw [l_10_14]; exact ⟨rfl, lowB⟩⟩⟩
theorem ag_10_15 {y : Int} (h0 : 0 ≤ y) (h1 : y < 16) : Agree (envP 285 [] []) 7 8 [.string ⟨#[42]⟩, .int .i64 15, .int .i64 y] := by
  rcases up16 h0 h1 with rfl | rfl | rfl | rfl | rfl | rfl | rfl | rfl | rfl | rfl | rfl | rfl | rfl | rfl | rfl | rfl
  · exact ⟨0, ⟨by rw [a_10_15]; exact ⟨rfl, lowB⟩⟩, ⟨by rw [l_10_15]; exact ⟨rfl, lowB⟩⟩⟩
  · exact ⟨0, ⟨by rw [a_10_15]; exact ⟨rfl, lowB⟩⟩, ⟨by rw [l_10_15]; exact ⟨rfl, lowB⟩⟩⟩
  · exact ⟨0, ⟨by rw [a_10_15]; exact ⟨rfl, lowB⟩⟩, ⟨by rw [l_10_15]; exact ⟨rfl, lowB⟩⟩⟩
  · exact ⟨0, ⟨by rw [a_10_15]; exact ⟨rfl, lowB⟩⟩, ⟨by rw [l_10_15]; exact ⟨rfl, lowB⟩⟩⟩
  · exact ⟨0, ⟨by rw [a_10_15]; exact ⟨rfl, lowB⟩⟩, ⟨by rw [l_10_15]; exact ⟨rfl, lowB⟩⟩⟩
  · exact ⟨0, ⟨by rw [a_10_15]; exact ⟨rfl, lowB⟩⟩, ⟨by rw [l_10_15]; exact ⟨rfl, lowB⟩⟩⟩
  · exact ⟨0, ⟨by rw [a_10_15]; exact ⟨rfl, lowB⟩⟩, ⟨by rw [l_10_15]; exact ⟨rfl, lowB⟩⟩⟩
  · exact ⟨0, ⟨by rw [a_10_15]; exact ⟨rfl, lowB⟩⟩, ⟨by rw [l_10_15]; exact ⟨rfl, lowB⟩⟩⟩
  · exact ⟨0, ⟨by rw [a_10_15]; exact ⟨rfl, lowB⟩⟩, ⟨by rw [l_10_15]; exact ⟨rfl, lowB⟩⟩⟩
  · exact ⟨0, ⟨by rw [a_10_15]; exact ⟨rfl, lowB⟩⟩, ⟨by rw [l_10_15]; exact ⟨rfl, lowB⟩⟩⟩
  · exact ⟨0, ⟨by rw [a_10_15]; exact ⟨rfl, lowB⟩⟩, ⟨by rw [l_10_15]; exact ⟨rfl, lowB⟩⟩⟩
  · exact ⟨0, ⟨by rw [a_10_15]; exact ⟨rfl, lowB⟩⟩, ⟨by rw [l_10_15]; exact ⟨rfl, lowB⟩⟩⟩
  · exact ⟨0, ⟨by rw [a_10_15]; exact ⟨rfl, lowB⟩⟩, ⟨by rw [l_10_15]; exact ⟨rfl, lowB⟩⟩⟩
  · exact ⟨0, ⟨by rw [a_10_15]; exact ⟨rfl, lowB⟩⟩, ⟨by rw [l_10_15]; exact ⟨rfl, lowB⟩⟩⟩
  · exact ⟨0, ⟨by rw [a_10_15]; exact ⟨rfl, lowB⟩⟩, ⟨by rw [l_10_15]; exact ⟨rfl, lowB⟩⟩⟩
  · exact ⟨0, ⟨by rw [a_10_15]; exact ⟨rfl, lowB⟩⟩, ⟨by rw [l_10_15]; exact ⟨rfl, lowB⟩⟩⟩
theorem ag_10 {x y : Int} (g0 : 0 ≤ x) (g1 : x < 16) (h0 : 0 ≤ y) (h1 : y < 16) : Agree (envP 285 [] []) 7 8 [.string ⟨#[42]⟩, .int .i64 x, .int .i64 y] := by
  rcases up16 g0 g1 with rfl | rfl | rfl | rfl | rfl | rfl | rfl | rfl | rfl | rfl | rfl | rfl | rfl | rfl | rfl | rfl
  · exact ag_10_0 h0 h1
  · exact ag_10_1 h0 h1
  · exact ag_10_2 h0 h1
  · exact ag_10_3 h0 h1
  · exact ag_10_4 h0 h1
  · exact ag_10_5 h0 h1
  · exact ag_10_6 h0 h1
  · exact ag_10_7 h0 h1
  · exact ag_10_8 h0 h1
  · exact ag_10_9 h0 h1
  · exact ag_10_10 h0 h1
  · exact ag_10_11 h0 h1
  · exact ag_10_12 h0 h1
  · exact ag_10_13 h0 h1
  · exact ag_10_14 h0 h1
  · exact ag_10_15 h0 h1
theorem ag_11_0 {y : Int} (h0 : 0 ≤ y) (h1 : y < 16) : Agree (envP 285 [] []) 7 8 [.string ⟨#[47]⟩, .int .i64 0, .int .i64 y] := by
  rcases up16 h0 h1 with rfl | rfl | rfl | rfl | rfl | rfl | rfl | rfl | rfl | rfl | rfl | rfl | rfl | rfl | rfl | rfl
  · exact ⟨0, ⟨by rw [a_11_0]; exact ⟨rfl, lowB⟩⟩, ⟨by rw [l_11_0]; exact ⟨rfl, lowB⟩⟩⟩
  · exact ⟨0, ⟨by rw [a_11_0]; exact ⟨rfl, lowB⟩⟩, ⟨by rw [l_11_0]; exact ⟨rfl, lowB⟩⟩⟩
  · exact ⟨0, ⟨by rw [a_11_0]; exact ⟨rfl, lowB⟩⟩, ⟨by rw [l_11_0]; exact ⟨rfl, lowB⟩⟩⟩
  · exact ⟨0, ⟨by rw [a_11_0]; exact ⟨rfl, lowB⟩⟩, ⟨by rw [l_11_0]; exact ⟨rfl, lowB⟩⟩⟩
  · exact ⟨0, ⟨by rw [a_11_0]; exact ⟨rfl, lowB⟩⟩, ⟨by rw [l_11_0]; exact ⟨rfl, lowB⟩⟩⟩
  · exact ⟨0, ⟨by rw [a_11_0]; exact ⟨rfl, lowB⟩⟩, ⟨by rw [l_11_0]; exact ⟨rfl, lowB⟩⟩⟩
  · exact ⟨0, ⟨by rw [a_11_0]; exact ⟨rfl, lowB⟩⟩, ⟨by rw [l_11_0]; exact ⟨rfl, lowB⟩⟩⟩
  · exact ⟨0, ⟨by rw [a_11_0]; exact ⟨rfl, lowB⟩⟩, ⟨by rw [l_11_0]; exact ⟨rfl, lowB⟩⟩⟩
  · exact ⟨0, ⟨by rw [a_11_0]; exact ⟨rfl, lowB⟩⟩, ⟨by rw [l_11_0]; exact ⟨rfl, lowB⟩⟩⟩
  · exact ⟨0, ⟨by rw [a_11_0]; exact ⟨rfl, lowB⟩⟩, ⟨by rw [l_11_0]; exact ⟨rfl, lowB⟩⟩⟩
  · exact ⟨0, ⟨by rw [a_11_0]; exact ⟨rfl, lowB⟩⟩, ⟨by rw [l_11_0]; exact ⟨rfl, lowB⟩⟩⟩
  · exact ⟨0, ⟨by rw [a_11_0]; exact ⟨rfl, lowB⟩⟩, ⟨by rw [l_11_0]; exact ⟨rfl, lowB⟩⟩⟩
  · exact ⟨0, ⟨by rw [a_11_0]; exact ⟨rfl, lowB⟩⟩, ⟨by rw [l_11_0]; exact ⟨rfl, lowB⟩⟩⟩
  · exact ⟨0, ⟨by rw [a_11_0]; exact ⟨rfl, lowB⟩⟩, ⟨by rw [l_11_0]; exact ⟨rfl, lowB⟩⟩⟩
  · exact ⟨0, ⟨by rw [a_11_0]; exact ⟨rfl, lowB⟩⟩, ⟨by rw [l_11_0]; exact ⟨rfl, lowB⟩⟩⟩
  · exact ⟨0, ⟨by rw [a_11_0]; exact ⟨rfl, lowB⟩⟩, ⟨by rw [l_11_0]; exact ⟨rfl, lowB⟩⟩⟩
theorem ag_11_1 {y : Int} (h0 : 0 ≤ y) (h1 : y < 16) : Agree (envP 285 [] []) 7 8 [.string ⟨#[47]⟩, .int .i64 1, .int .i64 y] := by
  rcases up16 h0 h1 with rfl | rfl | rfl | rfl | rfl | rfl | rfl | rfl | rfl | rfl | rfl | rfl | rfl | rfl | rfl | rfl
  · exact ⟨0, ⟨by rw [a_11_1]; exact ⟨rfl, lowB⟩⟩, ⟨by rw [l_11_1]; exact ⟨rfl, lowB⟩⟩⟩
  · exact ⟨0, ⟨by rw [a_11_1]; exact ⟨rfl, lowB⟩⟩, ⟨by rw [l_11_1]; exact ⟨rfl, lowB⟩⟩⟩
  · exact ⟨0, ⟨by rw [a_11_1]; exact ⟨rfl, lowB⟩⟩, ⟨by rw [l_11_1]; exact ⟨rfl, lowB⟩⟩⟩
  · exact ⟨0, ⟨by rw [a_11_1]; exact ⟨rfl, lowB⟩⟩, ⟨by rw [l_11_1]; exact ⟨rfl, lowB⟩⟩⟩
  · exact ⟨0, ⟨by rw [a_11_1]; exact ⟨rfl, lowB⟩⟩, ⟨by rw [l_11_1]; exact ⟨rfl, lowB⟩⟩⟩
  · exact ⟨0, ⟨by rw [a_11_1]; exact ⟨rfl, lowB⟩⟩, ⟨by rw [l_11_1]; exact ⟨rfl, lowB⟩⟩⟩
  · exact ⟨0, ⟨by rw [a_11_1]; exact ⟨rfl, lowB⟩⟩, ⟨by rw [l_11_1]; exact ⟨rfl, lowB⟩⟩⟩
  · exact ⟨0, ⟨by rw [a_11_1]; exact ⟨rfl, lowB⟩⟩, ⟨by rw [l_11_1]; exact ⟨rfl, lowB⟩⟩⟩
  · exact ⟨0, ⟨by rw [a_11_1]; exact ⟨rfl, lowB⟩⟩, ⟨by rw [l_11_1]; exact ⟨rfl, lowB⟩⟩⟩
  · exact ⟨0, ⟨by rw [a_11_1]; exact ⟨rfl, lowB⟩⟩, ⟨by rw [l_11_1]; exact ⟨rfl, lowB⟩⟩⟩
  · exact ⟨0, ⟨by rw [a_11_1]; exact ⟨rfl, lowB⟩⟩, ⟨by rw [l_11_1]; exact ⟨rfl, lowB⟩⟩⟩
  · exact ⟨0, ⟨by rw [a_11_1]; exact ⟨rfl, lowB⟩⟩, ⟨by rw [l_11_1]; exact ⟨rfl, lowB⟩⟩⟩
  · exact ⟨0, ⟨by rw [a_11_1]; exact ⟨rfl, lowB⟩⟩, ⟨by rw [l_11_1]; exact ⟨rfl, lowB⟩⟩⟩
  · exact ⟨0, ⟨by rw [a_11_1]; exact ⟨rfl, lowB⟩⟩, ⟨by rw [l_11_1]; exact ⟨rfl, lowB⟩⟩⟩
  · exact ⟨0, ⟨by rw [a_11_1]; exact ⟨rfl, lowB⟩⟩, ⟨by rw [l_11_1]; exact ⟨rfl, lowB⟩⟩⟩
  · exact ⟨0, ⟨by rw [a_11_1]; exact ⟨rfl, lowB⟩⟩, ⟨by rw [l_11_1]; exact ⟨rfl, lowB⟩⟩⟩
theorem ag_11_2 {y : Int} (h0 : 0 ≤ y) (h1 : y < 16) : Agree (envP 285 [] []) 7 8 [.string ⟨#[47]⟩, .int .i64 2, .int .i64 y] := by
  rcases up16 h0 h1 with rfl | rfl | rfl | rfl | rfl | rfl | rfl | rfl | rfl | rfl | rfl | rfl | rfl | rfl | rfl | rfl
  · exact ⟨0, ⟨by rw [a_11_2]; exact ⟨rfl, lowB⟩⟩, ⟨by rw [l_11_2]; exact ⟨rfl, lowB⟩⟩⟩
  · exact ⟨0, ⟨by rw [a_11_2]; exact ⟨rfl, lowB⟩⟩, ⟨by rw [l_11_2]; exact ⟨rfl, lowB⟩⟩⟩
  · exact ⟨0, ⟨by rw [a_11_2]; exact ⟨rfl, lowB⟩⟩, ⟨by rw [l_11_2]; exact ⟨rfl, lowB⟩⟩⟩
  · exact ⟨0, ⟨by rw [a_11_2]; exact ⟨rfl, lowB⟩⟩, ⟨by rw [l_11_2]; exact ⟨rfl, lowB⟩⟩⟩
  · exact ⟨0, ⟨by rw [a_11_2]; exact ⟨rfl, lowB⟩⟩, ⟨by rw [l_11_2]; exact ⟨rfl, lowB⟩⟩⟩
  · exact ⟨0, ⟨by rw [a_11_2]; exact ⟨rfl, lowB⟩⟩, ⟨by rw [l_11_2]; exact ⟨rfl, lowB⟩⟩⟩
  · exact ⟨0, ⟨by rw [a_11_2]; exact ⟨rfl, lowB⟩⟩, ⟨by rw [l_11_2]; exact ⟨rfl, lowB⟩⟩⟩
  · exact ⟨0, ⟨by rw [a_11_2]; exact ⟨rfl, lowB⟩⟩, ⟨by rw [l_11_2]; exact ⟨rfl, lowB⟩⟩⟩
  · exact ⟨0, ⟨by rw [a_11_2]; exact ⟨rfl, lowB⟩⟩, ⟨by rw [l_11_2]; exact ⟨rfl, lowB⟩⟩⟩
  · exact ⟨0, ⟨by rw [a_11_2]; exact ⟨rfl, lowB⟩⟩, ⟨by rw [l_11_2]; exact ⟨rfl, lowB⟩⟩⟩
  · exact ⟨0, ⟨by rw [a_11_2]; exact ⟨rfl, lowB⟩⟩, ⟨by rw [l_11_2]; exact ⟨rfl, lowB⟩⟩⟩
  · exact ⟨0, ⟨by rw [a_11_2]; exact ⟨rfl, lowB⟩⟩, ⟨by rw [l_11_2]; exact ⟨rfl, lowB⟩⟩⟩
  · exact ⟨0, ⟨by rw [a_11_2]; exact ⟨rfl, lowB⟩⟩, ⟨by rw [l_11_2]; exact ⟨rfl, lowB⟩⟩⟩
  · exact ⟨0, ⟨by rw [a_11_2]; exact ⟨rfl, lowB⟩⟩, ⟨by rw [l_11_2]; exact ⟨rfl, lowB⟩⟩⟩
  · exact ⟨0, ⟨by rw [a_11_2]; exact ⟨rfl, lowB⟩⟩, ⟨by rw [l_11_2]; exact ⟨rfl, lowB⟩⟩⟩
  · exact ⟨0, ⟨by rw [a_11_2]; exact ⟨rfl, lowB⟩⟩, ⟨by rw [l_11_2]; exact ⟨rfl, lowB⟩⟩⟩
theorem ag_11_3 {y : Int} (h0 : 0 ≤ y) (h1 : y < 16) : Agree (envP 285 [] []) 7 8 [.string ⟨#[47]⟩, .int .i64 3, .int .i64 y] := by
  rcases up16 h0 h1 with rfl | rfl | rfl | rfl | rfl | rfl | rfl | rfl | rfl | rfl | rfl | rfl | rfl | rfl | rfl | rfl
  · exact ⟨0, ⟨by rw [a_11_3]; exact ⟨rfl, lowB⟩⟩, ⟨by rw [l_11_3]; exact ⟨rfl, lowB⟩⟩⟩
  · exact ⟨0, ⟨by rw [a_11_3]; exact ⟨rfl, lowB⟩⟩, ⟨by rw [l_11_3]; exact ⟨rfl, lowB⟩⟩⟩
  · exact ⟨0, ⟨by rw [a_11_3]; exact ⟨rfl, lowB⟩⟩, ⟨by rw [l_11_3]; exact ⟨rfl, lowB⟩⟩⟩
  · exact ⟨3, ⟨by rw [a_11_3]; exact ⟨rfl, lowB⟩⟩, ⟨by rw [l_11_3]; exact ⟨rfl, lowB⟩⟩⟩
  · exact ⟨0, ⟨by rw [a_11_3]; exact ⟨rfl, lowB⟩⟩, ⟨by rw [l_11_3]; exact ⟨rfl, lowB⟩⟩⟩
  · exact ⟨0, ⟨by rw [a_11_3]; exact ⟨rfl, lowB⟩⟩, ⟨by rw [l_11_3]; exact ⟨rfl, lowB⟩⟩⟩
  · exact ⟨0, ⟨by rw [a_11_3]; exact ⟨rfl, lowB⟩⟩, ⟨by rw [l_11_3]; exact ⟨rfl, lowB⟩⟩⟩
  · exact ⟨0, ⟨by rw [a_11_3]; exact ⟨rfl, lowB⟩⟩, ⟨by rw [l_11_3]; exact ⟨rfl, lowB⟩⟩⟩
  · exact ⟨0, ⟨by rw [a_11_3]; exact ⟨rfl, lowB⟩⟩, ⟨by rw [l_11_3]; exact ⟨rfl, lowB⟩⟩⟩
  · exact ⟨0, ⟨by rw [a_11_3]; exact ⟨rfl, lowB⟩⟩, ⟨by rw [l_11_3]; exact ⟨rfl, lowB⟩⟩⟩
  · exact ⟨0, ⟨by rw [a_11_3]; exact ⟨rfl, lowB⟩⟩, ⟨by rw [l_11_3]; exact ⟨rfl, lowB⟩⟩⟩
  · exact ⟨0, ⟨by rw [a_11_3]; exact ⟨rfl, lowB⟩⟩, ⟨by rw [l_11_3]; exact ⟨rfl, lowB⟩⟩⟩
  · exact ⟨0, ⟨by rw [a_11_3]; exact ⟨rfl, lowB⟩⟩, ⟨by rw [l_11_3]; exact ⟨rfl, lowB⟩⟩⟩
  · exact ⟨0, ⟨by rw [a_11_3]; exact ⟨rfl, lowB⟩⟩, ⟨by rw [l_11_3]; exact ⟨rfl, lowB⟩⟩⟩
  · exact ⟨0, ⟨by rw [a_11_3]; exact ⟨rfl, lowB⟩⟩, ⟨by rw [l_11_3]; exact ⟨rfl, lowB⟩⟩⟩
  · exact ⟨0, ⟨by rw [a_11_3]; exact ⟨rfl, lowB⟩⟩, ⟨by rw [l_11_3]; exact ⟨rfl, lowB⟩⟩⟩
theorem ag_11_4 {y : Int} (h0 : 0 ≤ y) (h1 : y < 16) : Agree (envP 285 [] []) 7 8 [.string ⟨#[47]⟩, .int .i64 4, .int .i64 y] := by
  rcases up16 h0 h1 with rfl | rfl | rfl | rfl | rfl | rfl | rfl | rfl | rfl | rfl | rfl | rfl | rfl | rfl | rfl | rfl
  · exact ⟨0, ⟨by rw [a_11_4]; exact ⟨rfl, lowB⟩⟩, ⟨by rw [l_11_4]; exact ⟨rfl, lowB⟩⟩⟩
  · exact ⟨0, ⟨by rw [a_11_4]; exact ⟨rfl, lowB⟩⟩, ⟨by rw [l_11_4]; exact ⟨rfl, lowB⟩⟩⟩
  · exact ⟨0, ⟨by rw [a_11_4]; exact ⟨rfl, lowB⟩⟩, ⟨by rw [l_11_4]; exact ⟨rfl, lowB⟩⟩⟩
  · exact ⟨0, ⟨by rw [a_11_4]; exact ⟨rfl, lowB⟩⟩, ⟨by rw [l_11_4]; exact ⟨rfl, lowB⟩⟩⟩
  · exact ⟨0, ⟨by rw [a_11_4]; exact ⟨rfl, lowB⟩⟩, ⟨by rw [l_11_4]; exact ⟨rfl, lowB⟩⟩⟩
  · exact ⟨0, ⟨by rw [a_11_4]; exact ⟨rfl, lowB⟩⟩, ⟨by rw [l_11_4]; exact ⟨rfl, lowB⟩⟩⟩
  · exact ⟨0, ⟨by rw [a_11_4]; exact ⟨rfl, lowB⟩⟩, ⟨by rw [l_11_4]; exact ⟨rfl, lowB⟩⟩⟩
  · exact ⟨0, ⟨by rw [a_11_4]; exact ⟨rfl, lowB⟩⟩, ⟨by rw [l_11_4]; exact ⟨rfl, lowB⟩⟩⟩
  · exact ⟨0, ⟨by rw [a_11_4]; exact ⟨rfl, lowB⟩⟩, ⟨by rw [l_11_4]; exact ⟨rfl, lowB⟩⟩⟩
  · exact ⟨0, ⟨by rw [a_11_4]; exact ⟨rfl, lowB⟩⟩, ⟨by rw [l_11_4]; exact ⟨rfl, lowB⟩⟩⟩
  · exact ⟨0, ⟨by rw [a_11_4]; exact ⟨rfl, lowB⟩⟩, ⟨by rw [l_11_4]; exact ⟨rfl, lowB⟩⟩⟩
  · exact ⟨0, ⟨by rw [a_11_4]; exact ⟨rfl, lowB⟩⟩, ⟨by rw [l_11_4]; exact ⟨rfl, lowB⟩⟩⟩
  · exact ⟨0, ⟨by rw [a_11_4]; exact ⟨rfl, lowB⟩⟩, ⟨by rw [l_11_4]; exact ⟨rfl, lowB⟩⟩⟩
  · exact ⟨0, ⟨by rw [a_11_4]; exact ⟨rfl, lowB⟩⟩, ⟨by rw [l_11_4]; exact ⟨rfl, lowB⟩⟩⟩
  · exact ⟨0, ⟨by rw [a_11_4]; exact ⟨rfl, lowB⟩⟩, ⟨by rw [l_11_4]; exact ⟨rfl, lowB⟩⟩⟩
  · exact ⟨0, ⟨by rw [a_11_4]; exact ⟨rfl, lowB⟩⟩, ⟨by rw [l_11_4]; exact ⟨rfl, lowB⟩⟩⟩
theorem ag_11_5 {y : Int} (h0 : 0 ≤ y) (h1 : y < 16) : Agree (envP 285 [] []) 7 8 [.string ⟨#[47]⟩, .int .i64 5, .int .i64 y] := by
  rcases up16 h0 h1 with rfl | rfl | rfl | rfl | rfl | rfl | rfl | rfl | rfl | rfl | rfl | rfl | rfl | rfl | rfl | rfl
  · exact ⟨0, ⟨by rw [a_11_5]; exact ⟨rfl, lowB⟩⟩, ⟨by rw [l_11_5]; exact ⟨rfl, lowB⟩⟩⟩
  · exact ⟨0, ⟨by rw [a_11_5]; exact ⟨rfl, lowB⟩⟩, ⟨by rw [l_11_5]; exact ⟨rfl, lowB⟩⟩⟩
  · exact ⟨0, ⟨by rw [a_11_5]; exact ⟨rfl, lowB⟩⟩, ⟨by rw [l_11_5]; exact ⟨rfl, lowB⟩⟩⟩
  · exact ⟨0, ⟨by rw [a_11_5]; exact ⟨rfl, lowB⟩⟩, ⟨by rw [l_11_5]; exact ⟨rfl, lowB⟩⟩⟩
  · exact ⟨0, ⟨by rw [a_11_5]; exact ⟨rfl, lowB⟩⟩, ⟨by rw [l_11_5]; exact ⟨rfl, lowB⟩⟩⟩
  · exact ⟨0, ⟨by rw [a_11_5]; exact ⟨rfl, lowB⟩⟩, ⟨by rw [l_11_5]; exact ⟨rfl, lowB⟩⟩⟩
  · exact ⟨0, ⟨by rw [a_11_5]; exact ⟨rfl, lowB⟩⟩, ⟨by rw [l_11_5]; exact ⟨rfl, lowB⟩⟩⟩
  · exact ⟨0, ⟨by rw [a_11_5]; exact ⟨rfl, lowB⟩⟩, ⟨by rw [l_11_5]; exact ⟨rfl, lowB⟩⟩⟩
  · exact ⟨0, ⟨by rw [a_11_5]; exact ⟨rfl, lowB⟩⟩, ⟨by rw [l_11_5]; exact ⟨rfl, lowB⟩⟩⟩
  · exact ⟨0, ⟨by rw [a_11_5]; exact ⟨rfl, lowB⟩⟩, ⟨by rw [l_11_5]; exact ⟨rfl, lowB⟩⟩⟩
  · exact ⟨0, ⟨by rw [a_11_5]; exact ⟨rfl, lowB⟩⟩, ⟨by rw [l_11_5]; exact ⟨rfl, lowB⟩⟩⟩
  · exact ⟨0, ⟨by rw [a_11_5]; exact ⟨rfl, lowB⟩⟩, ⟨by rw [l_11_5]; exact ⟨rfl, lowB⟩⟩⟩
  · exact ⟨0, ⟨by rw [a_11_5]; exact ⟨rfl, lowB⟩⟩, ⟨by rw [l_11_5]; exact ⟨rfl, lowB⟩⟩⟩
  · exact ⟨0, ⟨by rw [a_11_5]; exact ⟨rfl, lowB⟩⟩, ⟨by rw [l_11_5]; exact ⟨rfl, lowB⟩⟩⟩
  · exact ⟨0, ⟨by rw [a_11_5]; exact ⟨rfl, lowB⟩⟩, ⟨by rw [l_11_5]; exact ⟨rfl, lowB⟩⟩⟩
  · exact ⟨0, ⟨by rw [a_11_5]; exact ⟨rfl, lowB⟩⟩, ⟨by rw [l_11_5]; exact ⟨rfl, lowB⟩⟩⟩
theorem ag_11_6 {y : Int} (h0 : 0 ≤ y) (h1 : y < 16) : Agree (envP 285 [] []) 7 8 [.string ⟨#[47]⟩, .int .i64 6, .int .i64 y] := by
  rcases up16 h0 h1 with rfl | rfl | rfl | rfl | rfl | rfl | rfl | rfl | rfl | rfl | rfl | rfl | rfl | rfl | rfl | rfl
  · exact ⟨0, ⟨by rw [a_11_6]; exact ⟨rfl, lowB⟩⟩, ⟨by rw [l_11_6]; exact ⟨rfl, lowB⟩⟩⟩
  · exact ⟨0, ⟨by rw [a_11_6]; exact ⟨rfl, lowB⟩⟩, ⟨by rw [l_11_6]; exact ⟨rfl, lowB⟩⟩⟩
  · exact ⟨0, ⟨by rw [a_11_6]; exact ⟨rfl, lowB⟩⟩, ⟨by rw [l_11_6]; exact ⟨rfl, lowB⟩⟩⟩
  · exact ⟨0, ⟨by rw [a_11_6]; exact ⟨rfl, lowB⟩⟩, ⟨by rw [l_11_6]; exact ⟨rfl, lowB⟩⟩⟩
  · exact ⟨0, ⟨by rw [a_11_6]; exact ⟨rfl, lowB⟩⟩, ⟨by rw [l_11_6]; exact ⟨rfl, lowB⟩⟩⟩
  · exact ⟨0, ⟨by rw [a_11_6]; exact ⟨rfl, lowB⟩⟩, ⟨by rw [l_11_6]; exact ⟨rfl, lowB⟩⟩⟩
  · exact ⟨0, ⟨by rw [a_11_6]; exact ⟨rfl, lowB⟩⟩, ⟨by rw [l_11_6]; exact ⟨rfl, lowB⟩⟩⟩
  · exact ⟨0, ⟨by rw [a_11_6]; exact ⟨rfl, lowB⟩⟩, ⟨by rw [l_11_6]; exact ⟨rfl, lowB⟩⟩⟩
  · exact ⟨0, ⟨by rw [a_11_6]; exact ⟨rfl, lowB⟩⟩, ⟨by rw [l_11_6]; exact ⟨rfl, lowB⟩⟩⟩
  · exact ⟨0, ⟨by rw [a_11_6]; exact ⟨rfl, lowB⟩⟩, ⟨by rw [l_11_6]; exact ⟨rfl, lowB⟩⟩⟩
  · exact ⟨0, ⟨by rw [a_11_6]; exact ⟨rfl, lowB⟩⟩, ⟨by rw [l_11_6]; exact ⟨rfl, lowB⟩⟩⟩
  · exact ⟨0, ⟨by rw [a_11_6]; exact ⟨rfl, lowB⟩⟩, ⟨by rw [l_11_6]; exact ⟨rfl, lowB⟩⟩⟩
  · exact ⟨0, ⟨by rw [a_11_6]; exact ⟨rfl, lowB⟩⟩, ⟨by rw [l_11_6]; exact ⟨rfl, lowB⟩⟩⟩
  · exact ⟨0, ⟨by rw [a_11_6]; exact ⟨rfl, lowB⟩⟩, ⟨by rw [l_11_6]; exact ⟨rfl, lowB⟩⟩⟩
  · exact ⟨0, ⟨by rw [a_11_6]; exact ⟨rfl, lowB⟩⟩, ⟨by rw [l_11_6]; exact ⟨rfl, lowB⟩⟩⟩
  · exact ⟨0, ⟨by rw [a_11_6]; exact ⟨rfl, lowB⟩⟩, ⟨by rw [l_11_6]; exact ⟨rfl, lowB⟩⟩⟩
theorem ag_11_7 {y : Int} (h0 : 0 ≤ y) (h1 : y < 16) : Agree (envP 285 [] []) 7 8 [.string ⟨#[47]⟩, .int .i64 7, .int .i64 y] := by
  rcases up16 h0 h1 with rfl | rfl | rfl | rfl | rfl | rfl | rfl | rfl | rfl | rfl | rfl | rfl | rfl | rfl | rfl | rfl
  · exact ⟨0, ⟨by rw [a_11_7]; exact ⟨rfl, lowB⟩⟩, ⟨by rw [l_11_7]; exact ⟨rfl, lowB⟩⟩⟩
  · exact ⟨0, ⟨by rw [a_11_7]; exact ⟨rfl, lowB⟩⟩, ⟨by rw [l_11_7]; exact ⟨rfl, lowB⟩⟩⟩
  · exact ⟨0, ⟨by rw [a_11_7]; exact ⟨rfl, lowB⟩⟩, ⟨by rw [l_11_7]; exact ⟨rfl, lowB⟩⟩⟩
  · exact ⟨0, ⟨by rw [a_11_7]; exact ⟨rfl, lowB⟩⟩, ⟨by rw [l_11_7]; exact ⟨rfl, lowB⟩⟩⟩
  · exact ⟨0, ⟨by rw [a_11_7]; exact ⟨rfl, lowB⟩⟩, ⟨by rw [l_11_7]; exact ⟨rfl, lowB⟩⟩⟩
  · exact ⟨0, ⟨by rw [a_11_7]; exact ⟨rfl, lowB⟩⟩, ⟨by rw [l_11_7]; exact ⟨rfl, lowB⟩⟩⟩
  · exact ⟨0, ⟨by rw [a_11_7]; exact ⟨rfl, lowB⟩⟩, ⟨by rw [l_11_7]; exact ⟨rfl, lowB⟩⟩⟩
  · exact ⟨0, ⟨by rw [a_11_7]; exact ⟨rfl, lowB⟩⟩, ⟨by rw [l_11_7]; exact ⟨rfl, lowB⟩⟩⟩
  · exact ⟨0, ⟨by rw [a_11_7]; exact ⟨rfl, lowB⟩⟩, ⟨by rw [l_11_7]; exact ⟨rfl, lowB⟩⟩⟩
  · exact ⟨0, ⟨by rw [a_11_7]; exact ⟨rfl, lowB⟩⟩, ⟨by rw [l_11_7]; exact ⟨rfl, lowB⟩⟩⟩
  · exact ⟨0, ⟨by rw [a_11_7]; exact ⟨rfl, lowB⟩⟩, ⟨by rw [l_11_7]; exact ⟨rfl, lowB⟩⟩⟩
  · exact ⟨0, ⟨by rw [a_11_7]; exact ⟨rfl, lowB⟩⟩, ⟨by rw [l_11_7]; exact ⟨rfl, lowB⟩⟩⟩
  · exact ⟨0, ⟨by rw [a_11_7]; exact ⟨rfl, lowB⟩⟩, ⟨by rw [l_11_7]; exact ⟨rfl, lowB⟩⟩⟩
  · exact ⟨0, ⟨by rw [a_11_7]; exact ⟨rfl, lowB⟩⟩, ⟨by rw [l_11_7]; exact ⟨rfl, lowB⟩⟩⟩
  · exact ⟨0, ⟨by rw [a_11_7]; exact ⟨rfl, lowB⟩⟩, ⟨by rw [l_11_7]; exact ⟨rfl, lowB⟩⟩⟩
  · exact ⟨0, ⟨by rw [a_11_7]; exact ⟨rfl, lowB⟩⟩, ⟨by rw [l_11_7]; exact ⟨rfl, lowB⟩⟩⟩
theorem ag_11_8 {y : Int} (h0 : 0 ≤ y) (h1 : y < 16) : Agree (envP 285 [] []) 7 8 [.string ⟨#[47]⟩, .int .i64 8, .int .i64 y] := by
  rcases up16 h0 h1 with rfl | rfl | rfl | rfl | rfl | rfl | rfl | rfl | rfl | rfl | rfl | rfl | rfl | rfl | rfl | rfl
  · exact ⟨0, ⟨by rw [a_11_8]; exact ⟨rfl, lowB⟩⟩, ⟨by rw [l_11_8]; exact ⟨rfl, lowB⟩⟩⟩
  · exact ⟨0, ⟨by rw [a_11_8]; exact ⟨rfl, lowB⟩⟩, ⟨by rw [l_11_8]; exact ⟨rfl, lowB⟩⟩⟩
  · exact ⟨0, ⟨by rw [a_11_8]; exact ⟨rfl, lowB⟩⟩, ⟨by rw [l_11_8]; exact ⟨rfl, lowB⟩⟩⟩
  · exact ⟨8, ⟨by rw [a_11_8]; exact ⟨rfl, lowB⟩⟩, ⟨by rw [l_11_8]; exact ⟨rfl, lowB⟩⟩⟩
  · exact ⟨0, ⟨by rw [a_11_8]; exact ⟨rfl, lowB⟩⟩, ⟨by rw [l_11_8]; exact ⟨rfl, lowB⟩⟩⟩
  · exact ⟨0, ⟨by rw [a_11_8]; exact ⟨rfl, lowB⟩⟩, ⟨by rw [l_11_8]; exact ⟨rfl, lowB⟩⟩⟩
  · exact ⟨0, ⟨by rw [a_11_8]; exact ⟨rfl, lowB⟩⟩, ⟨by rw [l_11_8]; exact ⟨rfl, lowB⟩⟩⟩
  · exact ⟨0, ⟨by rw [a_11_8]; exact ⟨rfl, lowB⟩⟩, ⟨by rw [l_11_8]; exact ⟨rfl, lowB⟩⟩⟩
  · exact ⟨3, ⟨by rw [a_11_8]; exact ⟨rfl, lowB⟩⟩, ⟨by rw [l_11_8]; exact ⟨rfl, lowB⟩⟩⟩
  · exact ⟨0, ⟨by rw [a_11_8]; exact ⟨rfl, lowB⟩⟩, ⟨by rw [l_11_8]; exact ⟨rfl, lowB⟩⟩⟩
  · exact ⟨0, ⟨by rw [a_11_8]; exact ⟨rfl, lowB⟩⟩, ⟨by rw [l_11_8]; exact ⟨rfl, lowB⟩⟩⟩
  · exact ⟨0, ⟨by rw [a_11_8]; exact ⟨rfl, lowB⟩⟩, ⟨by rw [l_11_8]; exact ⟨rfl, lowB⟩⟩⟩
  · exact ⟨0, ⟨by rw [a_11_8]; exact ⟨rfl, lowB⟩⟩, ⟨by rw [l_11_8]; exact ⟨rfl, lowB⟩⟩⟩
  · exact ⟨0, ⟨by rw [a_11_8]; exact ⟨rfl, lowB⟩⟩, ⟨by rw [l_11_8]; exact ⟨rfl, lowB⟩⟩⟩
  · exact ⟨0, ⟨by rw [a_11_8]; exact ⟨rfl, lowB⟩⟩, ⟨by rw [l_11_8]; exact ⟨rfl, lowB⟩⟩⟩
  · exact ⟨0, ⟨by rw [a_11_8]; exact ⟨rfl, lowB⟩⟩, ⟨by rw [l_11_8]; exact ⟨rfl, lowB⟩⟩⟩
theorem ag_11_9 {y : Int} (h0 : 0 ≤ y) (h1 : y < 16) : Agree (envP 285 [] []) 7 8 [.string ⟨#[47]⟩, .int .i64 9, .int .i64 y] := by
  rcases up16 h0 h1 with rfl | rfl | rfl | rfl | rfl | rfl | rfl | rfl | rfl | rfl | rfl | rfl | rfl | rfl | rfl | rfl
  · exact ⟨0, ⟨by rw [a_11_9]; exact ⟨rfl, lowB⟩⟩, ⟨by rw [l_11_9]; exact ⟨rfl, lowB⟩⟩⟩
  · exact ⟨0, ⟨by rw [a_11_9]; exact ⟨rfl, lowB⟩⟩, ⟨by rw [l_11_9]; exact ⟨rfl, lowB⟩⟩⟩
  · exact ⟨0, ⟨by rw [a_11_9]; exact ⟨rfl, lowB⟩⟩, ⟨by rw [l_11_9]; exact ⟨rfl, lowB⟩⟩⟩
  · exact ⟨9, ⟨by rw [a_11_9]; exact ⟨rfl, lowB⟩⟩, ⟨by rw [l_11_9]; exact ⟨rfl, lowB⟩⟩⟩
  · exact ⟨0, ⟨by rw [a_11_9]; exact ⟨rfl, lowB⟩⟩, ⟨by rw [l_11_9]; exact ⟨rfl, lowB⟩⟩⟩
  · exact ⟨0, ⟨by rw [a_11_9]; exact ⟨rfl, lowB⟩⟩, ⟨by rw [l_11_9]; exact ⟨rfl, lowB⟩⟩⟩
  · exact ⟨0, ⟨by rw [a_11_9]; exact ⟨rfl, lowB⟩⟩, ⟨by rw [l_11_9]; exact ⟨rfl, lowB⟩⟩⟩
  · exact ⟨0, ⟨by rw [a_11_9]; exact ⟨rfl, lowB⟩⟩, ⟨by rw [l_11_9]; exact ⟨rfl, lowB⟩⟩⟩
  · exact ⟨0, ⟨by rw [a_11_9]; exact ⟨rfl, lowB⟩⟩, ⟨by rw [l_11_9]; exact ⟨rfl, lowB⟩⟩⟩
  · exact ⟨3, ⟨by rw [a_11_9]; exact ⟨rfl, lowB⟩⟩, ⟨by rw [l_11_9]; exact ⟨rfl, lowB⟩⟩⟩
  · exact ⟨0, ⟨by rw [a_11_9]; exact ⟨rfl, lowB⟩⟩, ⟨by rw [l_11_9]; exact ⟨rfl, lowB⟩⟩⟩
  · exact ⟨0, ⟨by rw [a_11_9]; exact ⟨rfl, lowB⟩⟩, ⟨by rw [l_11_9]; exact ⟨rfl, lowB⟩⟩⟩
  · exact ⟨0, ⟨by rw [a_11_9]; exact ⟨rfl, lowB⟩⟩, ⟨by rw [l_11_9]; exact ⟨rfl, lowB⟩⟩⟩
  · exact ⟨0, ⟨by rw [a_11_9]; exact ⟨rfl, lowB⟩⟩, ⟨by rw [l_11_9]; exact ⟨rfl, lowB⟩⟩⟩
  · exact ⟨0, ⟨by rw [a_11_9]; exact ⟨rfl, lowB⟩⟩, ⟨by rw [l_11_9]; exact ⟨rfl, lowB⟩⟩⟩
  · exact ⟨0, ⟨by rw [a_11_9]; exact ⟨rfl, lowB⟩⟩, ⟨by rw [l_11_9]; exact ⟨rfl, lowB⟩⟩⟩
theorem ag_11_10 {y : Int} (h0 : 0 ≤ y) (h1 : y < 16) : Agree (envP 285 [] []) 7 8 [.string ⟨#[47]⟩, .int .i64 10, .int .i64 y] := by
  rcases up16 h0 h1 with rfl | rfl | rfl | rfl | rfl | rfl | rfl | rfl | rfl | rfl | rfl | rfl | rfl | rfl | rfl | rfl
  · exact ⟨0, ⟨by rw [a_11_10]; exact ⟨rfl, lowB⟩⟩, ⟨by rw [l_11_10]; exact ⟨rfl, lowB⟩⟩⟩
  · exact ⟨0, ⟨by rw [a_11_10]; exact ⟨rfl, lowB⟩⟩, ⟨by rw [l_11_10]; exact ⟨rfl, lowB⟩⟩⟩
  · exact ⟨0, ⟨by rw [a_11_10]; exact ⟨rfl, lowB⟩⟩, ⟨by rw [l_11_10]; exact ⟨rfl, lowB⟩⟩⟩
  · exact ⟨0, ⟨by rw [a_11_10]; exact ⟨rfl, lowB⟩⟩, ⟨by rw [l_11_10]; exact ⟨rfl, lowB⟩⟩⟩
  · exact ⟨0, ⟨by rw [a_11_10]; exact ⟨rfl, lowB⟩⟩, ⟨by rw [l_11_10]; exact ⟨rfl, lowB⟩⟩⟩
  · exact ⟨0, ⟨by rw [a_11_10]; exact ⟨rfl, lowB⟩⟩, ⟨by rw [l_11_10]; exact ⟨rfl, lowB⟩⟩⟩
  · exact ⟨0, ⟨by rw [a_11_10]; exact ⟨rfl, lowB⟩⟩, ⟨by rw [l_11_10]; exact ⟨rfl, lowB⟩⟩⟩
  · exact ⟨0, ⟨by rw [a_11_10]; exact ⟨rfl, lowB⟩⟩, ⟨by rw [l_11_10]; exact ⟨rfl, lowB⟩⟩⟩
  · exact ⟨0, ⟨by rw [a_11_10]; exact ⟨rfl, lowB⟩⟩, ⟨by rw [l_11_10]; exact ⟨rfl, lowB⟩⟩⟩
  · exact ⟨0, ⟨by rw [a_11_10]; exact ⟨rfl, lowB⟩⟩, ⟨by rw [l_11_10]; exact ⟨rfl, lowB⟩⟩⟩
  · exact ⟨0, ⟨by rw [a_11_10]; exact ⟨rfl, lowB⟩⟩, ⟨by rw [l_11_10]; exact ⟨rfl, lowB⟩⟩⟩
  · exact ⟨0, ⟨by rw [a_11_10]; exact ⟨rfl, lowB⟩⟩, ⟨by rw [l_11_10]; exact ⟨rfl, lowB⟩⟩⟩
  · exact ⟨0, ⟨by rw [a_11_10]; exact ⟨rfl, lowB⟩⟩, ⟨by rw [l_11_10]; exact ⟨rfl, lowB⟩⟩⟩
  · exact ⟨0, ⟨by rw [a_11_10]; exact ⟨rfl, lowB⟩⟩, ⟨by rw [l_11_10]; exact ⟨rfl, lowB⟩⟩⟩
  · exact ⟨0, ⟨by rw [a_11_10]; exact ⟨rfl, lowB⟩⟩, ⟨by rw [l_11_10]; exact ⟨rfl, lowB⟩⟩⟩
  · exact ⟨0, ⟨by rw [a_11_10]; exact ⟨rfl, lowB⟩⟩, ⟨by rw [l_11_10]; exact ⟨rfl, lowB⟩⟩⟩
theorem ag_11_11 {y : Int} (h0 : 0 ≤ y) (h1 : y < 16) : Agree (envP 285 [] []) 7 8 [.string ⟨#[47]⟩, .int .i64 11, .int .i64 y] := by
  rcases up16 h0 h1 with rfl | rfl | rfl | rfl | rfl | rfl | rfl | rfl | rfl | rfl | rfl | rfl | rfl | rfl | rfl | rfl
  · exact ⟨0, ⟨by rw [a_11_11]; exact ⟨rfl, lowB⟩⟩, ⟨by rw [l_11_11]; exact ⟨rfl, lowB⟩⟩⟩
  · exact ⟨0, ⟨by rw [a_11_11]; exact ⟨rfl, lowB⟩⟩, ⟨by rw [l_11_11]; exact ⟨rfl, lowB⟩⟩⟩
  · exact ⟨0, ⟨by rw [a_11_11]; exact ⟨rfl, lowB⟩⟩, ⟨by rw [l_11_11]; exact ⟨rfl, lowB⟩⟩⟩
  · exact ⟨0, ⟨by rw [a_11_11]; exact ⟨rfl, lowB⟩⟩, ⟨by rw [l_11_11]; exact ⟨rfl, lowB⟩⟩⟩
  · exact ⟨0, ⟨by rw [a_11_11]; exact ⟨rfl, lowB⟩⟩, ⟨by rw [l_11_11]; exact ⟨rfl, lowB⟩⟩⟩
  · exact ⟨0, ⟨by rw [a_11_11]; exact ⟨rfl, lowB⟩⟩, ⟨by rw [l_11_11]; exact ⟨rfl, lowB⟩⟩⟩
  · exact ⟨0, ⟨by rw [a_11_11]; exact ⟨rfl, lowB⟩⟩, ⟨by rw [l_11_11]; exact ⟨rfl, lowB⟩⟩⟩
  · exact ⟨0, ⟨by rw [a_11_11]; exact ⟨rfl, lowB⟩⟩, ⟨by rw [l_11_11]; exact ⟨rfl, lowB⟩⟩⟩
  · exact ⟨0, ⟨by rw [a_11_11]; exact ⟨rfl, lowB⟩⟩, ⟨by rw [l_11_11]; exact ⟨rfl, lowB⟩⟩⟩
  · exact ⟨0, ⟨by rw [a_11_11]; exact ⟨rfl, lowB⟩⟩, ⟨by rw [l_11_11]; exact ⟨rfl, lowB⟩⟩⟩
  · exact ⟨0, ⟨by rw [a_11_11]; exact ⟨rfl, lowB⟩⟩, ⟨by rw [l_11_11]; exact ⟨rfl, lowB⟩⟩⟩
  · exact ⟨0, ⟨by rw [a_11_11]; exact ⟨rfl, lowB⟩⟩, ⟨by rw [l_11_11]; exact ⟨rfl, lowB⟩⟩⟩
  · exact ⟨0, ⟨by rw [a_11_11]; exact ⟨rfl, lowB⟩⟩, ⟨by rw [l_11_11]; exact ⟨rfl, lowB⟩⟩⟩
  · exact ⟨0, ⟨by rw [a_11_11]; exact ⟨rfl, lowB⟩⟩, ⟨by rw [l_11_11]; exact ⟨rfl, lowB⟩⟩⟩
  · exact ⟨0, ⟨by rw [a_11_11]; exact ⟨rfl, lowB⟩⟩, ⟨by rw [l_11_11]; exact ⟨rfl, lowB⟩⟩⟩
  · exact ⟨0, ⟨by rw [a_11_11]; exact ⟨rfl, lowB⟩⟩, ⟨by rw [l_11_11]; exact ⟨rfl, lowB⟩⟩⟩
theorem ag_11_12 {y : Int} (h0 : 0 ≤ y) (h1 : y < 16) : Agree (envP 285 [] []) 7 8 [.string ⟨#[47]⟩, .int .i64 12, .int .i64 y] := by
  rcases up16 h0 h1 with rfl | rfl | rfl | rfl | rfl | rfl | rfl | rfl | rfl | rfl | rfl | rfl | rfl | rfl | rfl | rfl
  · exact ⟨0, ⟨by rw [a_11_12]; exact ⟨rfl, lowB⟩⟩, ⟨by rw [l_11_12]; exact ⟨rfl, lowB⟩⟩⟩
  · exact ⟨0, ⟨by rw [a_11_12]; exact ⟨rfl, lowB⟩⟩, ⟨by rw [l_11_12]; exact ⟨rfl, lowB⟩⟩⟩
  · exact ⟨0, ⟨by rw [a_11_12]; exact ⟨rfl, lowB⟩⟩, ⟨by rw [l_11_12]; exact ⟨rfl, lowB⟩⟩⟩
  · exact ⟨0, ⟨by rw [a_11_12]; exact ⟨rfl, lowB⟩⟩, ⟨by rw [l_11_12]; exact ⟨rfl, lowB⟩⟩⟩
  · exact ⟨0, ⟨by rw [a_11_12]; exact ⟨rfl, lowB⟩⟩, ⟨by rw [l_11_12]; exact ⟨rfl, lowB⟩⟩⟩
  · exact ⟨0, ⟨by rw [a_11_12]; exact ⟨rfl, lowB⟩⟩, ⟨by rw [l_11_12]; exact ⟨rfl, lowB⟩⟩⟩
  · exact ⟨0, ⟨by rw [a_11_12]; exact ⟨rfl, lowB⟩⟩, ⟨by rw [l_11_12]; exact ⟨rfl, lowB⟩⟩⟩
  · exact ⟨0, ⟨by rw [a_11_12]; exact ⟨rfl, lowB⟩⟩, ⟨by rw [l_11_12]; exact ⟨rfl, lowB⟩⟩⟩
  · exact ⟨0, ⟨by rw [a_11_12]; exact ⟨rfl, lowB⟩⟩, ⟨by rw [l_11_12]; exact ⟨rfl, lowB⟩⟩⟩
  · exact ⟨0, ⟨by rw [a_11_12]; exact ⟨rfl, lowB⟩⟩, ⟨by rw [l_11_12]; exact ⟨rfl, lowB⟩⟩⟩
  · exact ⟨0, ⟨by rw [a_11_12]; exact ⟨rfl, lowB⟩⟩, ⟨by rw [l_11_12]; exact ⟨rfl, lowB⟩⟩⟩
  · exact ⟨0, ⟨by rw [a_11_12]; exact ⟨rfl, lowB⟩⟩, ⟨by rw [l_11_12]; exact ⟨rfl, lowB⟩⟩⟩
  · exact ⟨0, ⟨by rw [a_11_12]; exact ⟨rfl, lowB⟩⟩, ⟨by rw [l_11_12]; exact ⟨rfl, lowB⟩⟩⟩
  · exact ⟨0, ⟨by rw [a_11_12]; exact ⟨rfl, lowB⟩⟩, ⟨by rw [l_11_12]; exact ⟨rfl, lowB⟩⟩⟩
  · exact ⟨0, ⟨by rw [a_11_12]; exact ⟨rfl, lowB⟩⟩, ⟨by rw [l_11_12]; exact ⟨rfl, lowB⟩⟩⟩
  · exact ⟨0, ⟨by rw [a_11_12]; exact ⟨rfl, lowB⟩⟩, ⟨by rw [l_11_12]; exact ⟨rfl, lowB⟩⟩⟩
theorem ag_11_13 {y : Int} (h0 : 0 ≤ y) (h1 : y < 16) : Agree (envP 285 [] []) 7 8 [.string ⟨#[47]⟩, .int .i64 13, .int .i64 y] := by
  rcases up16 h0 h1 with rfl | rfl | rfl | rfl | rfl | rfl | rfl | rfl | rfl | rfl | rfl | rfl | rfl | rfl | rfl | rfl
  · exact ⟨0, ⟨by rw [a_11_13]; exact ⟨rfl, lowB⟩⟩, ⟨by rw [l_11_13]; exact ⟨rfl, lowB⟩⟩⟩
  · exact ⟨0, ⟨by rw [a_11_13]; exact ⟨rfl, lowB⟩⟩, ⟨by rw [l_11_13]; exact ⟨rfl, lowB⟩⟩⟩
  · exact ⟨0, ⟨by rw [a_11_13]; exact ⟨rfl, lowB⟩⟩, ⟨by rw [l_11_13]; exact ⟨rfl, lowB⟩⟩⟩
  · exact ⟨0, ⟨by rw [a_11_13]; exact ⟨rfl, lowB⟩⟩, ⟨by rw [l_11_13]; exact ⟨rfl, lowB⟩⟩⟩
  · exact ⟨0, ⟨by rw [a_11_13]; exact ⟨rfl, lowB⟩⟩, ⟨by rw [l_11_13]; exact ⟨rfl, lowB⟩⟩⟩
  · exact ⟨0, ⟨by rw [a_11_13]; exact ⟨rfl, lowB⟩⟩, ⟨by rw [l_11_13]; exact ⟨rfl, lowB⟩⟩⟩
  · exact ⟨0, ⟨by rw [a_11_13]; exact ⟨rfl, lowB⟩⟩, ⟨by rw [l_11_13]; exact ⟨rfl, lowB⟩⟩⟩
  · exact ⟨0, ⟨by rw [a_11_13]; exact ⟨rfl, lowB⟩⟩, ⟨by rw [l_11_13]; exact ⟨rfl, lowB⟩⟩⟩
  · exact ⟨0, ⟨by rw [a_11_13]; exact ⟨rfl, lowB⟩⟩, ⟨by rw [l_11_13]; exact ⟨rfl, lowB⟩⟩⟩
  · exact ⟨0, ⟨by rw [a_11_13]; exact ⟨rfl, lowB⟩⟩, ⟨by rw [l_11_13]; exact ⟨rfl, lowB⟩⟩⟩
  · exact ⟨0, ⟨by rw [a_11_13]; exact ⟨rfl, lowB⟩⟩, ⟨by rw [l_11_13]; exact ⟨rfl, lowB⟩⟩⟩
  · exact ⟨0, ⟨by rw [a_11_13]; exact ⟨rfl, lowB⟩⟩, ⟨by rw [l_11_13]; exact ⟨rfl, lowB⟩⟩⟩
  · exact ⟨0, ⟨by rw [a_11_13]; exact ⟨rfl, lowB⟩⟩, ⟨by rw [l_11_13]; exact ⟨rfl, lowB⟩⟩⟩
  · exact ⟨0, ⟨by rw [a_11_13]; exact ⟨rfl, lowB⟩⟩, ⟨by rw [l_11_13]; exact ⟨rfl, lowB⟩⟩⟩
  · exact ⟨0, ⟨by rw [a_11_13]; exact ⟨rfl, lowB⟩⟩, ⟨by rw [l_11_13]; exact ⟨rfl, lowB⟩⟩⟩
  · exact ⟨0, ⟨by rw [a_11_13]; exact ⟨rfl, lowB⟩⟩, ⟨by rw [l_11_13]; exact ⟨rfl, lowB⟩⟩⟩
theorem ag_11_14 {y : Int} (h0 : 0 ≤ y) (h1 : y < 16) : Agree (envP 285 [] []) 7 8 [.string ⟨#[47]⟩, .int .i64 14, .int .i64 y] := by
  rcases up16 h0 h1 with rfl | rfl | rfl | rfl | rfl | rfl | rfl | rfl | rfl | rfl | rfl | rfl | rfl | rfl | rfl | rfl
  · exact ⟨0, ⟨by rw [a_11_14]; exact ⟨rfl, lowB⟩⟩, ⟨by rw [l_11_14]; exact ⟨rfl, lowB⟩⟩⟩
  · exact ⟨0, ⟨by rw [a_11_14]; exact ⟨rfl, lowB⟩⟩, ⟨by rw [l_11_14]; exact ⟨rfl, lowB⟩⟩⟩
  · exact ⟨0, ⟨by rw [a_11_14]; exact ⟨rfl, lowB⟩⟩, ⟨by rw [l_11_14]; exact ⟨rfl, lowB⟩⟩⟩
  · exact ⟨0, ⟨by rw [a_11_14]; exact ⟨rfl, lowB⟩⟩, ⟨by rw [l_11_14]; exact ⟨rfl, lowB⟩⟩⟩
  · exact ⟨0, ⟨by rw [a_11_14]; exact ⟨rfl, lowB⟩⟩, ⟨by rw [l_11_14]; exact ⟨rfl, lowB⟩⟩⟩
  · exact ⟨0, ⟨by rw [a_11_14]; exact ⟨rfl, lowB⟩⟩, ⟨by rw [l_11_14]; exact ⟨rfl, lowB⟩⟩⟩
  · exact ⟨0, ⟨by rw [a_11_14]; exact ⟨rfl, lowB⟩⟩, ⟨by rw [l_11_14]; exact ⟨rfl, lowB⟩⟩⟩
  · exact ⟨0, ⟨by rw [a_11_14]; exact ⟨rfl, lowB⟩⟩, ⟨by rw [l_11_14]; exact ⟨rfl, lowB⟩⟩⟩
  · exact ⟨0, ⟨by rw [a_11_14]; exact ⟨rfl, lowB⟩⟩, ⟨by rw [l_11_14]; exact ⟨rfl, lowB⟩⟩⟩
  · exact ⟨0, ⟨by rw [a_11_14]; exact ⟨rfl, lowB⟩⟩, ⟨by rw [l_11_14]; exact ⟨rfl, lowB⟩⟩⟩
  · exact ⟨0, ⟨by rw [a_11_14]; exact ⟨rfl, lowB⟩⟩, ⟨by rw [l_11_14]; exact ⟨rfl, lowB⟩⟩⟩
  · exact ⟨0, ⟨by rw [a_11_14]; exact ⟨rfl, lowB⟩⟩, ⟨by rw [l_11_14]; exact ⟨rfl, lowB⟩⟩⟩
  · exact ⟨0, ⟨by rw [a_11_14]; exact ⟨rfl, lowB⟩⟩, ⟨by rw [l_11_14]; exact ⟨rfl, lowB⟩⟩⟩
  · exact ⟨0, ⟨by rw [a_11_14]; exact ⟨rfl, lowB⟩⟩, ⟨by rw [l_11_14]; exact ⟨rfl, lowB⟩⟩⟩
  · exact ⟨0, ⟨by rw [a_11_14]; exact ⟨rfl, lowB⟩⟩, ⟨by rw [l_11_14]; exact ⟨rfl, lowB⟩⟩⟩
  · exact ⟨0, ⟨by rw [a_11_14]; exact ⟨rfl, lowB⟩⟩, ⟨by rw [l_11_14]; exact ⟨rfl, lowB⟩⟩⟩
theorem ag_11_15 {y : Int} (h0 : 0 ≤ y) (h1 : y < 16) : Agree (envP 285 [] []) 7 8 [.string ⟨#[47]⟩, .int .i64 15, .int .i64 y] := by
  rcases up16 h0 h1 with rfl | rfl | rfl | rfl | rfl | rfl | rfl | rfl | rfl | rfl | rfl | rfl | rfl | rfl | rfl | rfl
  · exact ⟨0, ⟨by rw [a_11_15]; exact ⟨rfl, lowB⟩⟩, ⟨by rw [l_11_15]; exact ⟨rfl, lowB⟩⟩⟩
  · exact ⟨0, ⟨by rw [a_11_15]; exact ⟨rfl, lowB⟩⟩, ⟨by rw [l_11_15]; exact ⟨rfl, lowB⟩⟩⟩
  · exact ⟨0, ⟨by rw [a_11_15]; exact ⟨rfl, lowB⟩⟩, ⟨by rw [l_11_15]; exact ⟨rfl, lowB⟩⟩⟩
  · exact ⟨0, ⟨by rw [a_11_15]; exact ⟨rfl, lowB⟩⟩, ⟨by rw [l_11_15]; exact ⟨rfl, lowB⟩⟩⟩
  · exact ⟨0, ⟨by rw [a_11_15]; exact ⟨rfl, lowB⟩⟩, ⟨by rw [l_11_15]; exact ⟨rfl, lowB⟩⟩⟩
  · exact ⟨0, ⟨by rw [a_11_15]; exact ⟨rfl, lowB⟩⟩, ⟨by rw [l_11_15]; exact ⟨rfl, lowB⟩⟩⟩
  · exact ⟨0, ⟨by rw [a_11_15]; exact ⟨rfl, lowB⟩⟩, ⟨by rw [l_11_15]; exact ⟨rfl, lowB⟩⟩⟩
  · exact ⟨0, ⟨by rw [a_11_15]; exact ⟨rfl, lowB⟩⟩, ⟨by rw [l_11_15]; exact ⟨rfl, lowB⟩⟩⟩
  · exact ⟨0, ⟨by rw [a_11_15]; exact ⟨rfl, lowB⟩⟩, ⟨by rw [l_11_15]; exact ⟨rfl, lowB⟩⟩⟩
  · exact ⟨0, ⟨by rw [a_11_15]; exact ⟨rfl, lowB⟩⟩, ⟨by rw [l_11_15]; exact ⟨rfl, lowB⟩⟩⟩
  · exact ⟨0, ⟨by rw [a_11_15]; exact ⟨rfl, lowB⟩⟩, ⟨by rw [l_11_15]; exact ⟨rfl, lowB⟩⟩⟩
  · exact ⟨0, ⟨by rw [a_11_15]; exact ⟨rfl, lowB⟩⟩, ⟨by rw [l_11_15]; exact ⟨rfl, lowB⟩⟩⟩
  · exact ⟨0, ⟨by rw [a_11_15]; exact ⟨rfl, lowB⟩⟩, ⟨by rw [l_11_15]; exact ⟨rfl, lowB⟩⟩⟩
  · exact ⟨0, ⟨by rw [a_11_15]; exact ⟨rfl, lowB⟩⟩, ⟨by rw [l_11_15]; exact ⟨rfl, lowB⟩⟩⟩
  · exact ⟨0, ⟨by rw [a_11_15]; exact ⟨rfl, lowB⟩⟩, ⟨by rw [l_11_15]; exact ⟨rfl, lowB⟩⟩⟩
  · exact ⟨0, ⟨by rw [a_11_15]; exact ⟨rfl, lowB⟩⟩, ⟨by rw [l_11_15]; exact ⟨rfl, lowB⟩⟩⟩
theorem ag_11 {x y : Int} (g0 : 0 ≤ x) (g1 : x < 16) (h0 : 0 ≤ y) (h1 : y < 16) : Agree (envP 285 [] []) 7 8 [.string ⟨#[47]⟩, .int .i64 x, .int .i64 y] := by
  rcases up16 g0 g1 with rfl | rfl | rfl | rfl | rfl | rfl | rfl | rfl | rfl | rfl | rfl | rfl | rfl | rfl | rfl | rfl
  · exact ag_11_0 h0 h1
  · exact ag_11_1 h0 h1
  · exact ag_11_2 h0 h1
  · exact ag_11_3 h0 h1
  · exact ag_11_4 h0 h1
  · exact ag_11_5 h0 h1
  · exact ag_11_6 h0 h1
  · exact ag_11_7 h0 h1
  · exact ag_11_8 h0 h1
  · exact ag_11_9 h0 h1
  · exact ag_11_10 h0 h1
  · exact ag_11_11 h0 h1
  · exact ag_11_12 h0 h1
  · exact ag_11_13 h0 h1
  · exact ag_11_14 h0 h1
  · exact ag_11_15 h0 h1
theorem ag_12 {x y : Int} : Agree (envP 285 [] []) 7 8 [.string ⟨#[42, 42]⟩, .int .i64 x, .int .i64 y] := by
  by_cases h : x = 3 ∧ y = 3
  · obtain ⟨rfl, rfl⟩ := h
    refine ⟨3, ⟨?_⟩, ⟨?_⟩⟩
    · rw [a_12]
      exact ⟨rfl, lowB⟩
    · rw [l_12]
      exact ⟨rfl, lowB⟩
  · refine ⟨0, ⟨?_⟩, ⟨?_⟩⟩
    · rw [a_12]
      repeat' (first | exact ⟨rfl, lowB⟩ | refine bsel_of (fun _ => ?_) (fun _ => ?_))
      all_goals (exfalso; simp_all)
    · rw [l_12]
      repeat' (first | exact ⟨rfl, lowB⟩ | refine bsel_of (fun _ => ?_) (fun _ => ?_))
      all_goals (exfalso; simp_all)
theorem ag_n {op : ByteArray} (h0 : strEq op ⟨#[111, 114]⟩ = false) (h1 : strEq op ⟨#[97, 110, 100]⟩ = false) (h2 : strEq op ⟨#[61]⟩ = false) (h3 : strEq op ⟨#[33, 61]⟩ = false) (h4 : strEq op ⟨#[60]⟩ = false) (h5 : strEq op ⟨#[60, 61]⟩ = false) (h6 : strEq op ⟨#[62]⟩ = false) (h7 : strEq op ⟨#[62, 61]⟩ = false) (h8 : strEq op ⟨#[43]⟩ = false) (h9 : strEq op ⟨#[45]⟩ = false) (h10 : strEq op ⟨#[42]⟩ = false) (h11 : strEq op ⟨#[47]⟩ = false) (h12 : strEq op ⟨#[42, 42]⟩ = false) (x y : Int) : Agree (envNo []) 7 8 [.string op, .int .i64 x, .int .i64 y] := by
  refine ⟨0, ⟨?_⟩, ⟨?_⟩⟩
  · rw [a_n]
    repeat' (first | exact ⟨rfl, lowB⟩ | assumption | refine And.intro (by assumption) ?_ | refine bsel_of (fun _ => ?_) (fun _ => ?_))
  · rw [l_n]
    repeat' (first | exact ⟨rfl, lowB⟩ | assumption | refine And.intro (by assumption) ?_ | refine bsel_of (fun _ => ?_) (fun _ => ?_))
/-- The document's table of two kinds by an operator. -/
theorem arith_same {base : World} (op : ByteArray) {x y : Int} (g0 : 0 ≤ x) (g1 : x < 16) (h0 : 0 ≤ y) (h1 : y < 16) : ∃ r, TotP base 7 [.string op, .int .i64 x, .int .i64 y] (.int .i64 r) ∧ TotP base 8 [.string op, .int .i64 x, .int .i64 y] (.int .i64 r) := by
  by_cases e0 : strEq op ⟨#[111, 114]⟩ = true
  · obtain rfl := strEq_of e0
    obtain ⟨r, q1, q2⟩ := ag_0 (x := x) (y := y)
    exact ⟨r, q1.tot base (args3 _ _ _), q2.tot base (args3 _ _ _)⟩
  by_cases e1 : strEq op ⟨#[97, 110, 100]⟩ = true
  · obtain rfl := strEq_of e1
    obtain ⟨r, q1, q2⟩ := ag_1 (x := x) (y := y)
    exact ⟨r, q1.tot base (args3 _ _ _), q2.tot base (args3 _ _ _)⟩
  by_cases e2 : strEq op ⟨#[61]⟩ = true
  · obtain rfl := strEq_of e2
    obtain ⟨r, q1, q2⟩ := ag_2 (x := x) (y := y)
    exact ⟨r, q1.tot base (args3 _ _ _), q2.tot base (args3 _ _ _)⟩
  by_cases e3 : strEq op ⟨#[33, 61]⟩ = true
  · obtain rfl := strEq_of e3
    obtain ⟨r, q1, q2⟩ := ag_3 (x := x) (y := y)
    exact ⟨r, q1.tot base (args3 _ _ _), q2.tot base (args3 _ _ _)⟩
  by_cases e4 : strEq op ⟨#[60]⟩ = true
  · obtain rfl := strEq_of e4
    obtain ⟨r, q1, q2⟩ := ag_4 (x := x) (y := y)
    exact ⟨r, q1.tot base (args3 _ _ _), q2.tot base (args3 _ _ _)⟩
  by_cases e5 : strEq op ⟨#[60, 61]⟩ = true
  · obtain rfl := strEq_of e5
    obtain ⟨r, q1, q2⟩ := ag_5 (x := x) (y := y)
    exact ⟨r, q1.tot base (args3 _ _ _), q2.tot base (args3 _ _ _)⟩
  by_cases e6 : strEq op ⟨#[62]⟩ = true
  · obtain rfl := strEq_of e6
    obtain ⟨r, q1, q2⟩ := ag_6 (x := x) (y := y)
    exact ⟨r, q1.tot base (args3 _ _ _), q2.tot base (args3 _ _ _)⟩
  by_cases e7 : strEq op ⟨#[62, 61]⟩ = true
  · obtain rfl := strEq_of e7
    obtain ⟨r, q1, q2⟩ := ag_7 (x := x) (y := y)
    exact ⟨r, q1.tot base (args3 _ _ _), q2.tot base (args3 _ _ _)⟩
  by_cases e8 : strEq op ⟨#[43]⟩ = true
  · obtain rfl := strEq_of e8
    obtain ⟨r, q1, q2⟩ := ag_8 g0 g1 h0 h1
    exact ⟨r, q1.tot base (args3 _ _ _), q2.tot base (args3 _ _ _)⟩
  by_cases e9 : strEq op ⟨#[45]⟩ = true
  · obtain rfl := strEq_of e9
    obtain ⟨r, q1, q2⟩ := ag_9 g0 g1 h0 h1
    exact ⟨r, q1.tot base (args3 _ _ _), q2.tot base (args3 _ _ _)⟩
  by_cases e10 : strEq op ⟨#[42]⟩ = true
  · obtain rfl := strEq_of e10
    obtain ⟨r, q1, q2⟩ := ag_10 g0 g1 h0 h1
    exact ⟨r, q1.tot base (args3 _ _ _), q2.tot base (args3 _ _ _)⟩
  by_cases e11 : strEq op ⟨#[47]⟩ = true
  · obtain rfl := strEq_of e11
    obtain ⟨r, q1, q2⟩ := ag_11 g0 g1 h0 h1
    exact ⟨r, q1.tot base (args3 _ _ _), q2.tot base (args3 _ _ _)⟩
  by_cases e12 : strEq op ⟨#[42, 42]⟩ = true
  · obtain rfl := strEq_of e12
    obtain ⟨r, q1, q2⟩ := ag_12 (x := x) (y := y)
    exact ⟨r, q1.tot base (args3 _ _ _), q2.tot base (args3 _ _ _)⟩
  obtain ⟨r, q1, q2⟩ := ag_n (by simpa using e0) (by simpa using e1) (by simpa using e2) (by simpa using e3) (by simpa using e4) (by simpa using e5) (by simpa using e6) (by simpa using e7) (by simpa using e8) (by simpa using e9) (by simpa using e10) (by simpa using e11) (by simpa using e12) x y
  exact ⟨r, q1.totN base (args3 _ _ _), q2.totN base (args3 _ _ _)⟩
end Go.Proofs.YtamkkkkonigglaaGreatDoor
