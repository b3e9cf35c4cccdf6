/-
  check.Part is the law's table; the law CheckTables' run.
-/
import Derived.Test.YtamkkkkonigglaaGreatDoorCm
import Derived.Test.YtamkkkkonigglaaGreatDoorCn
import Derived.Test.YtamkkkkonigglaaGreatDoorCo
import Derived.Test.YtamkkkkonigglaaGreatDoorCf
import Derived.Test.YtamkkkkonigglaaGreatDoorQf
namespace Go.Proofs.YtamkkkkonigglaaGreatDoor
open Go Go.Pe Go.RowKit

theorem args2 (s : ByteArray) (x : Int) : ∀ v ∈ [Value.int .i64 x, Value.string s], pureV 6 v = true := List.forall_mem_cons.2 ⟨rfl, List.forall_mem_cons.2 ⟨rfl, fun _ h => by cases h⟩⟩
theorem pg_0 {x : Int} (h0 : 0 ≤ x) (h1 : x < 16) : Agree (envP 285 [] []) 9 10 [.int .i64 x, .string ⟨#[121, 101, 97, 114]⟩] := by
  rcases up16 h0 h1 with rfl | rfl | rfl | rfl | rfl | rfl | rfl | rfl | rfl | rfl | rfl | rfl | rfl | rfl | rfl | rfl
  · exact ⟨0, ⟨by rw [pt_0]; exact ⟨rfl, lowB⟩⟩, ⟨by rw [lp_0]; exact ⟨rfl, lowB⟩⟩⟩
  · exact ⟨0, ⟨by rw [pt_0]; exact ⟨rfl, lowB⟩⟩, ⟨by rw [lp_0]; exact ⟨rfl, lowB⟩⟩⟩
  · exact ⟨0, ⟨by rw [pt_0]; exact ⟨rfl, lowB⟩⟩, ⟨by rw [lp_0]; exact ⟨rfl, lowB⟩⟩⟩
  · exact ⟨0, ⟨by rw [pt_0]; exact ⟨rfl, lowB⟩⟩, ⟨by rw [lp_0]; exact ⟨rfl, lowB⟩⟩⟩
  · exact ⟨0, ⟨by rw [pt_0]; exact ⟨rfl, lowB⟩⟩, ⟨by rw [lp_0]; exact ⟨rfl, lowB⟩⟩⟩
  · exact ⟨3, ⟨by rw [pt_0]; exact ⟨rfl, lowB⟩⟩, ⟨by rw [lp_0]; exact ⟨rfl, lowB⟩⟩⟩
  · exact ⟨0, ⟨by rw [pt_0]; exact ⟨rfl, lowB⟩⟩, ⟨by rw [lp_0]; exact ⟨rfl, lowB⟩⟩⟩
  · exact ⟨3, ⟨by rw [pt_0]; exact ⟨rfl, lowB⟩⟩, ⟨by rw [lp_0]; exact ⟨rfl, lowB⟩⟩⟩
  · exact ⟨0, ⟨by rw [pt_0]; exact ⟨rfl, lowB⟩⟩, ⟨by rw [lp_0]; exact ⟨rfl, lowB⟩⟩⟩
  · exact ⟨0, ⟨by rw [pt_0]; exact ⟨rfl, lowB⟩⟩, ⟨by rw [lp_0]; exact ⟨rfl, lowB⟩⟩⟩
  · exact ⟨0, ⟨by rw [pt_0]; exact ⟨rfl, lowB⟩⟩, ⟨by rw [lp_0]; exact ⟨rfl, lowB⟩⟩⟩
  · exact ⟨0, ⟨by rw [pt_0]; exact ⟨rfl, lowB⟩⟩, ⟨by rw [lp_0]; exact ⟨rfl, lowB⟩⟩⟩
  · exact ⟨0, ⟨by rw [pt_0]; exact ⟨rfl, lowB⟩⟩, ⟨by rw [lp_0]; exact ⟨rfl, lowB⟩⟩⟩
  · exact ⟨0, ⟨by rw [pt_0]; exact ⟨rfl, lowB⟩⟩, ⟨by rw [lp_0]; exact ⟨rfl, lowB⟩⟩⟩
  · exact ⟨0, ⟨by rw [pt_0]; exact ⟨rfl, lowB⟩⟩, ⟨by rw [lp_0]; exact ⟨rfl, lowB⟩⟩⟩
  · exact ⟨0, ⟨by rw [pt_0]; exact ⟨rfl, lowB⟩⟩, ⟨by rw [lp_0]; exact ⟨rfl, lowB⟩⟩⟩
theorem pg_1 {x : Int} (h0 : 0 ≤ x) (h1 : x < 16) : Agree (envP 285 [] []) 9 10 [.int .i64 x, .string ⟨#[109, 111, 110, 116, 104]⟩] := by
  rcases up16 h0 h1 with rfl | rfl | rfl | rfl | rfl | rfl | rfl | rfl | rfl | rfl | rfl | rfl | rfl | rfl | rfl | rfl
  · exact ⟨0, ⟨by rw [pt_1]; exact ⟨rfl, lowB⟩⟩, ⟨by rw [lp_1]; exact ⟨rfl, lowB⟩⟩⟩
  · exact ⟨0, ⟨by rw [pt_1]; exact ⟨rfl, lowB⟩⟩, ⟨by rw [lp_1]; exact ⟨rfl, lowB⟩⟩⟩
  · exact ⟨0, ⟨by rw [pt_1]; exact ⟨rfl, lowB⟩⟩, ⟨by rw [lp_1]; exact ⟨rfl, lowB⟩⟩⟩
  · exact ⟨0, ⟨by rw [pt_1]; exact ⟨rfl, lowB⟩⟩, ⟨by rw [lp_1]; exact ⟨rfl, lowB⟩⟩⟩
  · exact ⟨0, ⟨by rw [pt_1]; exact ⟨rfl, lowB⟩⟩, ⟨by rw [lp_1]; exact ⟨rfl, lowB⟩⟩⟩
  · exact ⟨3, ⟨by rw [pt_1]; exact ⟨rfl, lowB⟩⟩, ⟨by rw [lp_1]; exact ⟨rfl, lowB⟩⟩⟩
  · exact ⟨0, ⟨by rw [pt_1]; exact ⟨rfl, lowB⟩⟩, ⟨by rw [lp_1]; exact ⟨rfl, lowB⟩⟩⟩
  · exact ⟨3, ⟨by rw [pt_1]; exact ⟨rfl, lowB⟩⟩, ⟨by rw [lp_1]; exact ⟨rfl, lowB⟩⟩⟩
  · exact ⟨0, ⟨by rw [pt_1]; exact ⟨rfl, lowB⟩⟩, ⟨by rw [lp_1]; exact ⟨rfl, lowB⟩⟩⟩
  · exact ⟨0, ⟨by rw [pt_1]; exact ⟨rfl, lowB⟩⟩, ⟨by rw [lp_1]; exact ⟨rfl, lowB⟩⟩⟩
  · exact ⟨0, ⟨by rw [pt_1]; exact ⟨rfl, lowB⟩⟩, ⟨by rw [lp_1]; exact ⟨rfl, lowB⟩⟩⟩
  · exact ⟨0, ⟨by rw [pt_1]; exact ⟨rfl, lowB⟩⟩, ⟨by rw [lp_1]; exact ⟨rfl, lowB⟩⟩⟩
  · exact ⟨0, ⟨by rw [pt_1]; exact ⟨rfl, lowB⟩⟩, ⟨by rw [lp_1]; exact ⟨rfl, lowB⟩⟩⟩
  · exact ⟨0, ⟨by rw [pt_1]; exact ⟨rfl, lowB⟩⟩, ⟨by rw [lp_1]; exact ⟨rfl, lowB⟩⟩⟩
  · exact ⟨0, ⟨by rw [pt_1]; exact ⟨rfl, lowB⟩⟩, ⟨by rw [lp_1]; exact ⟨rfl, lowB⟩⟩⟩
  · exact ⟨0, ⟨by rw [pt_1]; exact ⟨rfl, lowB⟩⟩, ⟨by rw [lp_1]; exact ⟨rfl, lowB⟩⟩⟩
theorem pg_2 {x : Int} (h0 : 0 ≤ x) (h1 : x < 16) : Agree (envP 285 [] []) 9 10 [.int .i64 x, .string ⟨#[100, 97, 121]⟩] := by
  rcases up16 h0 h1 with rfl | rfl | rfl | rfl | rfl | rfl | rfl | rfl | rfl | rfl | rfl | rfl | rfl | rfl | rfl | rfl
  · exact ⟨0, ⟨by rw [pt_2]; exact ⟨rfl, lowB⟩⟩, ⟨by rw [lp_2]; exact ⟨rfl, lowB⟩⟩⟩
  · exact ⟨0, ⟨by rw [pt_2]; exact ⟨rfl, lowB⟩⟩, ⟨by rw [lp_2]; exact ⟨rfl, lowB⟩⟩⟩
  · exact ⟨0, ⟨by rw [pt_2]; exact ⟨rfl, lowB⟩⟩, ⟨by rw [lp_2]; exact ⟨rfl, lowB⟩⟩⟩
  · exact ⟨0, ⟨by rw [pt_2]; exact ⟨rfl, lowB⟩⟩, ⟨by rw [lp_2]; exact ⟨rfl, lowB⟩⟩⟩
  · exact ⟨0, ⟨by rw [pt_2]; exact ⟨rfl, lowB⟩⟩, ⟨by rw [lp_2]; exact ⟨rfl, lowB⟩⟩⟩
  · exact ⟨3, ⟨by rw [pt_2]; exact ⟨rfl, lowB⟩⟩, ⟨by rw [lp_2]; exact ⟨rfl, lowB⟩⟩⟩
  · exact ⟨0, ⟨by rw [pt_2]; exact ⟨rfl, lowB⟩⟩, ⟨by rw [lp_2]; exact ⟨rfl, lowB⟩⟩⟩
  · exact ⟨3, ⟨by rw [pt_2]; exact ⟨rfl, lowB⟩⟩, ⟨by rw [lp_2]; exact ⟨rfl, lowB⟩⟩⟩
  · exact ⟨0, ⟨by rw [pt_2]; exact ⟨rfl, lowB⟩⟩, ⟨by rw [lp_2]; exact ⟨rfl, lowB⟩⟩⟩
  · exact ⟨0, ⟨by rw [pt_2]; exact ⟨rfl, lowB⟩⟩, ⟨by rw [lp_2]; exact ⟨rfl, lowB⟩⟩⟩
  · exact ⟨0, ⟨by rw [pt_2]; exact ⟨rfl, lowB⟩⟩, ⟨by rw [lp_2]; exact ⟨rfl, lowB⟩⟩⟩
  · exact ⟨0, ⟨by rw [pt_2]; exact ⟨rfl, lowB⟩⟩, ⟨by rw [lp_2]; exact ⟨rfl, lowB⟩⟩⟩
  · exact ⟨0, ⟨by rw [pt_2]; exact ⟨rfl, lowB⟩⟩, ⟨by rw [lp_2]; exact ⟨rfl, lowB⟩⟩⟩
  · exact ⟨0, ⟨by rw [pt_2]; exact ⟨rfl, lowB⟩⟩, ⟨by rw [lp_2]; exact ⟨rfl, lowB⟩⟩⟩
  · exact ⟨0, ⟨by rw [pt_2]; exact ⟨rfl, lowB⟩⟩, ⟨by rw [lp_2]; exact ⟨rfl, lowB⟩⟩⟩
  · exact ⟨0, ⟨by rw [pt_2]; exact ⟨rfl, lowB⟩⟩, ⟨by rw [lp_2]; exact ⟨rfl, lowB⟩⟩⟩
theorem pg_3 {x : Int} (h0 : 0 ≤ x) (h1 : x < 16) : Agree (envP 285 [] []) 9 10 [.int .i64 x, .string ⟨#[119, 101, 101, 107, 100, 97, 121]⟩] := by
  rcases up16 h0 h1 with rfl | rfl | rfl | rfl | rfl | rfl | rfl | rfl | rfl | rfl | rfl | rfl | rfl | rfl | rfl | rfl
  · exact ⟨0, ⟨by rw [pt_3]; exact ⟨rfl, lowB⟩⟩, ⟨by rw [lp_3]; exact ⟨rfl, lowB⟩⟩⟩
  · exact ⟨0, ⟨by rw [pt_3]; exact ⟨rfl, lowB⟩⟩, ⟨by rw [lp_3]; exact ⟨rfl, lowB⟩⟩⟩
  · exact ⟨0, ⟨by rw [pt_3]; exact ⟨rfl, lowB⟩⟩, ⟨by rw [lp_3]; exact ⟨rfl, lowB⟩⟩⟩
  · exact ⟨0, ⟨by rw [pt_3]; exact ⟨rfl, lowB⟩⟩, ⟨by rw [lp_3]; exact ⟨rfl, lowB⟩⟩⟩
  · exact ⟨0, ⟨by rw [pt_3]; exact ⟨rfl, lowB⟩⟩, ⟨by rw [lp_3]; exact ⟨rfl, lowB⟩⟩⟩
  · exact ⟨3, ⟨by rw [pt_3]; exact ⟨rfl, lowB⟩⟩, ⟨by rw [lp_3]; exact ⟨rfl, lowB⟩⟩⟩
  · exact ⟨0, ⟨by rw [pt_3]; exact ⟨rfl, lowB⟩⟩, ⟨by rw [lp_3]; exact ⟨rfl, lowB⟩⟩⟩
  · exact ⟨3, ⟨by rw [pt_3]; exact ⟨rfl, lowB⟩⟩, ⟨by rw [lp_3]; exact ⟨rfl, lowB⟩⟩⟩
  · exact ⟨0, ⟨by rw [pt_3]; exact ⟨rfl, lowB⟩⟩, ⟨by rw [lp_3]; exact ⟨rfl, lowB⟩⟩⟩
  · exact ⟨0, ⟨by rw [pt_3]; exact ⟨rfl, lowB⟩⟩, ⟨by rw [lp_3]; exact ⟨rfl, lowB⟩⟩⟩
  · exact ⟨0, ⟨by rw [pt_3]; exact ⟨rfl, lowB⟩⟩, ⟨by rw [lp_3]; exact ⟨rfl, lowB⟩⟩⟩
  · exact ⟨0, ⟨by rw [pt_3]; exact ⟨rfl, lowB⟩⟩, ⟨by rw [lp_3]; exact ⟨rfl, lowB⟩⟩⟩
  · exact ⟨0, ⟨by rw [pt_3]; exact ⟨rfl, lowB⟩⟩, ⟨by rw [lp_3]; exact ⟨rfl, lowB⟩⟩⟩
  · exact ⟨0, ⟨by rw [pt_3]; exact ⟨rfl, lowB⟩⟩, ⟨by rw [lp_3]; exact ⟨rfl, lowB⟩⟩⟩
  · exact ⟨0, ⟨by rw [pt_3]; exact ⟨rfl, lowB⟩⟩, ⟨by rw [lp_3]; exact ⟨rfl, lowB⟩⟩⟩
  · exact ⟨0, ⟨by rw [pt_3]; exact ⟨rfl, lowB⟩⟩, ⟨by rw [lp_3]; exact ⟨rfl, lowB⟩⟩⟩
theorem pg_4 {x : Int} (h0 : 0 ≤ x) (h1 : x < 16) : Agree (envP 285 [] []) 9 10 [.int .i64 x, .string ⟨#[104, 111, 117, 114]⟩] := by
  rcases up16 h0 h1 with rfl | rfl | rfl | rfl | rfl | rfl | rfl | rfl | rfl | rfl | rfl | rfl | rfl | rfl | rfl | rfl
  · exact ⟨0, ⟨by rw [pt_4]; exact ⟨rfl, lowB⟩⟩, ⟨by rw [lp_4]; exact ⟨rfl, lowB⟩⟩⟩
  · exact ⟨0, ⟨by rw [pt_4]; exact ⟨rfl, lowB⟩⟩, ⟨by rw [lp_4]; exact ⟨rfl, lowB⟩⟩⟩
  · exact ⟨0, ⟨by rw [pt_4]; exact ⟨rfl, lowB⟩⟩, ⟨by rw [lp_4]; exact ⟨rfl, lowB⟩⟩⟩
  · exact ⟨0, ⟨by rw [pt_4]; exact ⟨rfl, lowB⟩⟩, ⟨by rw [lp_4]; exact ⟨rfl, lowB⟩⟩⟩
  · exact ⟨0, ⟨by rw [pt_4]; exact ⟨rfl, lowB⟩⟩, ⟨by rw [lp_4]; exact ⟨rfl, lowB⟩⟩⟩
  · exact ⟨0, ⟨by rw [pt_4]; exact ⟨rfl, lowB⟩⟩, ⟨by rw [lp_4]; exact ⟨rfl, lowB⟩⟩⟩
  · exact ⟨3, ⟨by rw [pt_4]; exact ⟨rfl, lowB⟩⟩, ⟨by rw [lp_4]; exact ⟨rfl, lowB⟩⟩⟩
  · exact ⟨3, ⟨by rw [pt_4]; exact ⟨rfl, lowB⟩⟩, ⟨by rw [lp_4]; exact ⟨rfl, lowB⟩⟩⟩
  · exact ⟨0, ⟨by rw [pt_4]; exact ⟨rfl, lowB⟩⟩, ⟨by rw [lp_4]; exact ⟨rfl, lowB⟩⟩⟩
  · exact ⟨0, ⟨by rw [pt_4]; exact ⟨rfl, lowB⟩⟩, ⟨by rw [lp_4]; exact ⟨rfl, lowB⟩⟩⟩
  · exact ⟨0, ⟨by rw [pt_4]; exact ⟨rfl, lowB⟩⟩, ⟨by rw [lp_4]; exact ⟨rfl, lowB⟩⟩⟩
  · exact ⟨0, ⟨by rw [pt_4]; exact ⟨rfl, lowB⟩⟩, ⟨by rw [lp_4]; exact ⟨rfl, lowB⟩⟩⟩
  · exact ⟨0, ⟨by rw [pt_4]; exact ⟨rfl, lowB⟩⟩, ⟨by rw [lp_4]; exact ⟨rfl, lowB⟩⟩⟩
  · exact ⟨0, ⟨by rw [pt_4]; exact ⟨rfl, lowB⟩⟩, ⟨by rw [lp_4]; exact ⟨rfl, lowB⟩⟩⟩
  · exact ⟨0, ⟨by rw [pt_4]; exact ⟨rfl, lowB⟩⟩, ⟨by rw [lp_4]; exact ⟨rfl, lowB⟩⟩⟩
  · exact ⟨0, ⟨by rw [pt_4]; exact ⟨rfl, lowB⟩⟩, ⟨by rw [lp_4]; exact ⟨rfl, lowB⟩⟩⟩
theorem pg_5 {x : Int} (h0 : 0 ≤ x) (h1 : x < 16) : Agree (envP 285 [] []) 9 10 [.int .i64 x, .string ⟨#[109, 105, 110, 117, 116, 101]⟩] := by
  rcases up16 h0 h1 with rfl | rfl | rfl | rfl | rfl | rfl | rfl | rfl | rfl | rfl | rfl | rfl | rfl | rfl | rfl | rfl
  · exact ⟨0, ⟨by rw [pt_5]; exact ⟨rfl, lowB⟩⟩, ⟨by rw [lp_5]; exact ⟨rfl, lowB⟩⟩⟩
  · exact ⟨0, ⟨by rw [pt_5]; exact ⟨rfl, lowB⟩⟩, ⟨by rw [lp_5]; exact ⟨rfl, lowB⟩⟩⟩
  · exact ⟨0, ⟨by rw [pt_5]; exact ⟨rfl, lowB⟩⟩, ⟨by rw [lp_5]; exact ⟨rfl, lowB⟩⟩⟩
  · exact ⟨0, ⟨by rw [pt_5]; exact ⟨rfl, lowB⟩⟩, ⟨by rw [lp_5]; exact ⟨rfl, lowB⟩⟩⟩
  · exact ⟨0, ⟨by rw [pt_5]; exact ⟨rfl, lowB⟩⟩, ⟨by rw [lp_5]; exact ⟨rfl, lowB⟩⟩⟩
  · exact ⟨0, ⟨by rw [pt_5]; exact ⟨rfl, lowB⟩⟩, ⟨by rw [lp_5]; exact ⟨rfl, lowB⟩⟩⟩
  · exact ⟨3, ⟨by rw [pt_5]; exact ⟨rfl, lowB⟩⟩, ⟨by rw [lp_5]; exact ⟨rfl, lowB⟩⟩⟩
  · exact ⟨3, ⟨by rw [pt_5]; exact ⟨rfl, lowB⟩⟩, ⟨by rw [lp_5]; exact ⟨rfl, lowB⟩⟩⟩
  · exact ⟨0, ⟨by rw [pt_5]; exact ⟨rfl, lowB⟩⟩, ⟨by rw [lp_5]; exact ⟨rfl, lowB⟩⟩⟩
  · exact ⟨0, ⟨by rw [pt_5]; exact ⟨rfl, lowB⟩⟩, ⟨by rw [lp_5]; exact ⟨rfl, lowB⟩⟩⟩
  · exact ⟨0, ⟨by rw [pt_5]; exact ⟨rfl, lowB⟩⟩, ⟨by rw [lp_5]; exact ⟨rfl, lowB⟩⟩⟩
  · exact ⟨0, ⟨by rw [pt_5]; exact ⟨rfl, lowB⟩⟩, ⟨by rw [lp_5]; exact ⟨rfl, lowB⟩⟩⟩
  · exact ⟨0, ⟨by rw [pt_5]; exact ⟨rfl, lowB⟩⟩, ⟨by rw [lp_5]; exact ⟨rfl, lowB⟩⟩⟩
  · exact ⟨0, ⟨by rw [pt_5]; exact ⟨rfl, lowB⟩⟩, ⟨by rw [lp_5]; exact ⟨rfl, lowB⟩⟩⟩
  · exact ⟨0, ⟨by rw [pt_5]; exact ⟨rfl, lowB⟩⟩, ⟨by rw [lp_5]; exact ⟨rfl, lowB⟩⟩⟩
  · exact ⟨0, ⟨by rw [pt_5]; exact ⟨rfl, lowB⟩⟩, ⟨by rw [lp_5]; exact ⟨rfl, lowB⟩⟩⟩
theorem pg_6 {x : Int} (h0 : 0 ≤ x) (h1 : x < 16) : Agree (envP 285 [] []) 9 10 [.int .i64 x, .string ⟨#[115, 101, 99, 111, 110, 100]⟩] := by
  rcases up16 h0 h1 with rfl | rfl | rfl | rfl | rfl | rfl | rfl | rfl | rfl | rfl | rfl | rfl | rfl | rfl | rfl | rfl
  · exact ⟨0, ⟨by rw [pt_6]; exact ⟨rfl, lowB⟩⟩, ⟨by rw [lp_6]; exact ⟨rfl, lowB⟩⟩⟩
  · exact ⟨0, ⟨by rw [pt_6]; exact ⟨rfl, lowB⟩⟩, ⟨by rw [lp_6]; exact ⟨rfl, lowB⟩⟩⟩
  · exact ⟨0, ⟨by rw [pt_6]; exact ⟨rfl, lowB⟩⟩, ⟨by rw [lp_6]; exact ⟨rfl, lowB⟩⟩⟩
  · exact ⟨0, ⟨by rw [pt_6]; exact ⟨rfl, lowB⟩⟩, ⟨by rw [lp_6]; exact ⟨rfl, lowB⟩⟩⟩
  · exact ⟨0, ⟨by rw [pt_6]; exact ⟨rfl, lowB⟩⟩, ⟨by rw [lp_6]; exact ⟨rfl, lowB⟩⟩⟩
  · exact ⟨0, ⟨by rw [pt_6]; exact ⟨rfl, lowB⟩⟩, ⟨by rw [lp_6]; exact ⟨rfl, lowB⟩⟩⟩
  · exact ⟨3, ⟨by rw [pt_6]; exact ⟨rfl, lowB⟩⟩, ⟨by rw [lp_6]; exact ⟨rfl, lowB⟩⟩⟩
  · exact ⟨3, ⟨by rw [pt_6]; exact ⟨rfl, lowB⟩⟩, ⟨by rw [lp_6]; exact ⟨rfl, lowB⟩⟩⟩
  · exact ⟨0, ⟨by rw [pt_6]; exact ⟨rfl, lowB⟩⟩, ⟨by rw [lp_6]; exact ⟨rfl, lowB⟩⟩⟩
  · exact ⟨0, ⟨by rw [pt_6]; exact ⟨rfl, lowB⟩⟩, ⟨by rw [lp_6]; exact ⟨rfl, lowB⟩⟩⟩
  · exact ⟨0, ⟨by rw [pt_6]; exact ⟨rfl, lowB⟩⟩, ⟨by rw [lp_6]; exact ⟨rfl, lowB⟩⟩⟩
  · exact ⟨0, ⟨by rw [pt_6]; exact ⟨rfl, lowB⟩⟩, ⟨by rw [lp_6]; exact ⟨rfl, lowB⟩⟩⟩
  · exact ⟨0, ⟨by rw [pt_6]; exact ⟨rfl, lowB⟩⟩, ⟨by rw [lp_6]; exact ⟨rfl, lowB⟩⟩⟩
  · exact ⟨0, ⟨by rw [pt_6]; exact ⟨rfl, lowB⟩⟩, ⟨by rw [lp_6]; exact ⟨rfl, lowB⟩⟩⟩
  · exact ⟨0, ⟨by rw [pt_6]; exact ⟨rfl, lowB⟩⟩, ⟨by rw [lp_6]; exact ⟨rfl, lowB⟩⟩⟩
  · exact ⟨0, ⟨by rw [pt_6]; exact ⟨rfl, lowB⟩⟩, ⟨by rw [lp_6]; exact ⟨rfl, lowB⟩⟩⟩
theorem pg_7 {x : Int} (h0 : 0 ≤ x) (h1 : x < 16) : Agree (envP 285 [] []) 9 10 [.int .i64 x, .string ⟨#[116, 105, 109, 101, 32, 111, 102, 102, 115, 101, 116]⟩] := by
  rcases up16 h0 h1 with rfl | rfl | rfl | rfl | rfl | rfl | rfl | rfl | rfl | rfl | rfl | rfl | rfl | rfl | rfl | rfl
  · exact ⟨0, ⟨by rw [pt_7]; exact ⟨rfl, lowB⟩⟩, ⟨by rw [lp_7]; exact ⟨rfl, lowB⟩⟩⟩
  · exact ⟨0, ⟨by rw [pt_7]; exact ⟨rfl, lowB⟩⟩, ⟨by rw [lp_7]; exact ⟨rfl, lowB⟩⟩⟩
  · exact ⟨0, ⟨by rw [pt_7]; exact ⟨rfl, lowB⟩⟩, ⟨by rw [lp_7]; exact ⟨rfl, lowB⟩⟩⟩
  · exact ⟨0, ⟨by rw [pt_7]; exact ⟨rfl, lowB⟩⟩, ⟨by rw [lp_7]; exact ⟨rfl, lowB⟩⟩⟩
  · exact ⟨0, ⟨by rw [pt_7]; exact ⟨rfl, lowB⟩⟩, ⟨by rw [lp_7]; exact ⟨rfl, lowB⟩⟩⟩
  · exact ⟨0, ⟨by rw [pt_7]; exact ⟨rfl, lowB⟩⟩, ⟨by rw [lp_7]; exact ⟨rfl, lowB⟩⟩⟩
  · exact ⟨8, ⟨by rw [pt_7]; exact ⟨rfl, lowB⟩⟩, ⟨by rw [lp_7]; exact ⟨rfl, lowB⟩⟩⟩
  · exact ⟨8, ⟨by rw [pt_7]; exact ⟨rfl, lowB⟩⟩, ⟨by rw [lp_7]; exact ⟨rfl, lowB⟩⟩⟩
  · exact ⟨0, ⟨by rw [pt_7]; exact ⟨rfl, lowB⟩⟩, ⟨by rw [lp_7]; exact ⟨rfl, lowB⟩⟩⟩
  · exact ⟨0, ⟨by rw [pt_7]; exact ⟨rfl, lowB⟩⟩, ⟨by rw [lp_7]; exact ⟨rfl, lowB⟩⟩⟩
  · exact ⟨0, ⟨by rw [pt_7]; exact ⟨rfl, lowB⟩⟩, ⟨by rw [lp_7]; exact ⟨rfl, lowB⟩⟩⟩
  · exact ⟨0, ⟨by rw [pt_7]; exact ⟨rfl, lowB⟩⟩, ⟨by rw [lp_7]; exact ⟨rfl, lowB⟩⟩⟩
  · exact ⟨0, ⟨by rw [pt_7]; exact ⟨rfl, lowB⟩⟩, ⟨by rw [lp_7]; exact ⟨rfl, lowB⟩⟩⟩
  · exact ⟨0, ⟨by rw [pt_7]; exact ⟨rfl, lowB⟩⟩, ⟨by rw [lp_7]; exact ⟨rfl, lowB⟩⟩⟩
  · exact ⟨0, ⟨by rw [pt_7]; exact ⟨rfl, lowB⟩⟩, ⟨by rw [lp_7]; exact ⟨rfl, lowB⟩⟩⟩
  · exact ⟨0, ⟨by rw [pt_7]; exact ⟨rfl, lowB⟩⟩, ⟨by rw [lp_7]; exact ⟨rfl, lowB⟩⟩⟩
theorem pg_8 {x : Int} (h0 : 0 ≤ x) (h1 : x < 16) : Agree (envP 285 [] []) 9 10 [.int .i64 x, .string ⟨#[100, 97, 121, 115]⟩] := by
  rcases up16 h0 h1 with rfl | rfl | rfl | rfl | rfl | rfl | rfl | rfl | rfl | rfl | rfl | rfl | rfl | rfl | rfl | rfl
  · exact ⟨0, ⟨by rw [pt_8]; exact ⟨rfl, lowB⟩⟩, ⟨by rw [lp_8]; exact ⟨rfl, lowB⟩⟩⟩
  · exact ⟨0, ⟨by rw [pt_8]; exact ⟨rfl, lowB⟩⟩, ⟨by rw [lp_8]; exact ⟨rfl, lowB⟩⟩⟩
  · exact ⟨0, ⟨by rw [pt_8]; exact ⟨rfl, lowB⟩⟩, ⟨by rw [lp_8]; exact ⟨rfl, lowB⟩⟩⟩
  · exact ⟨0, ⟨by rw [pt_8]; exact ⟨rfl, lowB⟩⟩, ⟨by rw [lp_8]; exact ⟨rfl, lowB⟩⟩⟩
  · exact ⟨0, ⟨by rw [pt_8]; exact ⟨rfl, lowB⟩⟩, ⟨by rw [lp_8]; exact ⟨rfl, lowB⟩⟩⟩
  · exact ⟨0, ⟨by rw [pt_8]; exact ⟨rfl, lowB⟩⟩, ⟨by rw [lp_8]; exact ⟨rfl, lowB⟩⟩⟩
  · exact ⟨0, ⟨by rw [pt_8]; exact ⟨rfl, lowB⟩⟩, ⟨by rw [lp_8]; exact ⟨rfl, lowB⟩⟩⟩
  · exact ⟨0, ⟨by rw [pt_8]; exact ⟨rfl, lowB⟩⟩, ⟨by rw [lp_8]; exact ⟨rfl, lowB⟩⟩⟩
  · exact ⟨3, ⟨by rw [pt_8]; exact ⟨rfl, lowB⟩⟩, ⟨by rw [lp_8]; exact ⟨rfl, lowB⟩⟩⟩
  · exact ⟨0, ⟨by rw [pt_8]; exact ⟨rfl, lowB⟩⟩, ⟨by rw [lp_8]; exact ⟨rfl, lowB⟩⟩⟩
  · exact ⟨0, ⟨by rw [pt_8]; exact ⟨rfl, lowB⟩⟩, ⟨by rw [lp_8]; exact ⟨rfl, lowB⟩⟩⟩
  · exact ⟨0, ⟨by rw [pt_8]; exact ⟨rfl, lowB⟩⟩, ⟨by rw [lp_8]; exact ⟨rfl, lowB⟩⟩⟩
  · exact ⟨0, ⟨by rw [pt_8]; exact ⟨rfl, lowB⟩⟩, ⟨by rw [lp_8]; exact ⟨rfl, lowB⟩⟩⟩
  · exact ⟨0, ⟨by rw [pt_8]; exact ⟨rfl, lowB⟩⟩, ⟨by rw [lp_8]; exact ⟨rfl, lowB⟩⟩⟩
  · exact ⟨0, ⟨by rw [pt_8]; exact ⟨rfl, lowB⟩⟩, ⟨by rw [lp_8]; exact ⟨rfl, lowB⟩⟩⟩
  · exact ⟨0, ⟨by rw [pt_8]; exact ⟨rfl, lowB⟩⟩, ⟨by rw [lp_8]; exact ⟨rfl, lowB⟩⟩⟩
theorem pg_9 {x : Int} (h0 : 0 ≤ x) (h1 : x < 16) : Agree (envP 285 [] []) 9 10 [.int .i64 x, .string ⟨#[104, 111, 117, 114, 115]⟩] := by
  rcases up16 h0 h1 with rfl | rfl | rfl | rfl | rfl | rfl | rfl | rfl | rfl | rfl | rfl | rfl | rfl | rfl | rfl | rfl
  · exact ⟨0, ⟨by rw [pt_9]; exact ⟨rfl, lowB⟩⟩, ⟨by rw [lp_9]; exact ⟨rfl, lowB⟩⟩⟩
  · exact ⟨0, ⟨by rw [pt_9]; exact ⟨rfl, lowB⟩⟩, ⟨by rw [lp_9]; exact ⟨rfl, lowB⟩⟩⟩
  · exact ⟨0, ⟨by rw [pt_9]; exact ⟨rfl, lowB⟩⟩, ⟨by rw [lp_9]; exact ⟨rfl, lowB⟩⟩⟩
  · exact ⟨0, ⟨by rw [pt_9]; exact ⟨rfl, lowB⟩⟩, ⟨by rw [lp_9]; exact ⟨rfl, lowB⟩⟩⟩
  · exact ⟨0, ⟨by rw [pt_9]; exact ⟨rfl, lowB⟩⟩, ⟨by rw [lp_9]; exact ⟨rfl, lowB⟩⟩⟩
  · exact ⟨0, ⟨by rw [pt_9]; exact ⟨rfl, lowB⟩⟩, ⟨by rw [lp_9]; exact ⟨rfl, lowB⟩⟩⟩
  · exact ⟨0, ⟨by rw [pt_9]; exact ⟨rfl, lowB⟩⟩, ⟨by rw [lp_9]; exact ⟨rfl, lowB⟩⟩⟩
  · exact ⟨0, ⟨by rw [pt_9]; exact ⟨rfl, lowB⟩⟩, ⟨by rw [lp_9]; exact ⟨rfl, lowB⟩⟩⟩
  · exact ⟨3, ⟨by rw [pt_9]; exact ⟨rfl, lowB⟩⟩, ⟨by rw [lp_9]; exact ⟨rfl, lowB⟩⟩⟩
  · exact ⟨0, ⟨by rw [pt_9]; exact ⟨rfl, lowB⟩⟩, ⟨by rw [lp_9]; exact ⟨rfl, lowB⟩⟩⟩
  · exact ⟨0, ⟨by rw [pt_9]; exact ⟨rfl, lowB⟩⟩, ⟨by rw [lp_9]; exact ⟨rfl, lowB⟩⟩⟩
  · exact ⟨0, ⟨by rw [pt_9]; exact ⟨rfl, lowB⟩⟩, ⟨by rw [lp_9]; exact ⟨rfl, lowB⟩⟩⟩
  · exact ⟨0, ⟨by rw [pt_9]; exact ⟨rfl, lowB⟩⟩, ⟨by rw [lp_9]; exact ⟨rfl, lowB⟩⟩⟩
  · exact ⟨0, ⟨by rw [pt_9]; exact ⟨rfl, lowB⟩⟩, ⟨by rw [lp_9]; exact ⟨rfl, lowB⟩⟩⟩
  · exact ⟨0, ⟨by rw [pt_9]; exact ⟨rfl, lowB⟩⟩, ⟨by rw [lp_9]; exact ⟨rfl, lowB⟩⟩⟩
  · exact ⟨0, ⟨by rw [pt_9]; exact ⟨rfl, lowB⟩⟩, ⟨by rw [lp_9]; exact ⟨rfl, lowB⟩⟩⟩
theorem pg_10 {x : Int} (h0 : 0 ≤ x) (h1 : x < 16) : Agree (envP 285 [] []) 9 10 [.int .i64 x, .string ⟨#[109, 105, 110, 117, 116, 101, 115]⟩] := by
  rcases up16 h0 h1 with rfl | rfl | rfl | rfl | rfl | rfl | rfl | rfl | rfl | rfl | rfl | rfl | rfl | rfl | rfl | rfl
  · exact ⟨0, ⟨by rw [pt_10]; exact ⟨rfl, lowB⟩⟩, ⟨by rw [lp_10]; exact ⟨rfl, lowB⟩⟩⟩
  · exact ⟨0, ⟨by rw [pt_10]; exact ⟨rfl, lowB⟩⟩, ⟨by rw [lp_10]; exact ⟨rfl, lowB⟩⟩⟩
  · exact ⟨0, ⟨by rw [pt_10]; exact ⟨rfl, lowB⟩⟩, ⟨by rw [lp_10]; exact ⟨rfl, lowB⟩⟩⟩
  · exact ⟨0, ⟨by rw [pt_10]; exact ⟨rfl, lowB⟩⟩, ⟨by rw [lp_10]; exact ⟨rfl, lowB⟩⟩⟩
  · exact ⟨0, ⟨by rw [pt_10]; exact ⟨rfl, lowB⟩⟩, ⟨by rw [lp_10]; exact ⟨rfl, lowB⟩⟩⟩
  · exact ⟨0, ⟨by rw [pt_10]; exact ⟨rfl, lowB⟩⟩, ⟨by rw [lp_10]; exact ⟨rfl, lowB⟩⟩⟩
  · exact ⟨0, ⟨by rw [pt_10]; exact ⟨rfl, lowB⟩⟩, ⟨by rw [lp_10]; exact ⟨rfl, lowB⟩⟩⟩
  · exact ⟨0, ⟨by rw [pt_10]; exact ⟨rfl, lowB⟩⟩, ⟨by rw [lp_10]; exact ⟨rfl, lowB⟩⟩⟩
  · exact ⟨3, ⟨by rw [pt_10]; exact ⟨rfl, lowB⟩⟩, ⟨by rw [lp_10]; exact ⟨rfl, lowB⟩⟩⟩
  · exact ⟨0, ⟨by rw [pt_10]; exact ⟨rfl, lowB⟩⟩, ⟨by rw [lp_10]; exact ⟨rfl, lowB⟩⟩⟩
  · exact ⟨0, ⟨by rw [pt_10]; exact ⟨rfl, lowB⟩⟩, ⟨by rw [lp_10]; exact ⟨rfl, lowB⟩⟩⟩
  · exact ⟨0, ⟨by rw [pt_10]; exact ⟨rfl, lowB⟩⟩, ⟨by rw [lp_10]; exact ⟨rfl, lowB⟩⟩⟩
  · exact ⟨0, ⟨by rw [pt_10]; exact ⟨rfl, lowB⟩⟩, ⟨by rw [lp_10]; exact ⟨rfl, lowB⟩⟩⟩
  · exact ⟨0, ⟨by rw [pt_10]; exact ⟨rfl, lowB⟩⟩, ⟨by rw [lp_10]; exact ⟨rfl, lowB⟩⟩⟩
  · exact ⟨0, ⟨by rw [pt_10]; exact ⟨rfl, lowB⟩⟩, ⟨by rw [lp_10]; exact ⟨rfl, lowB⟩⟩⟩
  · exact ⟨0, ⟨by rw [pt_10]; exact ⟨rfl, lowB⟩⟩, ⟨by rw [lp_10]; exact ⟨rfl, lowB⟩⟩⟩
theorem pg_11 {x : Int} (h0 : 0 ≤ x) (h1 : x < 16) : Agree (envP 285 [] []) 9 10 [.int .i64 x, .string ⟨#[115, 101, 99, 111, 110, 100, 115]⟩] := by
  rcases up16 h0 h1 with rfl | rfl | rfl | rfl | rfl | rfl | rfl | rfl | rfl | rfl | rfl | rfl | rfl | rfl | rfl | rfl
  · exact ⟨0, ⟨by rw [pt_11]; exact ⟨rfl, lowB⟩⟩, ⟨by rw [lp_11]; exact ⟨rfl, lowB⟩⟩⟩
  · exact ⟨0, ⟨by rw [pt_11]; exact ⟨rfl, lowB⟩⟩, ⟨by rw [lp_11]; exact ⟨rfl, lowB⟩⟩⟩
  · exact ⟨0, ⟨by rw [pt_11]; exact ⟨rfl, lowB⟩⟩, ⟨by rw [lp_11]; exact ⟨rfl, lowB⟩⟩⟩
  · exact ⟨0, ⟨by rw [pt_11]; exact ⟨rfl, lowB⟩⟩, ⟨by rw [lp_11]; exact ⟨rfl, lowB⟩⟩⟩
  · exact ⟨0, ⟨by rw [pt_11]; exact ⟨rfl, lowB⟩⟩, ⟨by rw [lp_11]; exact ⟨rfl, lowB⟩⟩⟩
  · exact ⟨0, ⟨by rw [pt_11]; exact ⟨rfl, lowB⟩⟩, ⟨by rw [lp_11]; exact ⟨rfl, lowB⟩⟩⟩
  · exact ⟨0, ⟨by rw [pt_11]; exact ⟨rfl, lowB⟩⟩, ⟨by rw [lp_11]; exact ⟨rfl, lowB⟩⟩⟩
  · exact ⟨0, ⟨by rw [pt_11]; exact ⟨rfl, lowB⟩⟩, ⟨by rw [lp_11]; exact ⟨rfl, lowB⟩⟩⟩
  · exact ⟨3, ⟨by rw [pt_11]; exact ⟨rfl, lowB⟩⟩, ⟨by rw [lp_11]; exact ⟨rfl, lowB⟩⟩⟩
  · exact ⟨0, ⟨by rw [pt_11]; exact ⟨rfl, lowB⟩⟩, ⟨by rw [lp_11]; exact ⟨rfl, lowB⟩⟩⟩
  · exact ⟨0, ⟨by rw [pt_11]; exact ⟨rfl, lowB⟩⟩, ⟨by rw [lp_11]; exact ⟨rfl, lowB⟩⟩⟩
  · exact ⟨0, ⟨by rw [pt_11]; exact ⟨rfl, lowB⟩⟩, ⟨by rw [lp_11]; exact ⟨rfl, lowB⟩⟩⟩
  · exact ⟨0, ⟨by rw [pt_11]; exact ⟨rfl, lowB⟩⟩, ⟨by rw [lp_11]; exact ⟨rfl, lowB⟩⟩⟩
  · exact ⟨0, ⟨by rw [pt_11]; exact ⟨rfl, lowB⟩⟩, ⟨by rw [lp_11]; exact ⟨rfl, lowB⟩⟩⟩
  · exact ⟨0, ⟨by rw [pt_11]; exact ⟨rfl, lowB⟩⟩, ⟨by rw [lp_11]; exact ⟨rfl, lowB⟩⟩⟩
  · exact ⟨0, ⟨by rw [pt_11]; exact ⟨rfl, lowB⟩⟩, ⟨by rw [lp_11]; exact ⟨rfl, lowB⟩⟩⟩
theorem pg_12 {x : Int} (h0 : 0 ≤ x) (h1 : x < 16) : Agree (envP 285 [] []) 9 10 [.int .i64 x, .string ⟨#[121, 101, 97, 114, 115]⟩] := by
  rcases up16 h0 h1 with rfl | rfl | rfl | rfl | rfl | rfl | rfl | rfl | rfl | rfl | rfl | rfl | rfl | rfl | rfl | rfl
  · exact ⟨0, ⟨by rw [pt_12]; exact ⟨rfl, lowB⟩⟩, ⟨by rw [lp_12]; exact ⟨rfl, lowB⟩⟩⟩
  · exact ⟨0, ⟨by rw [pt_12]; exact ⟨rfl, lowB⟩⟩, ⟨by rw [lp_12]; exact ⟨rfl, lowB⟩⟩⟩
  · exact ⟨0, ⟨by rw [pt_12]; exact ⟨rfl, lowB⟩⟩, ⟨by rw [lp_12]; exact ⟨rfl, lowB⟩⟩⟩
  · exact ⟨0, ⟨by rw [pt_12]; exact ⟨rfl, lowB⟩⟩, ⟨by rw [lp_12]; exact ⟨rfl, lowB⟩⟩⟩
  · exact ⟨0, ⟨by rw [pt_12]; exact ⟨rfl, lowB⟩⟩, ⟨by rw [lp_12]; exact ⟨rfl, lowB⟩⟩⟩
  · exact ⟨0, ⟨by rw [pt_12]; exact ⟨rfl, lowB⟩⟩, ⟨by rw [lp_12]; exact ⟨rfl, lowB⟩⟩⟩
  · exact ⟨0, ⟨by rw [pt_12]; exact ⟨rfl, lowB⟩⟩, ⟨by rw [lp_12]; exact ⟨rfl, lowB⟩⟩⟩
  · exact ⟨0, ⟨by rw [pt_12]; exact ⟨rfl, lowB⟩⟩, ⟨by rw [lp_12]; exact ⟨rfl, lowB⟩⟩⟩
  · exact ⟨0, ⟨by rw [pt_12]; exact ⟨rfl, lowB⟩⟩, ⟨by rw [lp_12]; exact ⟨rfl, lowB⟩⟩⟩
  · exact ⟨3, ⟨by rw [pt_12]; exact ⟨rfl, lowB⟩⟩, ⟨by rw [lp_12]; exact ⟨rfl, lowB⟩⟩⟩
  · exact ⟨0, ⟨by rw [pt_12]; exact ⟨rfl, lowB⟩⟩, ⟨by rw [lp_12]; exact ⟨rfl, lowB⟩⟩⟩
  · exact ⟨0, ⟨by rw [pt_12]; exact ⟨rfl, lowB⟩⟩, ⟨by rw [lp_12]; exact ⟨rfl, lowB⟩⟩⟩
  · exact ⟨0, ⟨by rw [pt_12]; exact ⟨rfl, lowB⟩⟩, ⟨by rw [lp_12]; exact ⟨rfl, lowB⟩⟩⟩
  · exact ⟨0, ⟨by rw [pt_12]; exact ⟨rfl, lowB⟩⟩, ⟨by rw [lp_12]; exact ⟨rfl, lowB⟩⟩⟩
  · exact ⟨0, ⟨by rw [pt_12]; exact ⟨rfl, lowB⟩⟩, ⟨by rw [lp_12]; exact ⟨rfl, lowB⟩⟩⟩
  · exact ⟨0, ⟨by rw [pt_12]; exact ⟨rfl, lowB⟩⟩, ⟨by rw [lp_12]; exact ⟨rfl, lowB⟩⟩⟩
theorem pg_13 {x : Int} (h0 : 0 ≤ x) (h1 : x < 16) : Agree (envP 285 [] []) 9 10 [.int .i64 x, .string ⟨#[109, 111, 110, 116, 104, 115]⟩] := by
  rcases up16 h0 h1 with rfl | rfl | rfl | rfl | rfl | rfl | rfl | rfl | rfl | rfl | rfl | rfl | rfl | rfl | rfl | rfl
  · exact ⟨0, ⟨by rw [pt_13]; exact ⟨rfl, lowB⟩⟩, ⟨by rw [lp_13]; exact ⟨rfl, lowB⟩⟩⟩
  · exact ⟨0, ⟨by rw [pt_13]; exact ⟨rfl, lowB⟩⟩, ⟨by rw [lp_13]; exact ⟨rfl, lowB⟩⟩⟩
  · exact ⟨0, ⟨by rw [pt_13]; exact ⟨rfl, lowB⟩⟩, ⟨by rw [lp_13]; exact ⟨rfl, lowB⟩⟩⟩
  · exact ⟨0, ⟨by rw [pt_13]; exact ⟨rfl, lowB⟩⟩, ⟨by rw [lp_13]; exact ⟨rfl, lowB⟩⟩⟩
  · exact ⟨0, ⟨by rw [pt_13]; exact ⟨rfl, lowB⟩⟩, ⟨by rw [lp_13]; exact ⟨rfl, lowB⟩⟩⟩
  · exact ⟨0, ⟨by rw [pt_13]; exact ⟨rfl, lowB⟩⟩, ⟨by rw [lp_13]; exact ⟨rfl, lowB⟩⟩⟩
  · exact ⟨0, ⟨by rw [pt_13]; exact ⟨rfl, lowB⟩⟩, ⟨by rw [lp_13]; exact ⟨rfl, lowB⟩⟩⟩
  · exact ⟨0, ⟨by rw [pt_13]; exact ⟨rfl, lowB⟩⟩, ⟨by rw [lp_13]; exact ⟨rfl, lowB⟩⟩⟩
  · exact ⟨0, ⟨by rw [pt_13]; exact ⟨rfl, lowB⟩⟩, ⟨by rw [lp_13]; exact ⟨rfl, lowB⟩⟩⟩
  · exact ⟨3, ⟨by rw [pt_13]; exact ⟨rfl, lowB⟩⟩, ⟨by rw [lp_13]; exact ⟨rfl, lowB⟩⟩⟩
  · exact ⟨0, ⟨by rw [pt_13]; exact ⟨rfl, lowB⟩⟩, ⟨by rw [lp_13]; exact ⟨rfl, lowB⟩⟩⟩
  · exact ⟨0, ⟨by rw [pt_13]; exact ⟨rfl, lowB⟩⟩, ⟨by rw [lp_13]; exact ⟨rfl, lowB⟩⟩⟩
  · exact ⟨0, ⟨by rw [pt_13]; exact ⟨rfl, lowB⟩⟩, ⟨by rw [lp_13]; exact ⟨rfl, lowB⟩⟩⟩
  · exact ⟨0, ⟨by rw [pt_13]; exact ⟨rfl, lowB⟩⟩, ⟨by rw [lp_13]; exact ⟨rfl, lowB⟩⟩⟩
  · exact ⟨0, ⟨by rw [pt_13]; exact ⟨rfl, lowB⟩⟩, ⟨by rw [lp_13]; exact ⟨rfl, lowB⟩⟩⟩
  · exact ⟨0, ⟨by rw [pt_13]; exact ⟨rfl, lowB⟩⟩, ⟨by rw [lp_13]; exact ⟨rfl, lowB⟩⟩⟩
theorem pg_n {s : ByteArray} (h0 : strEq s ⟨#[121, 101, 97, 114]⟩ = false) (h1 : strEq s ⟨#[109, 111, 110, 116, 104]⟩ = false) (h2 : strEq s ⟨#[100, 97, 121]⟩ = false) (h3 : strEq s ⟨#[119, 101, 101, 107, 100, 97, 121]⟩ = false) (h4 : strEq s ⟨#[104, 111, 117, 114]⟩ = false) (h5 : strEq s ⟨#[109, 105, 110, 117, 116, 101]⟩ = false) (h6 : strEq s ⟨#[115, 101, 99, 111, 110, 100]⟩ = false) (h7 : strEq s ⟨#[116, 105, 109, 101, 32, 111, 102, 102, 115, 101, 116]⟩ = false) (h8 : strEq s ⟨#[100, 97, 121, 115]⟩ = false) (h9 : strEq s ⟨#[104, 111, 117, 114, 115]⟩ = false) (h10 : strEq s ⟨#[109, 105, 110, 117, 116, 101, 115]⟩ = false) (h11 : strEq s ⟨#[115, 101, 99, 111, 110, 100, 115]⟩ = false) (h12 : strEq s ⟨#[121, 101, 97, 114, 115]⟩ = false) (h13 : strEq s ⟨#[109, 111, 110, 116, 104, 115]⟩ = false) (x : Int) : Agree (envNo []) 9 10 [.int .i64 x, .string s] := by
  refine ⟨0, ⟨?_⟩, ⟨?_⟩⟩
  · rw [pt_n, h0, h1, h2, h3, h4, h5, h6, h7, h8, h9, h10, h11, h12, h13]
    repeat' (first | exact ⟨rfl, lowB⟩ | refine And.intro (by assumption) ?_ | refine bsel_of (fun _ => ?_) (fun _ => ?_))
    all_goals contradiction
  · rw [lp_n]
    repeat' (first | exact ⟨rfl, lowB⟩ | refine And.intro (by assumption) ?_ | refine bsel_of (fun _ => ?_) (fun _ => ?_))
theorem part_same {base : World} (s : ByteArray) {x : Int} (g0 : 0 ≤ x) (g1 : x < 16) : ∃ r, TotP base 9 [.int .i64 x, .string s] (.int .i64 r) ∧ TotP base 10 [.int .i64 x, .string s] (.int .i64 r) := by
  by_cases e0 : strEq s ⟨#[121, 101, 97, 114]⟩ = true
  · obtain rfl := strEq_of e0
    obtain ⟨r, q1, q2⟩ := pg_0 g0 g1
    exact ⟨r, q1.tot base (args2 _ _), q2.tot base (args2 _ _)⟩
  by_cases e1 : strEq s ⟨#[109, 111, 110, 116, 104]⟩ = true
  · obtain rfl := strEq_of e1
    obtain ⟨r, q1, q2⟩ := pg_1 g0 g1
    exact ⟨r, q1.tot base (args2 _ _), q2.tot base (args2 _ _)⟩
  by_cases e2 : strEq s ⟨#[100, 97, 121]⟩ = true
  · obtain rfl := strEq_of e2
    obtain ⟨r, q1, q2⟩ := pg_2 g0 g1
    exact ⟨r, q1.tot base (args2 _ _), q2.tot base (args2 _ _)⟩
  by_cases e3 : strEq s ⟨#[119, 101, 101, 107, 100, 97, 121]⟩ = true
  · obtain rfl := strEq_of e3
    obtain ⟨r, q1, q2⟩ := pg_3 g0 g1
    exact ⟨r, q1.tot base (args2 _ _), q2.tot base (args2 _ _)⟩
  by_cases e4 : strEq s ⟨#[104, 111, 117, 114]⟩ = true
  · obtain rfl := strEq_of e4
    obtain ⟨r, q1, q2⟩ := pg_4 g0 g1
    exact ⟨r, q1.tot base (args2 _ _), q2.tot base (args2 _ _)⟩
  by_cases e5 : strEq s ⟨#[109, 105, 110, 117, 116, 101]⟩ = true
  · obtain rfl := strEq_of e5
    obtain ⟨r, q1, q2⟩ := pg_5 g0 g1
    exact ⟨r, q1.tot base (args2 _ _), q2.tot base (args2 _ _)⟩
  by_cases e6 : strEq s ⟨#[115, 101, 99, 111, 110, 100]⟩ = true
  · obtain rfl := strEq_of e6
    obtain ⟨r, q1, q2⟩ := pg_6 g0 g1
    exact ⟨r, q1.tot base (args2 _ _), q2.tot base (args2 _ _)⟩
  by_cases e7 : strEq s ⟨#[116, 105, 109, 101, 32, 111, 102, 102, 115, 101, 116]⟩ = true
  · obtain rfl := strEq_of e7
    obtain ⟨r, q1, q2⟩ := pg_7 g0 g1
    exact ⟨r, q1.tot base (args2 _ _), q2.tot base (args2 _ _)⟩
  by_cases e8 : strEq s ⟨#[100, 97, 121, 115]⟩ = true
  · obtain rfl := strEq_of e8
    obtain ⟨r, q1, q2⟩ := pg_8 g0 g1
    exact ⟨r, q1.tot base (args2 _ _), q2.tot base (args2 _ _)⟩
  by_cases e9 : strEq s ⟨#[104, 111, 117, 114, 115]⟩ = true
  · obtain rfl := strEq_of e9
    obtain ⟨r, q1, q2⟩ := pg_9 g0 g1
    exact ⟨r, q1.tot base (args2 _ _), q2.tot base (args2 _ _)⟩
  by_cases e10 : strEq s ⟨#[109, 105, 110, 117, 116, 101, 115]⟩ = true
  · obtain rfl := strEq_of e10
    obtain ⟨r, q1, q2⟩ := pg_10 g0 g1
    exact ⟨r, q1.tot base (args2 _ _), q2.tot base (args2 _ _)⟩
  by_cases e11 : strEq s ⟨#[115, 101, 99, 111, 110, 100, 115]⟩ = true
  · obtain rfl := strEq_of e11
    obtain ⟨r, q1, q2⟩ := pg_11 g0 g1
    exact ⟨r, q1.tot base (args2 _ _), q2.tot base (args2 _ _)⟩
  by_cases e12 : strEq s ⟨#[121, 101, 97, 114, 115]⟩ = true
  · obtain rfl := strEq_of e12
    obtain ⟨r, q1, q2⟩ := pg_12 g0 g1
    exact ⟨r, q1.tot base (args2 _ _), q2.tot base (args2 _ _)⟩
  by_cases e13 : strEq s ⟨#[109, 111, 110, 116, 104, 115]⟩ = true
  · obtain rfl := strEq_of e13
    obtain ⟨r, q1, q2⟩ := pg_13 g0 g1
    exact ⟨r, q1.tot base (args2 _ _), q2.tot base (args2 _ _)⟩
  obtain ⟨r, q1, q2⟩ := pg_n (by simpa using e0) (by simpa using e1) (by simpa using e2) (by simpa using e3) (by simpa using e4) (by simpa using e5) (by simpa using e6) (by simpa using e7) (by simpa using e8) (by simpa using e9) (by simpa using e10) (by simpa using e11) (by simpa using e12) (by simpa using e13) x
  exact ⟨r, q1.totN base (args2 _ _), q2.totN base (args2 _ _)⟩
theorem kindB {a : Int} (h : 0 ≤ a) : 0 ≤ IntKind.wrap .i64 (Int.tmod a 16) ∧ IntKind.wrap .i64 (Int.tmod a 16) < 16 := by
  have e : Int.tmod a 16 = a % 16 := Int.tmod_eq_emod_of_nonneg h
  have h1 : 0 ≤ a % 16 := Int.emod_nonneg _ (by decide)
  have h2 : a % 16 < 16 := Int.emod_lt_of_pos _ (by decide)
  rw [e]
  have w : IntKind.wrap .i64 (a % 16) = if (a % 16) % 18446744073709551616 ≥ 9223372036854775808 then (a % 16) % 18446744073709551616 - 18446744073709551616 else (a % 16) % 18446744073709551616 := by simp [IntKind.wrap, IntKind.bits, IntKind.signed]
  rw [w]
  split <;> omega
theorem tables_law {base : World} (A : AtP base) (op s : ByteArray) {a b : Int} (ha : 0 ≤ a) (hb : 0 ≤ b) : Run0 (envP 285 [] (rulesCt base)) 30 3 [.string op, .int .u8 a, .int .u8 b, .string s] := by
  have ka := kindB ha
  have kb := kindB hb
  obtain ⟨r, p1, p2⟩ := arith_same (base := base) op ka.1 ka.2 kb.1 kb.2
  obtain ⟨t, q1, q2⟩ := part_same (base := base) s ka.1 ka.2
  constructor
  rw [tables_tree (fun u mw => u = .bool true ∧ Tryz.prog.globals.size ≤ mw)]
  refine ⟨awake26 A, r, p1, r, p2, bsel_of (fun _ => ⟨t, q1, t, q2, bsel_of (fun _ => ⟨rfl, lowB⟩) (fun h => ?_)⟩) (fun h => ?_)⟩
  · simp at h
  · simp at h
theorem u8_nonneg {n : Int} (h : (Lit.int .u8 n).wf = true) : 0 ≤ n := by
  have h1 : (decide (IntKind.min .u8 ≤ n) && decide (n ≤ IntKind.max .u8)) = true := h
  have e1 : IntKind.min .u8 = 0 := by decide
  rw [e1] at h1
  simp only [Bool.and_eq_true, decide_eq_true_eq] at h1
  exact h1.1
theorem tables_calls {W : World} (hs : W.ShapedOpen Tryz.prog) (A : AtP W) (op s : ByteArray) {a b : Int} (ha : 0 ≤ a) (hb : 0 ≤ b) :
    Calls Tryz.prog 3 #[.string op, .int .u8 a, .int .u8 b, .string s] W fun e w' => e = .returned (.bool true) ∧ Below W.heap.size W w' :=
  law_nil hs (E := envP 285 [] (rulesCt W)) (envP_ok all_good (rulesCt_ok W)) envP_loops rfl Tryz.func3 (by kernel_rfl) (args := [.string op, .int .u8 a, .int .u8 b, .string s])
    (List.forall_mem_cons.2 ⟨rfl, List.forall_mem_cons.2 ⟨rfl, List.forall_mem_cons.2 ⟨rfl, List.forall_mem_cons.2 ⟨rfl, fun _ h => nomatch h⟩⟩⟩⟩) (tables_law A op s ha hb)

end Go.Proofs.YtamkkkkonigglaaGreatDoor
