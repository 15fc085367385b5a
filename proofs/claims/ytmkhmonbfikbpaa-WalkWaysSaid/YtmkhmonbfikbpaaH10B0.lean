/- How values lie in cells, what each function promises, and what its code does; by a program of this work. -/
import Derived.Test.YtmkhmonbfikbpaaH10A
import Derived.Test.YtmkhmonbfikbpaaProg
import Derived.KernelRfl
import Derived.RangeFuncOwn
import Derived.TacticsIn
import Derived.TacticsInMore
import Derived.Shelf.Abstract
namespace Go.Proofs.Ytmkhmonbfikbpaa
open Go Go.RowKit Go.Ev Go.Proofs
set_option linter.unusedVariables false

def T0 : Tab := [(3, ⟨1, 8, (.int .i64), [.v (.int .i64 0)]⟩),
  (4, ⟨1, 1, .bool, [.v (.bool false)]⟩),
  (5, ⟨1, 1, (.int .u8), [.v (.int .u8 0)]⟩),
  (22, ⟨1, 24, (.slice 5), [.nil 1]⟩),
  (23, ⟨1, 24, (.slice 37), [.nil 2]⟩),
  (24, ⟨1, 24, (.slice 41), [.nil 10]⟩),
  (26, ⟨2, 48, (.struct [(0, 23), (1, 24)]), [.nil 2, .nil 10]⟩),
  (28, ⟨1, 8, (.pointer 82), [.v (.pointer none)]⟩),
  (31, ⟨1, 8, (.int .i64), [.v (.int .i64 0)]⟩),
  (37, ⟨2, 16, (.struct [(0, 3), (1, 4)]), [.v (.int .i64 0), .v (.bool false)]⟩),
  (39, ⟨2, 16, (.struct [(0, 3), (1, 3)]), [.v (.int .i64 0), .v (.int .i64 0)]⟩),
  (41, ⟨10, 72, (.struct [(0, 3), (1, 3), (2, 3), (3, 3), (4, 4), (5, 4), (6, 39), (8, 39)]), [.v (.int .i64 0), .v (.int .i64 0), .v (.int .i64 0), .v (.int .i64 0), .v (.bool false), .v (.bool false), .v (.int .i64 0), .v (.int .i64 0), .v (.int .i64 0), .v (.int .i64 0)]⟩),
  (56, ⟨1, 24, (.slice 3), [.nil 1]⟩),
  (70, ⟨2, 16, (.array 2 3), [.v (.int .i64 0), .v (.int .i64 0)]⟩),
  (71, ⟨1, 24, (.slice 70), [.nil 2]⟩),
  (82, ⟨2, 32, (.struct [(0, 22), (1, 3)]), [.nil 1, .v (.int .i64 0)]⟩),
  (94, ⟨3, 24, (.struct [(0, 3), (1, 3), (2, 3)]), [.v (.int .i64 0), .v (.int .i64 0), .v (.int .i64 0)]⟩),
  (96, ⟨1, 24, (.slice 98), [.nil 2]⟩),
  (98, ⟨2, 16, (.struct [(0, 3), (1, 3)]), [.v (.int .i64 0), .v (.int .i64 0)]⟩)]
theorem tab : TabOk Try.prog T0 := tabOk_of (by kernel_rfl)
theorem env : Env Try.prog T0 := ⟨tab, by kernel_rfl⟩
theorem eqst98 (a0 : Int) (a1 : Int) (b0 : Int) (b1 : Int) : ∀ w, (Op.equalIn 10000 98 (.agg #[.int .i64 a0, .int .i64 a1]) (.agg #[.int .i64 b0, .int .i64 b1])).run Try.prog w = .ok ((a0 == b0) && (a1 == b1)) w := by
  intro w
  have h : (Op.equalIn (9999 + 1) 98 (.agg #[.int .i64 a0, .int .i64 a1]) (.agg #[.int .i64 b0, .int .i64 b1])).run Try.prog w = .ok _ w := (eqA_of Try.underlying98 (by kernel_rfl) (eqf_cons (a := (.int .i64 a0)) (b := (.int .i64 b0)) (by kernel_rfl) (by kernel_rfl) (by kernel_rfl) (eq_int Try.underlying3) (eqf_last (a := (.int .i64 a1)) (b := (.int .i64 b1)) (by kernel_rfl) (by kernel_rfl) (by kernel_rfl) (eq_int Try.underlying3))))
  exact h
def e_Codes (x : T_Codes) : List C := [.lst 1 x.l_.length (encF (eI .u8) 0 x.l_), .v (.int .i64 x.at_)]
def e_Place (x : T_Place) : List C := [.v (.int .i64 x.Height), .v (.bool x.Surface)]
theorem sc_Place : ∀ x : T_Place, ∀ c ∈ e_Place x, scalarC c := by
  intro x c hc
  simp only [e_Place, List.mem_cons, List.not_mem_nil, or_false] at hc
  rcases hc with rfl | rfl <;> trivial
def e_Road (x : T_Road) : List C := [.v (.int .i64 x.From), .v (.int .i64 x.To), .v (.int .i64 x.Length), .v (.int .i64 x.Area), .v (.bool x.Walk), .v (.bool x.Closed), .v (.int .i64 x.Rest_Low), .v (.int .i64 x.Rest_High), .v (.int .i64 x.Lift_Low), .v (.int .i64 x.Lift_High)]
theorem sc_Road : ∀ x : T_Road, ∀ c ∈ e_Road x, scalarC c := by
  intro x c hc
  simp only [e_Road, List.mem_cons, List.not_mem_nil, or_false] at hc
  rcases hc with rfl | rfl | rfl | rfl | rfl | rfl | rfl | rfl | rfl | rfl <;> trivial
def e_Mine (x : T_Mine) : List C := [.lst 2 x.Places.length (encF e_Place d_Place x.Places), .lst 10 x.Roads.length (encF e_Road d_Road x.Roads)]
def e_S70 (x : T_S70) : List C := [.v (.int .i64 x.a0_), .v (.int .i64 x.a1_)]
theorem sc_S70 : ∀ x : T_S70, ∀ c ∈ e_S70 x, scalarC c := by
  intro x c hc
  simp only [e_S70, List.mem_cons, List.not_mem_nil, or_false] at hc
  rcases hc with rfl | rfl <;> trivial
def e_Span (x : T_Span) : List C := [.v (.int .i64 x.Low), .v (.int .i64 x.High)]
theorem sc_Span : ∀ x : T_Span, ∀ c ∈ e_Span x, scalarC c := by
  intro x c hc
  simp only [e_Span, List.mem_cons, List.not_mem_nil, or_false] at hc
  rcases hc with rfl | rfl <;> trivial
def e_cost (x : T_cost) : List C := [.v (.int .i64 x.time_), .v (.int .i64 x.roads_)]
theorem sc_cost : ∀ x : T_cost, ∀ c ∈ e_cost x, scalarC c := by
  intro x c hc
  simp only [e_cost, List.mem_cons, List.not_mem_nil, or_false] at hc
  rcases hc with rfl | rfl <;> trivial
def e_pace (x : T_pace) : List C := [.v (.int .i64 x.up_), .v (.int .i64 x.down_), .v (.int .i64 x.level_)]
theorem sc_pace : ∀ x : T_pace, ∀ c ∈ e_pace x, scalarC c := by
  intro x c hc
  simp only [e_pace, List.mem_cons, List.not_mem_nil, or_false] at hc
  rcases hc with rfl | rfl | rfl <;> trivial
def ax_draw_New (a0 : (List Int)) : List X := [.c (.lst 1 a0.length (encF (eI .u8) 0 a0))]
def rx_draw_New (r : T_Codes) : X := .cell [.c (.lst 1 r.l_.length (encF (eI .u8) 0 r.l_)), .c (.v (.int .i64 r.at_))]
def px_draw_New (r : T_Codes) : List (List X) := []
def ax_draw_Codes_Next (a0 : T_Codes) (a1 : Int) : List X := [.cell [.c (.lst 1 a0.l_.length (encF (eI .u8) 0 a0.l_)), .c (.v (.int .i64 a0.at_))], .c (.v (.int .i64 a1))]
def rx_draw_Codes_Next (r : (Int × T_Codes)) : X := .c (.v (.int .i64 r.1))
def px_draw_Codes_Next (r : (Int × T_Codes)) : List (List X) := [[.c (.lst 1 r.2.l_.length (encF (eI .u8) 0 r.2.l_)), .c (.v (.int .i64 r.2.at_))]]
def ax_draw_Codes_Range (a0 : T_Codes) (a1 : Int) (a2 : Int) : List X := [.cell [.c (.lst 1 a0.l_.length (encF (eI .u8) 0 a0.l_)), .c (.v (.int .i64 a0.at_))], .c (.v (.int .i64 a1)), .c (.v (.int .i64 a2))]
def rx_draw_Codes_Range (r : (Int × T_Codes)) : X := .c (.v (.int .i64 r.1))
def px_draw_Codes_Range (r : (Int × T_Codes)) : List (List X) := [[.c (.lst 1 r.2.l_.length (encF (eI .u8) 0 r.2.l_)), .c (.v (.int .i64 r.2.at_))]]
def ax_draw_Codes_One (a0 : T_Codes) (a1 : Int) : List X := [.cell [.c (.lst 1 a0.l_.length (encF (eI .u8) 0 a0.l_)), .c (.v (.int .i64 a0.at_))], .c (.v (.int .i64 a1))]
def rx_draw_Codes_One (r : (Bool × T_Codes)) : X := .c (.v (.bool r.1))
def px_draw_Codes_One (r : (Bool × T_Codes)) : List (List X) := [[.c (.lst 1 r.2.l_.length (encF (eI .u8) 0 r.2.l_)), .c (.v (.int .i64 r.2.at_))]]
def ax_draw_Codes_Road (a0 : T_Codes) (a1 : Int) (a2 : Int) : List X := [.cell [.c (.lst 1 a0.l_.length (encF (eI .u8) 0 a0.l_)), .c (.v (.int .i64 a0.at_))], .c (.v (.int .i64 a1)), .c (.v (.int .i64 a2))]
def rx_draw_Codes_Road (r : (T_Road × T_Codes)) : X := .agg [.c (.v (.int .i64 r.1.From)), .c (.v (.int .i64 r.1.To)), .c (.v (.int .i64 r.1.Length)), .c (.v (.int .i64 r.1.Area)), .c (.v (.bool r.1.Walk)), .c (.v (.bool r.1.Closed)), .c (.v (.int .i64 r.1.Rest_Low)), .c (.v (.int .i64 r.1.Rest_High)), .c (.v (.int .i64 r.1.Lift_Low)), .c (.v (.int .i64 r.1.Lift_High))]
def px_draw_Codes_Road (r : (T_Road × T_Codes)) : List (List X) := [[.c (.lst 1 r.2.l_.length (encF (eI .u8) 0 r.2.l_)), .c (.v (.int .i64 r.2.at_))]]
def ax_draw_Codes_Mine (a0 : T_Codes) : List X := [.cell [.c (.lst 1 a0.l_.length (encF (eI .u8) 0 a0.l_)), .c (.v (.int .i64 a0.at_))]]
def rx_draw_Codes_Mine (r : (T_Mine × T_Codes)) : X := .agg [.own 2 r.1.Places.length (encF e_Place d_Place r.1.Places), .own 10 r.1.Roads.length (encF e_Road d_Road r.1.Roads)]
def px_draw_Codes_Mine (r : (T_Mine × T_Codes)) : List (List X) := [[.c (.lst 1 r.2.l_.length (encF (eI .u8) 0 r.2.l_)), .c (.v (.int .i64 r.2.at_))]]
def ax_draw_Mod (a0 : Int) (a1 : Int) : List X := [.c (.v (.int .i64 a0)), .c (.v (.int .i64 a1))]
def rx_draw_Mod (r : Int) : X := .c (.v (.int .i64 r))
def px_draw_Mod (r : Int) : List (List X) := []
theorem flat_draw_Mod (r : Int) : flatX (rx_draw_Mod r) ∧ flatXss (px_draw_Mod r) := ⟨(flv _), flss0⟩
def ax_plan_spanIn (a0 : T_Span) (a1 : Int) (a2 : Int) : List X := [.agg [.c (.v (.int .i64 a0.Low)), .c (.v (.int .i64 a0.High))], .c (.v (.int .i64 a1)), .c (.v (.int .i64 a2))]
def rx_plan_spanIn (r : Bool) : X := .c (.v (.bool r))
def px_plan_spanIn (r : Bool) : List (List X) := []
theorem flat_plan_spanIn (r : Bool) : flatX (rx_plan_spanIn r) ∧ flatXss (px_plan_spanIn r) := ⟨(flv _), flss0⟩
def ax_plan_Check (a0 : T_Mine) : List X := [.agg [.c (.lst 2 a0.Places.length (encF e_Place d_Place a0.Places)), .c (.lst 10 a0.Roads.length (encF e_Road d_Road a0.Roads))]]
def rx_plan_Check (r : Int) : X := .c (.v (.int .i64 r))
def px_plan_Check (r : Int) : List (List X) := []
theorem flat_plan_Check (r : Int) : flatX (rx_plan_Check r) ∧ flatXss (px_plan_Check r) := ⟨(flv _), flss0⟩
def ax_plan_Valid (a0 : T_Mine) : List X := [.agg [.c (.lst 2 a0.Places.length (encF e_Place d_Place a0.Places)), .c (.lst 10 a0.Roads.length (encF e_Road d_Road a0.Roads))]]
def rx_plan_Valid (r : Bool) : X := .c (.v (.bool r))
def px_plan_Valid (r : Bool) : List (List X) := []
theorem flat_plan_Valid (r : Bool) : flatX (rx_plan_Valid r) ∧ flatXss (px_plan_Valid r) := ⟨(flv _), flss0⟩
def rx_walk_quick (r : T_pace) : X := .agg [.c (.v (.int .i64 r.up_)), .c (.v (.int .i64 r.down_)), .c (.v (.int .i64 r.level_))]
def px_walk_quick (r : T_pace) : List (List X) := []
theorem flat_walk_quick (r : T_pace) : flatX (rx_walk_quick r) ∧ flatXss (px_walk_quick r) := ⟨(fla (flv _) (fla (flv _) (fla (flv _) fla0))), flss0⟩
def ax_walk_with (a0 : T_Mine) (a1 : Int) (a2 : Bool) (a3 : T_pace) : List X := [.agg [.c (.lst 2 a0.Places.length (encF e_Place d_Place a0.Places)), .c (.lst 10 a0.Roads.length (encF e_Road d_Road a0.Roads))], .c (.v (.int .i64 a1)), .c (.v (.bool a2)), .agg [.c (.v (.int .i64 a3.up_)), .c (.v (.int .i64 a3.down_)), .c (.v (.int .i64 a3.level_))]]
def rx_walk_with (r : Int) : X := .c (.v (.int .i64 r))
def px_walk_with (r : Int) : List (List X) := []
theorem flat_walk_with (r : Int) : flatX (rx_walk_with r) ∧ flatXss (px_walk_with r) := ⟨(flv _), flss0⟩
def ax_walk_step (a0 : T_Mine) (a1 : Int) (a2 : Bool) : List X := [.agg [.c (.lst 2 a0.Places.length (encF e_Place d_Place a0.Places)), .c (.lst 10 a0.Roads.length (encF e_Road d_Road a0.Roads))], .c (.v (.int .i64 a1)), .c (.v (.bool a2))]
def rx_walk_step (r : Int) : X := .c (.v (.int .i64 r))
def px_walk_step (r : Int) : List (List X) := []
theorem flat_walk_step (r : Int) : flatX (rx_walk_step r) ∧ flatXss (px_walk_step r) := ⟨(flv _), flss0⟩
def ax_walk_cost_less (a0 : T_cost) (a1 : T_cost) : List X := [.agg [.c (.v (.int .i64 a0.time_)), .c (.v (.int .i64 a0.roads_))], .agg [.c (.v (.int .i64 a1.time_)), .c (.v (.int .i64 a1.roads_))]]
def rx_walk_cost_less (r : Bool) : X := .c (.v (.bool r))
def px_walk_cost_less (r : Bool) : List (List X) := []
theorem flat_walk_cost_less (r : Bool) : flatX (rx_walk_cost_less r) ∧ flatXss (px_walk_cost_less r) := ⟨(flv _), flss0⟩
def ax_plan_Roads (a0 : T_Mine) (a1 : Int) : List X := [.agg [.c (.lst 2 a0.Places.length (encF e_Place d_Place a0.Places)), .c (.lst 10 a0.Roads.length (encF e_Road d_Road a0.Roads))], .c (.v (.int .i64 a1))]
def rx_plan_Roads (r : (List Int)) : X := .own 1 r.length (encF (eI .i64) 0 r)
def px_plan_Roads (r : (List Int)) : List (List X) := []
theorem flat_plan_Roads (r : (List Int)) : flatX (rx_plan_Roads r) ∧ flatXss (px_plan_Roads r) := ⟨(flat_enc (scI _) _ _), flss0⟩
def ax_plan_Other (a0 : T_Mine) (a1 : Int) (a2 : Int) : List X := [.agg [.c (.lst 2 a0.Places.length (encF e_Place d_Place a0.Places)), .c (.lst 10 a0.Roads.length (encF e_Road d_Road a0.Roads))], .c (.v (.int .i64 a1)), .c (.v (.int .i64 a2))]
def rx_plan_Other (r : Int) : X := .c (.v (.int .i64 r))
def px_plan_Other (r : Int) : List (List X) := []
theorem flat_plan_Other (r : Int) : flatX (rx_plan_Other r) ∧ flatXss (px_plan_Other r) := ⟨(flv _), flss0⟩
def ax_walk_Way (a0 : T_Mine) (a1 : Int) (a2 : Int) : List X := [.agg [.c (.lst 2 a0.Places.length (encF e_Place d_Place a0.Places)), .c (.lst 10 a0.Roads.length (encF e_Road d_Road a0.Roads))], .c (.v (.int .i64 a1)), .c (.v (.int .i64 a2))]
def rx_walk_Way (r : ((List Int) × Int × Bool)) : X := .tup [.own 1 r.1.length (encF (eI .i64) 0 r.1), .c (.v (.int .i64 r.2.1)), .c (.v (.bool r.2.2))]
def px_walk_Way (r : ((List Int) × Int × Bool)) : List (List X) := []
theorem flat_walk_Way (r : ((List Int) × Int × Bool)) : flatX (rx_walk_Way r) ∧ flatXss (px_walk_Way r) := ⟨(flt (flat_enc (scI _) _ _) (flt (flv _) (flt (flv _) flt0))), flss0⟩
def ax_ref01_Span (a0 : T_Span) (a1 : Int) (a2 : Int) : List X := [.agg [.c (.v (.int .i64 a0.Low)), .c (.v (.int .i64 a0.High))], .c (.v (.int .i64 a1)), .c (.v (.int .i64 a2))]
def rx_ref01_Span (r : Bool) : X := .c (.v (.bool r))
def px_ref01_Span (r : Bool) : List (List X) := []
theorem flat_ref01_Span (r : Bool) : flatX (rx_ref01_Span r) ∧ flatXss (px_ref01_Span r) := ⟨(flv _), flss0⟩
def ax_ref01_Check (a0 : T_Mine) : List X := [.agg [.c (.lst 2 a0.Places.length (encF e_Place d_Place a0.Places)), .c (.lst 10 a0.Roads.length (encF e_Road d_Road a0.Roads))]]
def rx_ref01_Check (r : Int) : X := .c (.v (.int .i64 r))
def px_ref01_Check (r : Int) : List (List X) := []
theorem flat_ref01_Check (r : Int) : flatX (rx_ref01_Check r) ∧ flatXss (px_ref01_Check r) := ⟨(flv _), flss0⟩
def ax_ref03_ends (a0 : T_Road) (a1 : Bool) : List X := [.agg [.c (.v (.int .i64 a0.From)), .c (.v (.int .i64 a0.To)), .c (.v (.int .i64 a0.Length)), .c (.v (.int .i64 a0.Area)), .c (.v (.bool a0.Walk)), .c (.v (.bool a0.Closed)), .c (.v (.int .i64 a0.Rest_Low)), .c (.v (.int .i64 a0.Rest_High)), .c (.v (.int .i64 a0.Lift_Low)), .c (.v (.int .i64 a0.Lift_High))], .c (.v (.bool a1))]
def rx_ref03_ends (r : (Int × Int)) : X := .tup [.c (.v (.int .i64 r.1)), .c (.v (.int .i64 r.2))]
def px_ref03_ends (r : (Int × Int)) : List (List X) := []
theorem flat_ref03_ends (r : (Int × Int)) : flatX (rx_ref03_ends r) ∧ flatXss (px_ref03_ends r) := ⟨(flt (flv _) (flt (flv _) flt0)), flss0⟩
def ax_ref03_walked (a0 : T_Mine) (a1 : Int) (a2 : Bool) (a3 : Int) (a4 : Int) (a5 : Int) : List X := [.agg [.c (.lst 2 a0.Places.length (encF e_Place d_Place a0.Places)), .c (.lst 10 a0.Roads.length (encF e_Road d_Road a0.Roads))], .c (.v (.int .i64 a1)), .c (.v (.bool a2)), .c (.v (.int .i64 a3)), .c (.v (.int .i64 a4)), .c (.v (.int .i64 a5))]
def rx_ref03_walked (r : Int) : X := .c (.v (.int .i64 r))
def px_ref03_walked (r : Int) : List (List X) := []
theorem flat_ref03_walked (r : Int) : flatX (rx_ref03_walked r) ∧ flatXss (px_ref03_walked r) := ⟨(flv _), flss0⟩
def ax_ref03_Time (a0 : T_Mine) (a1 : Int) (a2 : Bool) : List X := [.agg [.c (.lst 2 a0.Places.length (encF e_Place d_Place a0.Places)), .c (.lst 10 a0.Roads.length (encF e_Road d_Road a0.Roads))], .c (.v (.int .i64 a1)), .c (.v (.bool a2))]
def rx_ref03_Time (r : Int) : X := .c (.v (.int .i64 r))
def px_ref03_Time (r : Int) : List (List X) := []
theorem flat_ref03_Time (r : Int) : flatX (rx_ref03_Time r) ∧ flatXss (px_ref03_Time r) := ⟨(flv _), flss0⟩
def ax_ref03_to (a0 : T_Mine) (a1 : Int) : List X := [.agg [.c (.lst 2 a0.Places.length (encF e_Place d_Place a0.Places)), .c (.lst 10 a0.Roads.length (encF e_Road d_Road a0.Roads))], .c (.v (.int .i64 a1))]
def rx_ref03_to (r : ((List Int) × (List Int))) : X := .tup [.own 1 r.1.length (encF (eI .i64) 0 r.1), .own 1 r.2.length (encF (eI .i64) 0 r.2)]
def px_ref03_to (r : ((List Int) × (List Int))) : List (List X) := []
theorem flat_ref03_to (r : ((List Int) × (List Int))) : flatX (rx_ref03_to r) ∧ flatXss (px_ref03_to r) := ⟨(flt (flat_enc (scI _) _ _) (flt (flat_enc (scI _) _ _) flt0)), flss0⟩
def ax_ref03_Way (a0 : T_Mine) (a1 : Int) (a2 : Int) : List X := [.agg [.c (.lst 2 a0.Places.length (encF e_Place d_Place a0.Places)), .c (.lst 10 a0.Roads.length (encF e_Road d_Road a0.Roads))], .c (.v (.int .i64 a1)), .c (.v (.int .i64 a2))]
def rx_ref03_Way (r : ((List Int) × Int × Bool)) : X := .tup [.own 1 r.1.length (encF (eI .i64) 0 r.1), .c (.v (.int .i64 r.2.1)), .c (.v (.bool r.2.2))]
def px_ref03_Way (r : ((List Int) × Int × Bool)) : List (List X) := []
theorem flat_ref03_Way (r : ((List Int) × Int × Bool)) : flatX (rx_ref03_Way r) ∧ flatXss (px_ref03_Way r) := ⟨(flt (flat_enc (scI _) _ _) (flt (flv _) (flt (flv _) flt0))), flss0⟩
def ax_ref01_Ints (a0 : (List Int)) (a1 : (List Int)) : List X := [.c (.lst 1 a0.length (encF (eI .i64) 0 a0)), .c (.lst 1 a1.length (encF (eI .i64) 0 a1))]
def rx_ref01_Ints (r : Bool) : X := .c (.v (.bool r))
def px_ref01_Ints (r : Bool) : List (List X) := []
theorem flat_ref01_Ints (r : Bool) : flatX (rx_ref01_Ints r) ∧ flatXss (px_ref01_Ints r) := ⟨(flv _), flss0⟩
def ax_walk_Time (a0 : T_Mine) (a1 : Int) (a2 : Bool) : List X := [.agg [.c (.lst 2 a0.Places.length (encF e_Place d_Place a0.Places)), .c (.lst 10 a0.Roads.length (encF e_Road d_Road a0.Roads))], .c (.v (.int .i64 a1)), .c (.v (.bool a2))]
def rx_walk_Time (r : Int) : X := .c (.v (.int .i64 r))
def px_walk_Time (r : Int) : List (List X) := []
theorem flat_walk_Time (r : Int) : flatX (rx_walk_Time r) ∧ flatXss (px_walk_Time r) := ⟨(flv _), flss0⟩
def rx_walk_slow (r : T_pace) : X := .agg [.c (.v (.int .i64 r.up_)), .c (.v (.int .i64 r.down_)), .c (.v (.int .i64 r.level_))]
def px_walk_slow (r : T_pace) : List (List X) := []
theorem flat_walk_slow (r : T_pace) : flatX (rx_walk_slow r) ∧ flatXss (px_walk_slow r) := ⟨(fla (flv _) (fla (flv _) (fla (flv _) fla0))), flss0⟩
def ax_walk_Slow (a0 : T_Mine) (a1 : Int) (a2 : Bool) : List X := [.agg [.c (.lst 2 a0.Places.length (encF e_Place d_Place a0.Places)), .c (.lst 10 a0.Roads.length (encF e_Road d_Road a0.Roads))], .c (.v (.int .i64 a1)), .c (.v (.bool a2))]
def rx_walk_Slow (r : Int) : X := .c (.v (.int .i64 r))
def px_walk_Slow (r : Int) : List (List X) := []
theorem flat_walk_Slow (r : Int) : flatX (rx_walk_Slow r) ∧ flatXss (px_walk_Slow r) := ⟨(flv _), flss0⟩
def ax_walk_Least (a0 : T_Mine) (a1 : (List Int)) : List X := [.agg [.c (.lst 2 a0.Places.length (encF e_Place d_Place a0.Places)), .c (.lst 10 a0.Roads.length (encF e_Road d_Road a0.Roads))], .c (.lst 1 a1.length (encF (eI .i64) 0 a1))]
def rx_walk_Least (r : (List Int)) : X := .own 1 r.length (encF (eI .i64) 0 r)
def px_walk_Least (r : (List Int)) : List (List X) := []
theorem flat_walk_Least (r : (List Int)) : flatX (rx_walk_Least r) ∧ flatXss (px_walk_Least r) := ⟨(flat_enc (scI _) _ _), flss0⟩
def rx_law03_awake (r : Bool) : X := .c (.v (.bool r))
def px_law03_awake (r : Bool) : List (List X) := []
theorem flat_law03_awake (r : Bool) : flatX (rx_law03_awake r) ∧ flatXss (px_law03_awake r) := ⟨(flv _), flss0⟩
def ax_law03_WalkWays (a0 : (List Int)) (a1 : Int) (a2 : Int) : List X := [.c (.lst 1 a0.length (encF (eI .u8) 0 a0)), .c (.v (.int .i64 a1)), .c (.v (.int .i64 a2))]
def rx_law03_WalkWays (r : Bool) : X := .c (.v (.bool r))
def px_law03_WalkWays (r : Bool) : List (List X) := []
theorem flat_law03_WalkWays (r : Bool) : flatX (rx_law03_WalkWays r) ∧ flatXss (px_law03_WalkWays r) := ⟨(flv _), flss0⟩
end Go.Proofs.Ytmkhmonbfikbpaa
namespace Go.Proofs.Ytmkhmonbfikbpaa
open Go Go.RowKit Go.Ev Go.Proofs
set_option linter.unusedVariables false

set_option maxRecDepth 100000
theorem ok_draw_New (K : Nat) (a0 : (List Int)) (r : T_Codes) (h : draw_New K a0 = some r) : FnOk Try.prog 16 (ax_draw_New a0) (rx_draw_New r) (px_draw_New r) := by
  refine ⟨⟨Try.f16, Try.func16, by kernel_rfl, by kernel_rfl⟩, ?_⟩
  unfold draw_New at h
  refine fn_ok env Try.func16 rfl ⟨10, [(0, .c (.lst 1 a0.length (encF (eI .u8) 0 a0)))], [], []⟩ [] (by kernel_rfl) fun X => ?_
  refine tri_reg env [] 1 1024 [.keep [0] [] []] ⟨10, [(0, .c (.lst 1 a0.length (encF (eI .u8) 0 a0)))], [], []⟩ [] (by kernel_rfl) trivial ?_
  obtain ⟨q1, h⟩ := ck_inv h
  obtain ⟨q2, h⟩ := ck_inv h
  refine tri_reg env [] 2 1024 [.var (2006, 0) [.lst 1 ((a0.take ((if 300 < ((a0.length : Nat) : Int) then 300 else ((a0.length : Nat) : Int)).toNat)).length) (encF (eI .u8) 0 (a0.take ((if 300 < ((a0.length : Nat) : Int) then 300 else ((a0.length : Nat) : Int)).toNat))), .v (.int .i64 0)], .keep [2] [(2006, 0)] []] ⟨10, [(2, .c (.pvar (2006, 0) 0))], [((2006, 0), [.lst 1 ((a0.take ((if 300 < ((a0.length : Nat) : Int) then 300 else ((a0.length : Nat) : Int)).toNat)).length) (encF (eI .u8) 0 (a0.take ((if 300 < ((a0.length : Nat) : Int) then 300 else ((a0.length : Nat) : Int)).toNat))), .v (.int .i64 0)])], []⟩ [(0 ≤ (if 300 < ((a0.length : Nat) : Int) then 300 else ((a0.length : Nat) : Int))), (0 ≤ (if 300 < ((a0.length : Nat) : Int) then 300 else ((a0.length : Nat) : Int)).toNat ∧ (if 300 < ((a0.length : Nat) : Int) then 300 else ((a0.length : Nat) : Int)).toNat ≤ a0.length), (TellCs [.lst 1 ((if 300 < ((a0.length : Nat) : Int) then 300 else ((a0.length : Nat) : Int)).toNat - 0) ((fun i => (encF (eI .u8) 0 a0) (0 + i))), .v (.int .i64 0)] [.lst 1 ((a0.take ((if 300 < ((a0.length : Nat) : Int) then 300 else ((a0.length : Nat) : Int)).toNat)).length) (encF (eI .u8) 0 (a0.take ((if 300 < ((a0.length : Nat) : Int) then 300 else ((a0.length : Nat) : Int)).toNat))), .v (.int .i64 0)])] (by kernel_rfl) ⟨q1, q2, ⟨(TellC.of (Tells.eqc (Tells.take0 (Tells.rfl' (e := (eI .u8)) (d := 0) (L := a0)) q2.2)) rfl), ⟨(TellC.refl _), trivial⟩⟩, trivial⟩ ?_
  refine tri_ret ?_
  rw [some_inv h]
  exact ⟨[], by kernel_rfl, trivial⟩
end Go.Proofs.Ytmkhmonbfikbpaa
namespace Go.Proofs.Ytmkhmonbfikbpaa
open Go Go.RowKit Go.Ev Go.Proofs
set_option linter.unusedVariables false

set_option maxRecDepth 100000
theorem ok_draw_Codes_Next (K : Nat) (a0 : T_Codes) (a1 : Int) (r : (Int × T_Codes)) (h : draw_Codes_Next K a0 a1 = some r) : FnOk Try.prog 55 (ax_draw_Codes_Next a0 a1) (rx_draw_Codes_Next r) (px_draw_Codes_Next r) := by
  refine ⟨⟨Try.f55, Try.func55, by kernel_rfl, by kernel_rfl⟩, ?_⟩
  unfold draw_Codes_Next at h
  refine fn_ok env Try.func55 rfl ⟨77, [(0, .c (.pvar (0, 0) 0)), (1, .c (.v (.int .i64 a1)))], [((0, 0), (e_Codes a0))], []⟩ [(0, 0)] (by kernel_rfl) fun X => ?_
  refine tri_reg env [] 1 1024 [.keep [0, 1] [(0, 0)] []] ⟨77, [(0, .c (.pvar (0, 0) 0)), (1, .c (.v (.int .i64 a1)))], [((0, 0), (e_Codes a0))], []⟩ [] (by kernel_rfl) trivial ?_
  refine tri_seq ?_
  refine cnd_split h (fun e1 h => ?_) (fun e1 h => ?_)
  · refine tri_reg env [(2, .b true), (13, .b true)] 2 1024 [.keep [0, 1, 19] [(0, 0)] []] ⟨77, [(0, .c (.pvar (0, 0) 0)), (1, .c (.v (.int .i64 a1))), (19, .c (.v (.bool true)))], [((0, 0), (e_Codes a0))], []⟩ [True, ((decide (a1 < 1)) = true), ((decide (a1 < 1)) = true), ((decide (a1 < 1)) = true), ((decide (a1 < 1)) = true), ((decide (a1 < 1)) = true), ((decide (a1 < 1)) = true), ((decide (a1 < 1)) = true), ((decide (a1 < 1)) = true), ((decide (a1 < 1)) = true), ((decide (a1 < 1)) = true), ((decide (a1 < 1)) = true)] (by kernel_rfl) ⟨trivial, e1, e1, e1, e1, e1, e1, e1, e1, e1, e1, e1, trivial⟩ ?_
    refine tri_cond true (by kernel_rfl) (fun _ => ?_) (fun e => by cases e)
    refine tri_reg env [] 3 1024 [.keep [4] [(0, 0)] []] ⟨77, [(4, .c (.v (.int .i64 0)))], [((0, 0), (e_Codes a0))], []⟩ [] (by kernel_rfl) trivial ?_
    refine tri_ret ?_
    refine thenR ?_
    rw [some_inv h]
    exact ⟨[], by kernel_rfl, trivial⟩
  · refine tri_reg env [(2, .b false), (13, .b false)] 2 1024 [.keep [0, 1, 19] [(0, 0)] []] ⟨77, [(0, .c (.pvar (0, 0) 0)), (1, .c (.v (.int .i64 a1))), (19, .c (.v (.bool (decide (a0.at_ ≥ ((a0.l_.length : Nat) : Int))))))], [((0, 0), (e_Codes a0))], []⟩ [True, ((decide (a1 < 1)) = false), ((decide (a1 < 1)) = false), ((decide (a1 < 1)) = false), ((decide (a1 < 1)) = false), ((decide (a1 < 1)) = false), ((decide (a1 < 1)) = false), ((decide (a1 < 1)) = false), ((decide (a1 < 1)) = false), ((decide (a1 < 1)) = false), ((decide (a1 < 1)) = false), True, ((decide (a1 < 1)) = false)] (by kernel_rfl) ⟨trivial, e1, e1, e1, e1, e1, e1, e1, e1, e1, e1, trivial, e1, trivial⟩ ?_
    refine tri_cond (decide (a0.at_ ≥ ((a0.l_.length : Nat) : Int))) (by kernel_rfl) (fun e3 => ?_) (fun e3 => ?_)
    · replace h := cnd_t h e3
      refine tri_reg env [] 3 1024 [.keep [4] [(0, 0)] []] ⟨77, [(4, .c (.v (.int .i64 0)))], [((0, 0), (e_Codes a0))], []⟩ [] (by kernel_rfl) trivial ?_
      refine tri_ret ?_
      refine thenR ?_
      rw [some_inv h]
      exact ⟨[], by kernel_rfl, trivial⟩
    · replace h := cnd_f h e3
      refine tri_skip ?_
      refine thenN ?_
      refine tri_reg env [] 4 1024 [.keep [0, 1] [(0, 0)] []] ⟨77, [(0, .c (.pvar (0, 0) 0)), (1, .c (.v (.int .i64 a1)))], [((0, 0), [.lst 1 a0.l_.length (encF (eI .u8) 0 a0.l_), .v (.int .i64 (IntKind.wrap .i64 (a0.at_ + 1)))])], []⟩ [True] (by kernel_rfl) ⟨trivial, trivial⟩ ?_
      obtain ⟨q4, h⟩ := ck_inv h
      refine tri_reg env [] 5 1024 [.keep [0, 1, 5] [(0, 0)] []] ⟨77, [(0, .c (.pvar (0, 0) 0)), (1, .c (.v (.int .i64 a1))), (5, .c (.v (.int .i64 (IntKind.wrap .i64 (a0.l_.getD ((IntKind.wrap .i64 ((IntKind.wrap .i64 (a0.at_ + 1)) - 1)).toNat) 0)))))], [((0, 0), [.lst 1 a0.l_.length (encF (eI .u8) 0 a0.l_), .v (.int .i64 (IntKind.wrap .i64 (a0.at_ + 1)))])], []⟩ [True, (0 ≤ (IntKind.wrap .i64 ((IntKind.wrap .i64 (a0.at_ + 1)) - 1)) ∧ (IntKind.wrap .i64 ((IntKind.wrap .i64 (a0.at_ + 1)) - 1)) < ((a0.l_.length : Nat) : Int))] (by kernel_rfl) ⟨trivial, q4, trivial⟩ ?_
      refine tri_joinC (fun (v1 : (Int × Int)) => ⟨77, [(1, .c (.v (.int .i64 a1))), (5, .c (.v (.int .i64 v1.1)))], [((0, 0), [.lst 1 a0.l_.length (encF (eI .u8) 0 a0.l_), .v (.int .i64 v1.2)])], []⟩) h (fun v1 h => ?_) (fun j1 h => ?_)
      · obtain ⟨q5, h⟩ := ck_inv h
        refine tri_reg env [] 9 1024 [.keep [4] [(0, 0)] []] ⟨77, [(4, .c (.v (.int .i64 (Int.tmod v1.1 a1))))], [((0, 0), [.lst 1 a0.l_.length (encF (eI .u8) 0 a0.l_), .v (.int .i64 v1.2)])], []⟩ [(a1 ≠ 0)] (by kernel_rfl) ⟨q5, trivial⟩ ?_
        refine tri_ret ?_
        rw [some_inv h]
        exact ⟨[], by kernel_rfl, trivial⟩
      · refine cnd_split h (fun e6 h => ?_) (fun e6 h => ?_)
        · refine tri_reg env [(2, .b true), (13, .b true)] 6 1024 [.keep [0, 1, 5, 52] [(0, 0)] []] ⟨77, [(0, .c (.pvar (0, 0) 0)), (1, .c (.v (.int .i64 a1))), (5, .c (.v (.int .i64 (IntKind.wrap .i64 (a0.l_.getD ((IntKind.wrap .i64 ((IntKind.wrap .i64 (a0.at_ + 1)) - 1)).toNat) 0))))), (52, .c (.v (.bool (decide ((IntKind.wrap .i64 (a0.at_ + 1)) < ((a0.l_.length : Nat) : Int))))))], [((0, 0), [.lst 1 a0.l_.length (encF (eI .u8) 0 a0.l_), .v (.int .i64 (IntKind.wrap .i64 (a0.at_ + 1)))])], []⟩ [True, ((decide (a1 > 256)) = true), ((decide (a1 > 256)) = true), ((decide (a1 > 256)) = true), ((decide (a1 > 256)) = true), ((decide (a1 > 256)) = true), ((decide (a1 > 256)) = true), ((decide (a1 > 256)) = true), ((decide (a1 > 256)) = true), ((decide (a1 > 256)) = true), ((decide (a1 > 256)) = true), True, ((decide (a1 > 256)) = true)] (by kernel_rfl) ⟨trivial, e6, e6, e6, e6, e6, e6, e6, e6, e6, e6, trivial, e6, trivial⟩ ?_
          refine tri_cond (decide ((IntKind.wrap .i64 (a0.at_ + 1)) < ((a0.l_.length : Nat) : Int))) (by kernel_rfl) (fun e7 => ?_) (fun e7 => ?_)
          · replace h := cnd_t h e7
            obtain ⟨q8, h⟩ := ck_inv h
            refine tri_reg env [] 7 1024 [.keep [0, 1, 5] [(0, 0)] []] ⟨77, [(0, .c (.pvar (0, 0) 0)), (1, .c (.v (.int .i64 a1))), (5, .c (.v (.int .i64 (IntKind.wrap .i64 ((IntKind.wrap .i64 ((IntKind.wrap .i64 (a0.l_.getD ((IntKind.wrap .i64 ((IntKind.wrap .i64 (a0.at_ + 1)) - 1)).toNat) 0)) * 256)) + (IntKind.wrap .i64 (a0.l_.getD ((IntKind.wrap .i64 (a0.at_ + 1)).toNat) 0)))))))], [((0, 0), [.lst 1 a0.l_.length (encF (eI .u8) 0 a0.l_), .v (.int .i64 (IntKind.wrap .i64 (a0.at_ + 1)))])], []⟩ [True, (0 ≤ (IntKind.wrap .i64 (a0.at_ + 1)) ∧ (IntKind.wrap .i64 (a0.at_ + 1)) < ((a0.l_.length : Nat) : Int)), True] (by kernel_rfl) ⟨trivial, q8, trivial, trivial⟩ ?_
            refine tri_reg_end env [] 8 1024 [.keep [1, 5] [(0, 0)] []] ⟨77, [(1, .c (.v (.int .i64 a1))), (5, .c (.v (.int .i64 (IntKind.wrap .i64 ((IntKind.wrap .i64 ((IntKind.wrap .i64 (a0.l_.getD ((IntKind.wrap .i64 ((IntKind.wrap .i64 (a0.at_ + 1)) - 1)).toNat) 0)) * 256)) + (IntKind.wrap .i64 (a0.l_.getD ((IntKind.wrap .i64 (a0.at_ + 1)).toNat) 0)))))))], [((0, 0), [.lst 1 a0.l_.length (encF (eI .u8) 0 a0.l_), .v (.int .i64 (IntKind.wrap .i64 ((IntKind.wrap .i64 (a0.at_ + 1)) + 1)))])], []⟩ [True] (by kernel_rfl) ⟨trivial, trivial⟩ ?_
            exact thenJ ((IntKind.wrap .i64 ((IntKind.wrap .i64 ((IntKind.wrap .i64 (a0.l_.getD ((IntKind.wrap .i64 ((IntKind.wrap .i64 (a0.at_ + 1)) - 1)).toNat) 0)) * 256)) + (IntKind.wrap .i64 (a0.l_.getD ((IntKind.wrap .i64 (a0.at_ + 1)).toNat) 0)))), (IntKind.wrap .i64 ((IntKind.wrap .i64 (a0.at_ + 1)) + 1))) h (by kernel_rfl)
          · replace h := cnd_f h e7
            refine tri_tell [.keep [1, 5] [(0, 0)] []] ⟨77, [(1, .c (.v (.int .i64 a1))), (5, .c (.v (.int .i64 (IntKind.wrap .i64 (a0.l_.getD ((IntKind.wrap .i64 ((IntKind.wrap .i64 (a0.at_ + 1)) - 1)).toNat) 0)))))], [((0, 0), [.lst 1 a0.l_.length (encF (eI .u8) 0 a0.l_), .v (.int .i64 (IntKind.wrap .i64 (a0.at_ + 1)))])], []⟩ [] (by kernel_rfl) trivial ?_
            refine tri_skip ?_
            exact thenJ ((IntKind.wrap .i64 (a0.l_.getD ((IntKind.wrap .i64 ((IntKind.wrap .i64 (a0.at_ + 1)) - 1)).toNat) 0)), (IntKind.wrap .i64 (a0.at_ + 1))) h (by kernel_rfl)
        · refine tri_reg env [(2, .b false), (13, .b false)] 6 1024 [.keep [0, 1, 5, 52] [(0, 0)] []] ⟨77, [(0, .c (.pvar (0, 0) 0)), (1, .c (.v (.int .i64 a1))), (5, .c (.v (.int .i64 (IntKind.wrap .i64 (a0.l_.getD ((IntKind.wrap .i64 ((IntKind.wrap .i64 (a0.at_ + 1)) - 1)).toNat) 0))))), (52, .c (.v (.bool false)))], [((0, 0), [.lst 1 a0.l_.length (encF (eI .u8) 0 a0.l_), .v (.int .i64 (IntKind.wrap .i64 (a0.at_ + 1)))])], []⟩ [True, ((decide (a1 > 256)) = false), ((decide (a1 > 256)) = false), ((decide (a1 > 256)) = false), ((decide (a1 > 256)) = false), ((decide (a1 > 256)) = false), ((decide (a1 > 256)) = false), ((decide (a1 > 256)) = false), ((decide (a1 > 256)) = false), ((decide (a1 > 256)) = false), ((decide (a1 > 256)) = false), ((decide (a1 > 256)) = false)] (by kernel_rfl) ⟨trivial, e6, e6, e6, e6, e6, e6, e6, e6, e6, e6, e6, trivial⟩ ?_
          refine tri_cond false (by kernel_rfl) (fun e => by cases e) (fun _ => ?_)
          refine tri_tell [.keep [1, 5] [(0, 0)] []] ⟨77, [(1, .c (.v (.int .i64 a1))), (5, .c (.v (.int .i64 (IntKind.wrap .i64 (a0.l_.getD ((IntKind.wrap .i64 ((IntKind.wrap .i64 (a0.at_ + 1)) - 1)).toNat) 0)))))], [((0, 0), [.lst 1 a0.l_.length (encF (eI .u8) 0 a0.l_), .v (.int .i64 (IntKind.wrap .i64 (a0.at_ + 1)))])], []⟩ [] (by kernel_rfl) trivial ?_
          refine tri_skip ?_
          exact thenJ ((IntKind.wrap .i64 (a0.l_.getD ((IntKind.wrap .i64 ((IntKind.wrap .i64 (a0.at_ + 1)) - 1)).toNat) 0)), (IntKind.wrap .i64 (a0.at_ + 1))) h (by kernel_rfl)
end Go.Proofs.Ytmkhmonbfikbpaa
namespace Go.Proofs.Ytmkhmonbfikbpaa
open Go Go.RowKit Go.Ev Go.Proofs
set_option linter.unusedVariables false

set_option maxRecDepth 100000
theorem ok_draw_Codes_Range (K : Nat) (a0 : T_Codes) (a1 : Int) (a2 : Int) (r : (Int × T_Codes)) (h : draw_Codes_Range K a0 a1 a2 = some r) : FnOk Try.prog 56 (ax_draw_Codes_Range a0 a1 a2) (rx_draw_Codes_Range r) (px_draw_Codes_Range r) := by
  refine ⟨⟨Try.f56, Try.func56, by kernel_rfl, by kernel_rfl⟩, ?_⟩
  unfold draw_Codes_Range at h
  refine fn_ok env Try.func56 rfl ⟨15, [(0, .c (.pvar (0, 0) 0)), (1, .c (.v (.int .i64 a1))), (2, .c (.v (.int .i64 a2)))], [((0, 0), (e_Codes a0))], []⟩ [(0, 0)] (by kernel_rfl) fun X => ?_
  refine tri_reg env [] 1 1024 [.keep [0, 1, 2] [(0, 0)] []] ⟨15, [(0, .c (.pvar (0, 0) 0)), (1, .c (.v (.int .i64 a1))), (2, .c (.v (.int .i64 a2)))], [((0, 0), (e_Codes a0))], []⟩ [] (by kernel_rfl) trivial ?_
  obtain ⟨y1, c2, h⟩ := bnd_inv h
  refine tri_reg env [(6, .call ⟨(ax_draw_Codes_Next a0 (IntKind.wrap .i64 ((IntKind.wrap .i64 (a2 - a1)) + 1))), [false, false], rx_draw_Codes_Next y1, px_draw_Codes_Next y1, true⟩)] 2 1024 [.keep [6] [(0, 0)] []] ⟨15, [(6, .c (.v (.int .i64 (IntKind.wrap .i64 (a1 + y1.1)))))], [((0, 0), (e_Codes y1.2))], []⟩ [True, True, (EqXs (ax_draw_Codes_Next a0 (IntKind.wrap .i64 ((IntKind.wrap .i64 (a2 - a1)) + 1))) (ax_draw_Codes_Next a0 (IntKind.wrap .i64 ((IntKind.wrap .i64 (a2 - a1)) + 1)))), (FnOk Try.prog 55 (ax_draw_Codes_Next a0 (IntKind.wrap .i64 ((IntKind.wrap .i64 (a2 - a1)) + 1))) (rx_draw_Codes_Next y1) (px_draw_Codes_Next y1)), True] (by kernel_rfl) ⟨trivial, trivial, (eqs (eqp (eqr _) (eqp (eqr _) eqp0)) (eqs (eqr _) eqs0)), (ok_draw_Codes_Next K a0 (IntKind.wrap .i64 ((IntKind.wrap .i64 (a2 - a1)) + 1)) y1 c2), trivial, trivial⟩ ?_
  refine tri_ret ?_
  rw [some_inv h]
  exact ⟨[], by kernel_rfl, trivial⟩
end Go.Proofs.Ytmkhmonbfikbpaa
namespace Go.Proofs.Ytmkhmonbfikbpaa
open Go Go.RowKit Go.Ev Go.Proofs
set_option linter.unusedVariables false

set_option maxRecDepth 100000
theorem ok_draw_Codes_One (K : Nat) (a0 : T_Codes) (a1 : Int) (r : (Bool × T_Codes)) (h : draw_Codes_One K a0 a1 = some r) : FnOk Try.prog 57 (ax_draw_Codes_One a0 a1) (rx_draw_Codes_One r) (px_draw_Codes_One r) := by
  refine ⟨⟨Try.f57, Try.func57, by kernel_rfl, by kernel_rfl⟩, ?_⟩
  unfold draw_Codes_One at h
  refine fn_ok env Try.func57 rfl ⟨11, [(0, .c (.pvar (0, 0) 0)), (1, .c (.v (.int .i64 a1)))], [((0, 0), (e_Codes a0))], []⟩ [(0, 0)] (by kernel_rfl) fun X => ?_
  refine tri_reg env [] 1 1024 [.keep [0, 1] [(0, 0)] []] ⟨11, [(0, .c (.pvar (0, 0) 0)), (1, .c (.v (.int .i64 a1)))], [((0, 0), (e_Codes a0))], []⟩ [] (by kernel_rfl) trivial ?_
  obtain ⟨y1, c2, h⟩ := bnd_inv h
  refine tri_reg env [(2, .call ⟨(ax_draw_Codes_Next a0 a1), [false, false], rx_draw_Codes_Next y1, px_draw_Codes_Next y1, true⟩)] 2 1024 [.keep [4] [(0, 0)] []] ⟨11, [(4, .c (.v (.bool (y1.1 == (IntKind.wrap .i64 (a1 - 1))))))], [((0, 0), (e_Codes y1.2))], []⟩ [(EqXs (ax_draw_Codes_Next a0 a1) (ax_draw_Codes_Next a0 a1)), (FnOk Try.prog 55 (ax_draw_Codes_Next a0 a1) (rx_draw_Codes_Next y1) (px_draw_Codes_Next y1)), True, True] (by kernel_rfl) ⟨(eqs (eqp (eqr _) (eqp (eqr _) eqp0)) (eqs (eqr _) eqs0)), (ok_draw_Codes_Next K a0 a1 y1 c2), trivial, trivial, trivial⟩ ?_
  refine tri_ret ?_
  rw [some_inv h]
  exact ⟨[], by kernel_rfl, trivial⟩
end Go.Proofs.Ytmkhmonbfikbpaa
namespace Go.Proofs.Ytmkhmonbfikbpaa
open Go Go.RowKit Go.Ev Go.Proofs
set_option linter.unusedVariables false

set_option maxRecDepth 100000
theorem ok_draw_Codes_Road (K : Nat) (a0 : T_Codes) (a1 : Int) (a2 : Int) (r : (T_Road × T_Codes)) (h : draw_Codes_Road K a0 a1 a2 = some r) : FnOk Try.prog 23 (ax_draw_Codes_Road a0 a1 a2) (rx_draw_Codes_Road r) (px_draw_Codes_Road r) := by
  refine ⟨⟨Try.f23, Try.func23, by kernel_rfl, by kernel_rfl⟩, ?_⟩
  unfold draw_Codes_Road at h
  refine fn_ok env Try.func23 rfl ⟨42, [(0, .c (.pvar (0, 0) 0)), (1, .c (.v (.int .i64 a1))), (2, .c (.v (.int .i64 a2)))], [((0, 0), (e_Codes a0))], []⟩ [(0, 0)] (by kernel_rfl) fun X => ?_
  refine tri_reg env [] 1 1024 [.keep [0, 1, 2, 6] [(0, 0), (1000, 0)] []] ⟨42, [(0, .c (.pvar (0, 0) 0)), (1, .c (.v (.int .i64 a1))), (2, .c (.v (.int .i64 a2))), (6, .c (.pvar (1000, 0) 0))], [((0, 0), (e_Codes a0)), ((1000, 0), [.v (.int .i64 0), .v (.int .i64 0), .v (.int .i64 0), .v (.int .i64 0), .v (.bool false), .v (.bool false), .v (.int .i64 0), .v (.int .i64 0), .v (.int .i64 0), .v (.int .i64 0)])], []⟩ [] (by kernel_rfl) trivial ?_
  obtain ⟨y1, c2, h⟩ := bnd_inv h
  obtain ⟨y3, c4, h⟩ := bnd_inv h
  obtain ⟨y5, c6, h⟩ := bnd_inv h
  obtain ⟨y7, c8, h⟩ := bnd_inv h
  refine tri_reg env [(3, .call ⟨(ax_draw_Codes_Range a0 1 400), [false, false, false], rx_draw_Codes_Range y1, px_draw_Codes_Range y1, true⟩), (5, .call ⟨(ax_draw_Codes_Range y1.2 4 30), [false, false, false], rx_draw_Codes_Range y3, px_draw_Codes_Range y3, true⟩), (7, .call ⟨(ax_draw_Codes_Next y3.2 4), [false, false], rx_draw_Codes_Next y5, px_draw_Codes_Next y5, true⟩), (10, .call ⟨(ax_draw_Codes_Range y5.2 1 20), [false, false, false], rx_draw_Codes_Range y7, px_draw_Codes_Range y7, true⟩)] 2 1024 [.keep [0, 6, 7] [(0, 0), (1000, 0), (2013, 0)] []] ⟨42, [(0, .c (.pvar (0, 0) 0)), (6, .c (.pvar (1000, 0) 0)), (7, .c (.pvar (2013, 0) 0))], [((0, 0), (e_Codes y7.2)), ((1000, 0), [.v (.int .i64 0), .v (.int .i64 0), .v (.int .i64 0), .v (.int .i64 0), .v (.bool false), .v (.bool false), .v (.int .i64 0), .v (.int .i64 0), .v (.int .i64 0), .v (.int .i64 0)]), ((2013, 0), [.v (.int .i64 a1), .v (.int .i64 a2), .v (.int .i64 y1.1), .v (.int .i64 y3.1), .v (.bool (decide (y5.1 > 0))), .v (.bool false), .v (.int .i64 y7.1), .v (.int .i64 0), .v (.int .i64 0), .v (.int .i64 0)])], []⟩ [(EqXs (ax_draw_Codes_Range a0 1 400) (ax_draw_Codes_Range a0 1 400)), (FnOk Try.prog 56 (ax_draw_Codes_Range a0 1 400) (rx_draw_Codes_Range y1) (px_draw_Codes_Range y1)), (EqXs (ax_draw_Codes_Range y1.2 4 30) (ax_draw_Codes_Range y1.2 4 30)), (FnOk Try.prog 56 (ax_draw_Codes_Range y1.2 4 30) (rx_draw_Codes_Range y3) (px_draw_Codes_Range y3)), (EqXs (ax_draw_Codes_Next y3.2 4) (ax_draw_Codes_Next y3.2 4)), (FnOk Try.prog 55 (ax_draw_Codes_Next y3.2 4) (rx_draw_Codes_Next y5) (px_draw_Codes_Next y5)), True, (EqXs (ax_draw_Codes_Range y5.2 1 20) (ax_draw_Codes_Range y5.2 1 20)), (FnOk Try.prog 56 (ax_draw_Codes_Range y5.2 1 20) (rx_draw_Codes_Range y7) (px_draw_Codes_Range y7))] (by kernel_rfl) ⟨(eqs (eqp (eqr _) (eqp (eqr _) eqp0)) (eqs (eqr _) (eqs (eqr _) eqs0))), (ok_draw_Codes_Range K a0 1 400 y1 c2), (eqs (eqp (eqr _) (eqp (eqr _) eqp0)) (eqs (eqr _) (eqs (eqr _) eqs0))), (ok_draw_Codes_Range K y1.2 4 30 y3 c4), (eqs (eqp (eqr _) (eqp (eqr _) eqp0)) (eqs (eqr _) eqs0)), (ok_draw_Codes_Next K y3.2 4 y5 c6), trivial, (eqs (eqp (eqr _) (eqp (eqr _) eqp0)) (eqs (eqr _) (eqs (eqr _) eqs0))), (ok_draw_Codes_Range K y5.2 1 20 y7 c8), trivial⟩ ?_
  obtain ⟨y9, c10, h⟩ := bnd_inv h
  refine tri_reg env [(4, .call ⟨(ax_draw_Codes_Next y7.2 3), [false, false], rx_draw_Codes_Next y9, px_draw_Codes_Next y9, true⟩)] 3 1024 [.keep [0, 6, 7] [(0, 0), (1000, 0), (2013, 0)] []] ⟨42, [(0, .c (.pvar (0, 0) 0)), (6, .c (.pvar (1000, 0) 0)), (7, .c (.pvar (2013, 0) 0))], [((0, 0), (e_Codes y9.2)), ((1000, 0), [.v (.int .i64 0), .v (.int .i64 0), .v (.int .i64 0), .v (.int .i64 0), .v (.bool false), .v (.bool false), .v (.int .i64 0), .v (.int .i64 0), .v (.int .i64 0), .v (.int .i64 0)]), ((2013, 0), [.v (.int .i64 a1), .v (.int .i64 a2), .v (.int .i64 y1.1), .v (.int .i64 y3.1), .v (.bool (decide (y5.1 > 0))), .v (.bool false), .v (.int .i64 y7.1), .v (.int .i64 (IntKind.wrap .i64 (y7.1 + y9.1))), .v (.int .i64 0), .v (.int .i64 0)])], []⟩ [(EqXs (ax_draw_Codes_Next y7.2 3) (ax_draw_Codes_Next y7.2 3)), (FnOk Try.prog 55 (ax_draw_Codes_Next y7.2 3) (rx_draw_Codes_Next y9) (px_draw_Codes_Next y9)), True] (by kernel_rfl) ⟨(eqs (eqp (eqr _) (eqp (eqr _) eqp0)) (eqs (eqr _) eqs0)), (ok_draw_Codes_Next K y7.2 3 y9 c10), trivial, trivial⟩ ?_
  obtain ⟨y11, c12, h⟩ := bnd_inv h
  refine tri_reg env [(1, .call ⟨(ax_draw_Codes_Range y9.2 (-300) 300), [false, false, false], rx_draw_Codes_Range y11, px_draw_Codes_Range y11, true⟩)] 4 1024 [.keep [0, 6, 7] [(0, 0), (1000, 0), (2013, 0)] []] ⟨42, [(0, .c (.pvar (0, 0) 0)), (6, .c (.pvar (1000, 0) 0)), (7, .c (.pvar (2013, 0) 0))], [((0, 0), (e_Codes y11.2)), ((1000, 0), [.v (.int .i64 0), .v (.int .i64 0), .v (.int .i64 0), .v (.int .i64 0), .v (.bool false), .v (.bool false), .v (.int .i64 0), .v (.int .i64 0), .v (.int .i64 0), .v (.int .i64 0)]), ((2013, 0), [.v (.int .i64 a1), .v (.int .i64 a2), .v (.int .i64 y1.1), .v (.int .i64 y3.1), .v (.bool (decide (y5.1 > 0))), .v (.bool false), .v (.int .i64 y7.1), .v (.int .i64 (IntKind.wrap .i64 (y7.1 + y9.1))), .v (.int .i64 y11.1), .v (.int .i64 0)])], []⟩ [(EqXs (ax_draw_Codes_Range y9.2 (-300) 300) (ax_draw_Codes_Range y9.2 (-300) 300)), (FnOk Try.prog 56 (ax_draw_Codes_Range y9.2 (-300) 300) (rx_draw_Codes_Range y11) (px_draw_Codes_Range y11))] (by kernel_rfl) ⟨(eqs (eqp (eqr _) (eqp (eqr _) eqp0)) (eqs (eqr _) (eqs (eqr _) eqs0))), (ok_draw_Codes_Range K y9.2 (-300) 300 y11 c12), trivial⟩ ?_
  obtain ⟨y13, c14, h⟩ := bnd_inv h
  refine tri_reg env [(4, .call ⟨(ax_draw_Codes_Next y11.2 20), [false, false], rx_draw_Codes_Next y13, px_draw_Codes_Next y13, true⟩)] 5 1024 [.keep [6, 7] [(0, 0), (1000, 0), (2013, 0)] []] ⟨42, [(6, .c (.pvar (1000, 0) 0)), (7, .c (.pvar (2013, 0) 0))], [((0, 0), (e_Codes y13.2)), ((1000, 0), [.v (.int .i64 0), .v (.int .i64 0), .v (.int .i64 0), .v (.int .i64 0), .v (.bool false), .v (.bool false), .v (.int .i64 0), .v (.int .i64 0), .v (.int .i64 0), .v (.int .i64 0)]), ((2013, 0), [.v (.int .i64 a1), .v (.int .i64 a2), .v (.int .i64 y1.1), .v (.int .i64 y3.1), .v (.bool (decide (y5.1 > 0))), .v (.bool false), .v (.int .i64 y7.1), .v (.int .i64 (IntKind.wrap .i64 (y7.1 + y9.1))), .v (.int .i64 y11.1), .v (.int .i64 (IntKind.wrap .i64 (y11.1 + y13.1)))])], []⟩ [(EqXs (ax_draw_Codes_Next y11.2 20) (ax_draw_Codes_Next y11.2 20)), (FnOk Try.prog 55 (ax_draw_Codes_Next y11.2 20) (rx_draw_Codes_Next y13) (px_draw_Codes_Next y13)), True] (by kernel_rfl) ⟨(eqs (eqp (eqr _) (eqp (eqr _) eqp0)) (eqs (eqr _) eqs0)), (ok_draw_Codes_Next K y11.2 20 y13 c14), trivial, trivial⟩ ?_
  refine tri_reg env [] 6 1024 [.keep [6] [(0, 0), (1000, 0)] []] ⟨42, [(6, .c (.pvar (1000, 0) 0))], [((0, 0), (e_Codes y13.2)), ((1000, 0), [.v (.int .i64 a1), .v (.int .i64 a2), .v (.int .i64 y1.1), .v (.int .i64 y3.1), .v (.bool (decide (y5.1 > 0))), .v (.bool false), .v (.int .i64 y7.1), .v (.int .i64 (IntKind.wrap .i64 (y7.1 + y9.1))), .v (.int .i64 y11.1), .v (.int .i64 (IntKind.wrap .i64 (y11.1 + y13.1)))])], []⟩ [] (by kernel_rfl) trivial ?_
  refine tri_ret ?_
  rw [some_inv h]
  exact ⟨[], by kernel_rfl, trivial⟩
end Go.Proofs.Ytmkhmonbfikbpaa
namespace Go.Proofs.Ytmkhmonbfikbpaa
open Go Go.RowKit Go.Ev Go.Proofs
set_option linter.unusedVariables false

set_option maxRecDepth 100000
theorem ok_draw_Codes_Mine (K : Nat) (a0 : T_Codes) (r : (T_Mine × T_Codes)) (h : draw_Codes_Mine K a0 = some r) : FnOk Try.prog 17 (ax_draw_Codes_Mine a0) (rx_draw_Codes_Mine r) (px_draw_Codes_Mine r) := by
  refine ⟨⟨Try.f17, Try.func17, by kernel_rfl, by kernel_rfl⟩, ?_⟩
  unfold draw_Codes_Mine at h
  refine fn_ok env Try.func17 rfl ⟨63, [(0, .c (.pvar (0, 0) 0))], [((0, 0), (e_Codes a0))], []⟩ [(0, 0)] (by kernel_rfl) fun X => ?_
  refine tri_reg env [] 1 1024 [.keep [0, 2] [(0, 0), (1000, 0)] []] ⟨63, [(0, .c (.pvar (0, 0) 0)), (2, .c (.pvar (1000, 0) 0))], [((0, 0), (e_Codes a0)), ((1000, 0), [.nil 2, .nil 10])], []⟩ [] (by kernel_rfl) trivial ?_
  refine tri_reg env [] 2 1024 [.arr (2001, 0) (([(⟨0, true⟩ : T_Place)] : List T_Place).length) (encF e_Place d_Place ([(⟨0, true⟩ : T_Place)] : List T_Place)), .var (2003, 0) [.ref (2001, 0) (([(⟨0, true⟩ : T_Place)] : List T_Place).length), .nil 10], .keep [0, 2, 3] [(0, 0), (1000, 0), (2003, 0)] [(2001, 0)]] ⟨63, [(0, .c (.pvar (0, 0) 0)), (2, .c (.pvar (1000, 0) 0)), (3, .c (.pvar (2003, 0) 0))], [((0, 0), (e_Codes a0)), ((1000, 0), [.nil 2, .nil 10]), ((2003, 0), [.ref (2001, 0) (([(⟨0, true⟩ : T_Place)] : List T_Place).length), .nil 10])], [((2001, 0), some ⟨false, 2, (([(⟨0, true⟩ : T_Place)] : List T_Place).length), encF e_Place d_Place ([(⟨0, true⟩ : T_Place)] : List T_Place)⟩)]⟩ [(1 = ([(⟨0, true⟩ : T_Place)] : List T_Place).length ∧ ∀ i, i < ([(⟨0, true⟩ : T_Place)] : List T_Place).length → (fun i => window [.v (.int .i64 0), .v (.bool true)] (i * 2) 2) i = (encF e_Place d_Place ([(⟨0, true⟩ : T_Place)] : List T_Place)) i), (TellCs [.ref (2001, 0) 1, .nil 10] [.ref (2001, 0) (([(⟨0, true⟩ : T_Place)] : List T_Place).length), .nil 10])] (by kernel_rfl) ⟨(Tells.arr (Tells.items (e := e_Place) (d := d_Place) (k := 1) (g := (fun i => window [.v (.int .i64 0), .v (.bool true)] (i * 2) 2)) (L := ([(⟨0, true⟩ : T_Place)] : List T_Place)) rfl (belowS rfl below0))), ⟨(TellC.ref (Tells.len (e := e_Place) (d := d_Place) (n := 1) (g := (fun i => window [.v (.int .i64 0), .v (.bool true)] (i * 2) 2)) (L := ([(⟨0, true⟩ : T_Place)] : List T_Place)) (Tells.items (e := e_Place) (d := d_Place) (k := 1) (g := (fun i => window [.v (.int .i64 0), .v (.bool true)] (i * 2) 2)) (L := ([(⟨0, true⟩ : T_Place)] : List T_Place)) rfl (belowS rfl below0)))), ⟨(TellC.refl _), trivial⟩⟩, trivial⟩ ?_
  refine tri_joinC (fun (v2 : ((List Int) × Int × (List T_Place))) => ⟨63, [(0, .c (.pvar (0, 0) 0)), (2, .c (.pvar (1000, 0) 0)), (3, .c (.pvar (2003, 0) 0))], [((0, 0), [.lst 1 v2.1.length (encF (eI .u8) 0 v2.1), .v (.int .i64 v2.2.1)]), ((1000, 0), [.nil 2, .nil 10]), ((2003, 0), [.ref (700002, 0) v2.2.2.length, .nil 10])], [((700002, 0), some ⟨false, 2, v2.2.2.length, encF e_Place d_Place v2.2.2⟩)]⟩) h (fun v2 h => ?_) (fun j2 h => ?_)
  · refine tri_reg env [] 7 1024 [.keep [0, 2, 3, 5] [(0, 0), (1000, 0), (2003, 0)] [(700002, 0)]] ⟨63, [(0, .c (.pvar (0, 0) 0)), (2, .c (.pvar (1000, 0) 0)), (3, .c (.pvar (2003, 0) 0)), (5, .c (.v (.int .i64 ((v2.2.2.length : Nat) : Int))))], [((0, 0), [.lst 1 v2.1.length (encF (eI .u8) 0 v2.1), .v (.int .i64 v2.2.1)]), ((1000, 0), [.nil 2, .nil 10]), ((2003, 0), [.ref (700002, 0) v2.2.2.length, .nil 10])], [((700002, 0), some ⟨false, 2, v2.2.2.length, encF e_Place d_Place v2.2.2⟩)]⟩ [] (by kernel_rfl) trivial ?_
    refine tri_joinC (fun (v4 : ((List Int) × Int × (List T_Road))) => ⟨63, [(2, .c (.pvar (1000, 0) 0)), (3, .c (.pvar (2003, 0) 0))], [((0, 0), [.lst 1 v4.1.length (encF (eI .u8) 0 v4.1), .v (.int .i64 v4.2.1)]), ((1000, 0), [.nil 2, .nil 10]), ((2003, 0), [.ref (700004, 0) v2.2.2.length, .ref (700004, 1) v4.2.2.length])], [((700004, 0), some ⟨false, 2, v2.2.2.length, encF e_Place d_Place v2.2.2⟩), ((700004, 1), some ⟨false, 10, v4.2.2.length, encF e_Road d_Road v4.2.2⟩)]⟩) h (fun v4 h => ?_) (fun j4 h => ?_)
    · refine tri_reg env [] 15 1024 [.keep [2] [(0, 0), (1000, 0)] [(700004, 0), (700004, 1)]] ⟨63, [(2, .c (.pvar (1000, 0) 0))], [((0, 0), [.lst 1 v4.1.length (encF (eI .u8) 0 v4.1), .v (.int .i64 v4.2.1)]), ((1000, 0), [.ref (700004, 0) v2.2.2.length, .ref (700004, 1) v4.2.2.length])], [((700004, 0), some ⟨false, 2, v2.2.2.length, encF e_Place d_Place v2.2.2⟩), ((700004, 1), some ⟨false, 10, v4.2.2.length, encF e_Road d_Road v4.2.2⟩)]⟩ [] (by kernel_rfl) trivial ?_
      refine tri_ret ?_
      rw [some_inv h]
      exact ⟨[(v2.2.2.length = v2.2.2.length), (v4.2.2.length = v4.2.2.length)], by kernel_rfl, ⟨rfl, rfl, trivial⟩⟩
    · obtain ⟨y1, c2, h⟩ := bnd_inv h
      refine tri_reg env [(1, .call ⟨(ax_draw_Codes_Next (⟨v2.1, v2.2.1⟩ : T_Codes) 9), [false, false], rx_draw_Codes_Next y1, px_draw_Codes_Next y1, true⟩)] 8 1024 [.keep [0, 2, 3, 5, 6] [(0, 0), (1000, 0), (2003, 0)] [(700002, 0)]] ⟨63, [(0, .c (.pvar (0, 0) 0)), (2, .c (.pvar (1000, 0) 0)), (3, .c (.pvar (2003, 0) 0)), (5, .c (.v (.int .i64 ((v2.2.2.length : Nat) : Int)))), (6, .c (.v (.int .i64 y1.1)))], [((0, 0), (e_Codes y1.2)), ((1000, 0), [.nil 2, .nil 10]), ((2003, 0), [.ref (700002, 0) v2.2.2.length, .nil 10])], [((700002, 0), some ⟨false, 2, v2.2.2.length, encF e_Place d_Place v2.2.2⟩)]⟩ [(EqXs (ax_draw_Codes_Next (⟨v2.1, v2.2.1⟩ : T_Codes) 9) (ax_draw_Codes_Next (⟨v2.1, v2.2.1⟩ : T_Codes) 9)), (FnOk Try.prog 55 (ax_draw_Codes_Next (⟨v2.1, v2.2.1⟩ : T_Codes) 9) (rx_draw_Codes_Next y1) (px_draw_Codes_Next y1))] (by kernel_rfl) ⟨(eqs (eqp (eqr _) (eqp (eqr _) eqp0)) (eqs (eqr _) eqs0)), (ok_draw_Codes_Next K (⟨v2.1, v2.2.1⟩ : T_Codes) 9 y1 c2), trivial⟩ ?_
      refine tri_block ?_
      refine tri_tell [.keep [0, 2, 3, 5, 6] [(0, 0), (1000, 0), (2003, 0)] [(700002, 0)], .ren (700002, 0) (700003, 0), .nilV (2003, 0) 1 (700003, 1) 10, .arr (700003, 1) (([] : List T_Road).length) (encF e_Road d_Road ([] : List T_Road)), .var (2003, 0) [.ref (700003, 0) v2.2.2.length, .ref (700003, 1) (([] : List T_Road).length)], .keep [0, 2, 3, 5, 6] [(0, 0), (1000, 0), (2003, 0)] [(700003, 0), (700003, 1)]] ⟨63, [(0, .c (.pvar (0, 0) 0)), (2, .c (.pvar (1000, 0) 0)), (3, .c (.pvar (2003, 0) 0)), (5, .c (.v (.int .i64 ((v2.2.2.length : Nat) : Int)))), (6, .c (.v (.int .i64 y1.1)))], [((0, 0), (e_Codes y1.2)), ((1000, 0), [.nil 2, .nil 10]), ((2003, 0), [.ref (700003, 0) v2.2.2.length, .ref (700003, 1) (([] : List T_Road).length)])], [((700003, 0), some ⟨false, 2, v2.2.2.length, encF e_Place d_Place v2.2.2⟩), ((700003, 1), some ⟨false, 10, (([] : List T_Road).length), encF e_Road d_Road ([] : List T_Road)⟩)]⟩ [(0 = ([] : List T_Road).length ∧ ∀ i, i < ([] : List T_Road).length → (fun _ => []) i = (encF e_Road d_Road ([] : List T_Road)) i), (TellCs [.ref (700003, 0) v2.2.2.length, .ref (700003, 1) 0] [.ref (700003, 0) v2.2.2.length, .ref (700003, 1) (([] : List T_Road).length)])] (by kernel_rfl) ⟨(Tells.arr (Tells.nil (e := e_Road) (d := d_Road) (g := fun _ => []))), ⟨(TellC.refl _), ⟨(TellC.ref (Tells.len (e := e_Road) (d := d_Road) (n := 0) (g := (fun _ => [])) (L := ([] : List T_Road)) (Tells.nil (e := e_Road) (d := d_Road) (g := fun _ => [])))), trivial⟩⟩, trivial⟩ ?_
      refine tri_loopK (fun (v3 : (Int × (List Int) × Int × (List T_Road))) => ⟨63, [(0, .c (.pvar (0, 0) 0)), (2, .c (.pvar (1000, 0) 0)), (3, .c (.pvar (2003, 0) 0)), (5, .c (.v (.int .i64 ((v2.2.2.length : Nat) : Int)))), (6, .c (.v (.int .i64 v3.1)))], [((0, 0), [.lst 1 v3.2.1.length (encF (eI .u8) 0 v3.2.1), .v (.int .i64 v3.2.2.1)]), ((1000, 0), [.nil 2, .nil 10]), ((2003, 0), [.ref (700003, 0) v2.2.2.length, .ref (700003, 1) v3.2.2.2.length])], [((700003, 0), some ⟨false, 2, v2.2.2.length, encF e_Place d_Place v2.2.2⟩), ((700003, 1), some ⟨false, 10, v3.2.2.2.length, encF e_Road d_Road v3.2.2.2⟩)]⟩) (v := (y1.1, y1.2.l_, y1.2.at_, ([] : List T_Road))) h (fun self3 v3 h => ?_) (by kernel_rfl)
      unfold draw_Codes_Mine_b3 at h
      refine tri_seq ?_
      refine tri_reg env [] 9 1024 [.keep [0, 2, 3, 5, 6, 35] [(0, 0), (1000, 0), (2003, 0)] [(700003, 0), (700003, 1)]] ⟨63, [(0, .c (.pvar (0, 0) 0)), (2, .c (.pvar (1000, 0) 0)), (3, .c (.pvar (2003, 0) 0)), (5, .c (.v (.int .i64 ((v2.2.2.length : Nat) : Int)))), (6, .c (.v (.int .i64 v3.1))), (35, .c (.v (.bool (decide (v3.1 > 0)))))], [((0, 0), [.lst 1 v3.2.1.length (encF (eI .u8) 0 v3.2.1), .v (.int .i64 v3.2.2.1)]), ((1000, 0), [.nil 2, .nil 10]), ((2003, 0), [.ref (700003, 0) v2.2.2.length, .ref (700003, 1) v3.2.2.2.length])], [((700003, 0), some ⟨false, 2, v2.2.2.length, encF e_Place d_Place v2.2.2⟩), ((700003, 1), some ⟨false, 10, v3.2.2.2.length, encF e_Road d_Road v3.2.2.2⟩)]⟩ [True] (by kernel_rfl) ⟨trivial, trivial⟩ ?_
      refine tri_cond (decide (v3.1 > 0)) (by kernel_rfl) (fun e3 => ?_) (fun e3 => ?_)
      · replace h := cnd_t h e3
        refine tri_skip ?_
        refine thenN ?_
        refine tri_seq ?_
        refine tri_block ?_
        obtain ⟨y4, c5, h⟩ := bnd_inv h
        refine tri_reg env [(2, .call ⟨(ax_draw_Codes_Next (⟨v3.2.1, v3.2.2.1⟩ : T_Codes) ((v2.2.2.length : Nat) : Int)), [false, false], rx_draw_Codes_Next y4, px_draw_Codes_Next y4, true⟩)] 11 1024 [.keep [0, 2, 3, 5, 6, 7] [(0, 0), (1000, 0), (2003, 0)] [(700003, 0), (700003, 1)]] ⟨63, [(0, .c (.pvar (0, 0) 0)), (2, .c (.pvar (1000, 0) 0)), (3, .c (.pvar (2003, 0) 0)), (5, .c (.v (.int .i64 ((v2.2.2.length : Nat) : Int)))), (6, .c (.v (.int .i64 v3.1))), (7, .c (.v (.int .i64 y4.1)))], [((0, 0), (e_Codes y4.2)), ((1000, 0), [.nil 2, .nil 10]), ((2003, 0), [.ref (700003, 0) v2.2.2.length, .ref (700003, 1) v3.2.2.2.length])], [((700003, 0), some ⟨false, 2, v2.2.2.length, encF e_Place d_Place v2.2.2⟩), ((700003, 1), some ⟨false, 10, v3.2.2.2.length, encF e_Road d_Road v3.2.2.2⟩)]⟩ [(EqXs (ax_draw_Codes_Next (⟨v3.2.1, v3.2.2.1⟩ : T_Codes) ((v2.2.2.length : Nat) : Int)) (ax_draw_Codes_Next (⟨v3.2.1, v3.2.2.1⟩ : T_Codes) ((v2.2.2.length : Nat) : Int))), (FnOk Try.prog 55 (ax_draw_Codes_Next (⟨v3.2.1, v3.2.2.1⟩ : T_Codes) ((v2.2.2.length : Nat) : Int)) (rx_draw_Codes_Next y4) (px_draw_Codes_Next y4))] (by kernel_rfl) ⟨(eqs (eqp (eqr _) (eqp (eqr _) eqp0)) (eqs (eqr _) eqs0)), (ok_draw_Codes_Next K (⟨v3.2.1, v3.2.2.1⟩ : T_Codes) ((v2.2.2.length : Nat) : Int) y4 c5), trivial⟩ ?_
        obtain ⟨y6, c7, h⟩ := bnd_inv h
        obtain ⟨q8, h⟩ := ck_inv h
        obtain ⟨y9, c10, h⟩ := bnd_inv h
        refine tri_reg env [(7, .call ⟨(ax_draw_Codes_Next y4.2 (IntKind.wrap .i64 (((v2.2.2.length : Nat) : Int) - 1))), [false, false], rx_draw_Codes_Next y6, px_draw_Codes_Next y6, true⟩), (11, .call ⟨(ax_draw_Codes_Road y6.2 y4.1 (Int.tmod (IntKind.wrap .i64 ((IntKind.wrap .i64 (y4.1 + 1)) + y6.1)) ((v2.2.2.length : Nat) : Int))), [false, false, false], rx_draw_Codes_Road y9, px_draw_Codes_Road y9, true⟩)] 12 1024 [.keep [0, 2, 3, 5, 6, 8] [(0, 0), (1000, 0), (2003, 0), (12012, 0)] [(700003, 0), (700003, 1)]] ⟨63, [(0, .c (.pvar (0, 0) 0)), (2, .c (.pvar (1000, 0) 0)), (3, .c (.pvar (2003, 0) 0)), (5, .c (.v (.int .i64 ((v2.2.2.length : Nat) : Int)))), (6, .c (.v (.int .i64 v3.1))), (8, .c (.pvar (12012, 0) 0))], [((0, 0), (e_Codes y9.2)), ((1000, 0), [.nil 2, .nil 10]), ((2003, 0), [.ref (700003, 0) v2.2.2.length, .ref (700003, 1) v3.2.2.2.length]), ((12012, 0), (e_Road y9.1))], [((700003, 0), some ⟨false, 2, v2.2.2.length, encF e_Place d_Place v2.2.2⟩), ((700003, 1), some ⟨false, 10, v3.2.2.2.length, encF e_Road d_Road v3.2.2.2⟩)]⟩ [True, True, (EqXs (ax_draw_Codes_Next y4.2 (IntKind.wrap .i64 (((v2.2.2.length : Nat) : Int) - 1))) (ax_draw_Codes_Next y4.2 (IntKind.wrap .i64 (((v2.2.2.length : Nat) : Int) - 1)))), (FnOk Try.prog 55 (ax_draw_Codes_Next y4.2 (IntKind.wrap .i64 (((v2.2.2.length : Nat) : Int) - 1))) (rx_draw_Codes_Next y6) (px_draw_Codes_Next y6)), True, (((v2.2.2.length : Nat) : Int) ≠ 0), (EqXs (ax_draw_Codes_Road y6.2 y4.1 (Int.tmod (IntKind.wrap .i64 ((IntKind.wrap .i64 (y4.1 + 1)) + y6.1)) ((v2.2.2.length : Nat) : Int))) (ax_draw_Codes_Road y6.2 y4.1 (Int.tmod (IntKind.wrap .i64 ((IntKind.wrap .i64 (y4.1 + 1)) + y6.1)) ((v2.2.2.length : Nat) : Int)))), (FnOk Try.prog 23 (ax_draw_Codes_Road y6.2 y4.1 (Int.tmod (IntKind.wrap .i64 ((IntKind.wrap .i64 (y4.1 + 1)) + y6.1)) ((v2.2.2.length : Nat) : Int))) (rx_draw_Codes_Road y9) (px_draw_Codes_Road y9))] (by kernel_rfl) ⟨trivial, trivial, (eqs (eqp (eqr _) (eqp (eqr _) eqp0)) (eqs (eqr _) eqs0)), (ok_draw_Codes_Next K y4.2 (IntKind.wrap .i64 (((v2.2.2.length : Nat) : Int) - 1)) y6 c7), trivial, q8, (eqs (eqp (eqr _) (eqp (eqr _) eqp0)) (eqs (eqr _) (eqs (eqr _) eqs0))), (ok_draw_Codes_Road K y6.2 y4.1 (Int.tmod (IntKind.wrap .i64 ((IntKind.wrap .i64 (y4.1 + 1)) + y6.1)) ((v2.2.2.length : Nat) : Int)) y9 c10), trivial⟩ ?_
        obtain ⟨y11, c12, h⟩ := bnd_inv h
        refine tri_reg env [(1, .call ⟨(ax_draw_Codes_One y9.2 6), [false, false], rx_draw_Codes_One y11, px_draw_Codes_One y11, true⟩)] 13 1024 [.keep [0, 2, 3, 5, 6, 8] [(0, 0), (1000, 0), (2003, 0), (12012, 0)] [(700003, 0), (700003, 1)]] ⟨63, [(0, .c (.pvar (0, 0) 0)), (2, .c (.pvar (1000, 0) 0)), (3, .c (.pvar (2003, 0) 0)), (5, .c (.v (.int .i64 ((v2.2.2.length : Nat) : Int)))), (6, .c (.v (.int .i64 v3.1))), (8, .c (.pvar (12012, 0) 0))], [((0, 0), (e_Codes y11.2)), ((1000, 0), [.nil 2, .nil 10]), ((2003, 0), [.ref (700003, 0) v2.2.2.length, .ref (700003, 1) v3.2.2.2.length]), ((12012, 0), (e_Road { y9.1 with Closed := y11.1 }))], [((700003, 0), some ⟨false, 2, v2.2.2.length, encF e_Place d_Place v2.2.2⟩), ((700003, 1), some ⟨false, 10, v3.2.2.2.length, encF e_Road d_Road v3.2.2.2⟩)]⟩ [(EqXs (ax_draw_Codes_One y9.2 6) (ax_draw_Codes_One y9.2 6)), (FnOk Try.prog 57 (ax_draw_Codes_One y9.2 6) (rx_draw_Codes_One y11) (px_draw_Codes_One y11))] (by kernel_rfl) ⟨(eqs (eqp (eqr _) (eqp (eqr _) eqp0)) (eqs (eqr _) eqs0)), (ok_draw_Codes_One K y9.2 6 y11 c12), trivial⟩ ?_
        obtain ⟨q13, h⟩ := ck_inv h
        refine tri_reg_end env [] 14 1024 [.arr (14004, 0) ((v3.2.2.2 ++ ([{ y9.1 with Closed := y11.1 }] : List T_Road)).length) (encF e_Road d_Road (v3.2.2.2 ++ ([{ y9.1 with Closed := y11.1 }] : List T_Road))), .var (2003, 0) [.ref (700003, 0) v2.2.2.length, .ref (14004, 0) ((v3.2.2.2 ++ ([{ y9.1 with Closed := y11.1 }] : List T_Road)).length)], .keep [0, 2, 3, 5, 6] [(0, 0), (1000, 0), (2003, 0)] [(14004, 0), (700003, 0)]] ⟨63, [(0, .c (.pvar (0, 0) 0)), (2, .c (.pvar (1000, 0) 0)), (3, .c (.pvar (2003, 0) 0)), (5, .c (.v (.int .i64 ((v2.2.2.length : Nat) : Int)))), (6, .c (.v (.int .i64 v3.1)))], [((0, 0), (e_Codes y11.2)), ((1000, 0), [.nil 2, .nil 10]), ((2003, 0), [.ref (700003, 0) v2.2.2.length, .ref (14004, 0) ((v3.2.2.2 ++ ([{ y9.1 with Closed := y11.1 }] : List T_Road)).length)])], [((14004, 0), some ⟨false, 10, ((v3.2.2.2 ++ ([{ y9.1 with Closed := y11.1 }] : List T_Road)).length), encF e_Road d_Road (v3.2.2.2 ++ ([{ y9.1 with Closed := y11.1 }] : List T_Road))⟩), ((700003, 0), some ⟨false, 2, v2.2.2.length, encF e_Place d_Place v2.2.2⟩)]⟩ [(1 = 0 ∨ 10 = 10), ((v3.2.2.2.length + 1) * 72 ≤ LIMIT), ((v3.2.2.2.length + 1) = (v3.2.2.2 ++ ([{ y9.1 with Closed := y11.1 }] : List T_Road)).length ∧ ∀ i, i < (v3.2.2.2 ++ ([{ y9.1 with Closed := y11.1 }] : List T_Road)).length → (appG v3.2.2.2.length (encF e_Road d_Road v3.2.2.2) (fun i => window [.v (.int .i64 y9.1.From), .v (.int .i64 y9.1.To), .v (.int .i64 y9.1.Length), .v (.int .i64 y9.1.Area), .v (.bool y9.1.Walk), .v (.bool y11.1), .v (.int .i64 y9.1.Rest_Low), .v (.int .i64 y9.1.Rest_High), .v (.int .i64 y9.1.Lift_Low), .v (.int .i64 y9.1.Lift_High)] (i * 10) 10)) i = (encF e_Road d_Road (v3.2.2.2 ++ ([{ y9.1 with Closed := y11.1 }] : List T_Road))) i), (TellCs [.ref (700003, 0) v2.2.2.length, .ref (14004, 0) (v3.2.2.2.length + 1)] [.ref (700003, 0) v2.2.2.length, .ref (14004, 0) ((v3.2.2.2 ++ ([{ y9.1 with Closed := y11.1 }] : List T_Road)).length)])] (by kernel_rfl) ⟨(.inr rfl), q13, (Tells.arr (Tells.app (Tells.rfl' (e := e_Road) (d := d_Road) (L := v3.2.2.2)) (Tells.items (e := e_Road) (d := d_Road) (k := 1) (g := (fun i => window [.v (.int .i64 y9.1.From), .v (.int .i64 y9.1.To), .v (.int .i64 y9.1.Length), .v (.int .i64 y9.1.Area), .v (.bool y9.1.Walk), .v (.bool y11.1), .v (.int .i64 y9.1.Rest_Low), .v (.int .i64 y9.1.Rest_High), .v (.int .i64 y9.1.Lift_Low), .v (.int .i64 y9.1.Lift_High)] (i * 10) 10)) (L := ([{ y9.1 with Closed := y11.1 }] : List T_Road)) rfl (belowS rfl below0)))), ⟨(TellC.refl _), ⟨(TellC.ref (Tells.len (e := e_Road) (d := d_Road) (n := (v3.2.2.2.length + 1)) (g := (appG v3.2.2.2.length (encF e_Road d_Road v3.2.2.2) (fun i => window [.v (.int .i64 y9.1.From), .v (.int .i64 y9.1.To), .v (.int .i64 y9.1.Length), .v (.int .i64 y9.1.Area), .v (.bool y9.1.Walk), .v (.bool y11.1), .v (.int .i64 y9.1.Rest_Low), .v (.int .i64 y9.1.Rest_High), .v (.int .i64 y9.1.Lift_Low), .v (.int .i64 y9.1.Lift_High)] (i * 10) 10))) (L := (v3.2.2.2 ++ ([{ y9.1 with Closed := y11.1 }] : List T_Road))) (Tells.app (Tells.rfl' (e := e_Road) (d := d_Road) (L := v3.2.2.2)) (Tells.items (e := e_Road) (d := d_Road) (k := 1) (g := (fun i => window [.v (.int .i64 y9.1.From), .v (.int .i64 y9.1.To), .v (.int .i64 y9.1.Length), .v (.int .i64 y9.1.Area), .v (.bool y9.1.Walk), .v (.bool y11.1), .v (.int .i64 y9.1.Rest_Low), .v (.int .i64 y9.1.Rest_High), .v (.int .i64 y9.1.Lift_Low), .v (.int .i64 y9.1.Lift_High)] (i * 10) 10)) (L := ([{ y9.1 with Closed := y11.1 }] : List T_Road)) rfl (belowS rfl below0))))), trivial⟩⟩, trivial⟩ ?_
        refine inBN ?_
        refine thenN ?_
        refine tri_reg_end env [] 10 1024 [.keep [0, 2, 3, 5, 6] [(0, 0), (1000, 0), (2003, 0)] [(14004, 0), (700003, 0)], .keep [0, 2, 3, 5, 6] [(0, 0), (1000, 0), (2003, 0)] [(700003, 0), (14004, 0)], .ren (14004, 0) (700003, 1)] ⟨63, [(0, .c (.pvar (0, 0) 0)), (2, .c (.pvar (1000, 0) 0)), (3, .c (.pvar (2003, 0) 0)), (5, .c (.v (.int .i64 ((v2.2.2.length : Nat) : Int)))), (6, .c (.v (.int .i64 (IntKind.wrap .i64 (v3.1 - 1)))))], [((0, 0), (e_Codes y11.2)), ((1000, 0), [.nil 2, .nil 10]), ((2003, 0), [.ref (700003, 0) v2.2.2.length, .ref (700003, 1) ((v3.2.2.2 ++ ([{ y9.1 with Closed := y11.1 }] : List T_Road)).length)])], [((700003, 0), some ⟨false, 2, v2.2.2.length, encF e_Place d_Place v2.2.2⟩), ((700003, 1), some ⟨false, 10, ((v3.2.2.2 ++ ([{ y9.1 with Closed := y11.1 }] : List T_Road)).length), encF e_Road d_Road (v3.2.2.2 ++ ([{ y9.1 with Closed := y11.1 }] : List T_Road))⟩)]⟩ [True] (by kernel_rfl) ⟨trivial, trivial⟩ ?_
        exact thenJ ((IntKind.wrap .i64 (v3.1 - 1)), y11.2.l_, y11.2.at_, (v3.2.2.2 ++ ([{ y9.1 with Closed := y11.1 }] : List T_Road))) h (by kernel_rfl)
      · replace h := cnd_f h e3
        refine tri_tell [.keep [2, 3] [(0, 0), (1000, 0), (2003, 0)] [(700003, 0), (700003, 1)], .ren (700003, 0) (700004, 0), .ren (700003, 1) (700004, 1)] ⟨63, [(2, .c (.pvar (1000, 0) 0)), (3, .c (.pvar (2003, 0) 0))], [((0, 0), [.lst 1 v3.2.1.length (encF (eI .u8) 0 v3.2.1), .v (.int .i64 v3.2.2.1)]), ((1000, 0), [.nil 2, .nil 10]), ((2003, 0), [.ref (700004, 0) v2.2.2.length, .ref (700004, 1) v3.2.2.2.length])], [((700004, 0), some ⟨false, 2, v2.2.2.length, encF e_Place d_Place v2.2.2⟩), ((700004, 1), some ⟨false, 10, v3.2.2.2.length, encF e_Road d_Road v3.2.2.2⟩)]⟩ [] (by kernel_rfl) trivial ?_
        refine tri_exit ?_
        refine thenE ?_
        refine thenE ?_
        refine inBX ?_
        exact thenJ (v3.2.1, v3.2.2.1, v3.2.2.2) h (by kernel_rfl)
  · obtain ⟨y14, c15, h⟩ := bnd_inv h
    refine tri_reg env [(1, .call ⟨(ax_draw_Codes_Next a0 6), [false, false], rx_draw_Codes_Next y14, px_draw_Codes_Next y14, true⟩)] 3 1024 [.keep [0, 2, 3, 4] [(0, 0), (1000, 0), (2003, 0)] [(2001, 0)]] ⟨63, [(0, .c (.pvar (0, 0) 0)), (2, .c (.pvar (1000, 0) 0)), (3, .c (.pvar (2003, 0) 0)), (4, .c (.v (.int .i64 (IntKind.wrap .i64 (1 + y14.1)))))], [((0, 0), (e_Codes y14.2)), ((1000, 0), [.nil 2, .nil 10]), ((2003, 0), [.ref (2001, 0) (([(⟨0, true⟩ : T_Place)] : List T_Place).length), .nil 10])], [((2001, 0), some ⟨false, 2, (([(⟨0, true⟩ : T_Place)] : List T_Place).length), encF e_Place d_Place ([(⟨0, true⟩ : T_Place)] : List T_Place)⟩)]⟩ [(EqXs (ax_draw_Codes_Next a0 6) (ax_draw_Codes_Next a0 6)), (FnOk Try.prog 55 (ax_draw_Codes_Next a0 6) (rx_draw_Codes_Next y14) (px_draw_Codes_Next y14)), True] (by kernel_rfl) ⟨(eqs (eqp (eqr _) (eqp (eqr _) eqp0)) (eqs (eqr _) eqs0)), (ok_draw_Codes_Next K a0 6 y14 c15), trivial, trivial⟩ ?_
    refine tri_block ?_
    refine tri_tell [.keep [0, 2, 3, 4] [(0, 0), (1000, 0), (2003, 0)] [(2001, 0)], .ren (2001, 0) (700001, 0)] ⟨63, [(0, .c (.pvar (0, 0) 0)), (2, .c (.pvar (1000, 0) 0)), (3, .c (.pvar (2003, 0) 0)), (4, .c (.v (.int .i64 (IntKind.wrap .i64 (1 + y14.1)))))], [((0, 0), (e_Codes y14.2)), ((1000, 0), [.nil 2, .nil 10]), ((2003, 0), [.ref (700001, 0) (([(⟨0, true⟩ : T_Place)] : List T_Place).length), .nil 10])], [((700001, 0), some ⟨false, 2, (([(⟨0, true⟩ : T_Place)] : List T_Place).length), encF e_Place d_Place ([(⟨0, true⟩ : T_Place)] : List T_Place)⟩)]⟩ [] (by kernel_rfl) trivial ?_
    refine tri_loopK (fun (v1 : (Int × (List Int) × Int × (List T_Place))) => ⟨63, [(0, .c (.pvar (0, 0) 0)), (2, .c (.pvar (1000, 0) 0)), (3, .c (.pvar (2003, 0) 0)), (4, .c (.v (.int .i64 v1.1)))], [((0, 0), [.lst 1 v1.2.1.length (encF (eI .u8) 0 v1.2.1), .v (.int .i64 v1.2.2.1)]), ((1000, 0), [.nil 2, .nil 10]), ((2003, 0), [.ref (700001, 0) v1.2.2.2.length, .nil 10])], [((700001, 0), some ⟨false, 2, v1.2.2.2.length, encF e_Place d_Place v1.2.2.2⟩)]⟩) (v := ((IntKind.wrap .i64 (1 + y14.1)), y14.2.l_, y14.2.at_, ([(⟨0, true⟩ : T_Place)] : List T_Place))) h (fun self1 v1 h => ?_) (by kernel_rfl)
    unfold draw_Codes_Mine_b1 at h
    refine tri_seq ?_
    refine tri_reg env [] 4 1024 [.keep [0, 2, 3, 4, 16] [(0, 0), (1000, 0), (2003, 0)] [(700001, 0)]] ⟨63, [(0, .c (.pvar (0, 0) 0)), (2, .c (.pvar (1000, 0) 0)), (3, .c (.pvar (2003, 0) 0)), (4, .c (.v (.int .i64 v1.1))), (16, .c (.v (.bool (decide (v1.1 > 0)))))], [((0, 0), [.lst 1 v1.2.1.length (encF (eI .u8) 0 v1.2.1), .v (.int .i64 v1.2.2.1)]), ((1000, 0), [.nil 2, .nil 10]), ((2003, 0), [.ref (700001, 0) v1.2.2.2.length, .nil 10])], [((700001, 0), some ⟨false, 2, v1.2.2.2.length, encF e_Place d_Place v1.2.2.2⟩)]⟩ [True] (by kernel_rfl) ⟨trivial, trivial⟩ ?_
    refine tri_cond (decide (v1.1 > 0)) (by kernel_rfl) (fun e16 => ?_) (fun e16 => ?_)
    · replace h := cnd_t h e16
      refine tri_skip ?_
      refine thenN ?_
      refine tri_seq ?_
      refine tri_block ?_
      obtain ⟨y17, c18, h⟩ := bnd_inv h
      obtain ⟨y19, c20, h⟩ := bnd_inv h
      obtain ⟨q21, h⟩ := ck_inv h
      refine tri_reg_end env [(3, .call ⟨(ax_draw_Codes_Range (⟨v1.2.1, v1.2.2.1⟩ : T_Codes) (-60) 60), [false, false, false], rx_draw_Codes_Range y17, px_draw_Codes_Range y17, true⟩), (5, .call ⟨(ax_draw_Codes_One y17.2 5), [false, false], rx_draw_Codes_One y19, px_draw_Codes_One y19, true⟩)] 6 1024 [.arr (6008, 0) ((v1.2.2.2 ++ ([(⟨y17.1, y19.1⟩ : T_Place)] : List T_Place)).length) (encF e_Place d_Place (v1.2.2.2 ++ ([(⟨y17.1, y19.1⟩ : T_Place)] : List T_Place))), .var (2003, 0) [.ref (6008, 0) ((v1.2.2.2 ++ ([(⟨y17.1, y19.1⟩ : T_Place)] : List T_Place)).length), .nil 10], .keep [0, 2, 3, 4] [(0, 0), (1000, 0), (2003, 0)] [(6008, 0)]] ⟨63, [(0, .c (.pvar (0, 0) 0)), (2, .c (.pvar (1000, 0) 0)), (3, .c (.pvar (2003, 0) 0)), (4, .c (.v (.int .i64 v1.1)))], [((0, 0), (e_Codes y19.2)), ((1000, 0), [.nil 2, .nil 10]), ((2003, 0), [.ref (6008, 0) ((v1.2.2.2 ++ ([(⟨y17.1, y19.1⟩ : T_Place)] : List T_Place)).length), .nil 10])], [((6008, 0), some ⟨false, 2, ((v1.2.2.2 ++ ([(⟨y17.1, y19.1⟩ : T_Place)] : List T_Place)).length), encF e_Place d_Place (v1.2.2.2 ++ ([(⟨y17.1, y19.1⟩ : T_Place)] : List T_Place))⟩)]⟩ [(EqXs (ax_draw_Codes_Range (⟨v1.2.1, v1.2.2.1⟩ : T_Codes) (-60) 60) (ax_draw_Codes_Range (⟨v1.2.1, v1.2.2.1⟩ : T_Codes) (-60) 60)), (FnOk Try.prog 56 (ax_draw_Codes_Range (⟨v1.2.1, v1.2.2.1⟩ : T_Codes) (-60) 60) (rx_draw_Codes_Range y17) (px_draw_Codes_Range y17)), (EqXs (ax_draw_Codes_One y17.2 5) (ax_draw_Codes_One y17.2 5)), (FnOk Try.prog 57 (ax_draw_Codes_One y17.2 5) (rx_draw_Codes_One y19) (px_draw_Codes_One y19)), (1 = 0 ∨ 2 = 2), ((v1.2.2.2.length + 1) * 16 ≤ LIMIT), ((v1.2.2.2.length + 1) = (v1.2.2.2 ++ ([(⟨y17.1, y19.1⟩ : T_Place)] : List T_Place)).length ∧ ∀ i, i < (v1.2.2.2 ++ ([(⟨y17.1, y19.1⟩ : T_Place)] : List T_Place)).length → (appG v1.2.2.2.length (encF e_Place d_Place v1.2.2.2) (fun i => window [.v (.int .i64 y17.1), .v (.bool y19.1)] (i * 2) 2)) i = (encF e_Place d_Place (v1.2.2.2 ++ ([(⟨y17.1, y19.1⟩ : T_Place)] : List T_Place))) i), (TellCs [.ref (6008, 0) (v1.2.2.2.length + 1), .nil 10] [.ref (6008, 0) ((v1.2.2.2 ++ ([(⟨y17.1, y19.1⟩ : T_Place)] : List T_Place)).length), .nil 10])] (by kernel_rfl) ⟨(eqs (eqp (eqr _) (eqp (eqr _) eqp0)) (eqs (eqr _) (eqs (eqr _) eqs0))), (ok_draw_Codes_Range K (⟨v1.2.1, v1.2.2.1⟩ : T_Codes) (-60) 60 y17 c18), (eqs (eqp (eqr _) (eqp (eqr _) eqp0)) (eqs (eqr _) eqs0)), (ok_draw_Codes_One K y17.2 5 y19 c20), (.inr rfl), q21, (Tells.arr (Tells.app (Tells.rfl' (e := e_Place) (d := d_Place) (L := v1.2.2.2)) (Tells.items (e := e_Place) (d := d_Place) (k := 1) (g := (fun i => window [.v (.int .i64 y17.1), .v (.bool y19.1)] (i * 2) 2)) (L := ([(⟨y17.1, y19.1⟩ : T_Place)] : List T_Place)) rfl (belowS rfl below0)))), ⟨(TellC.ref (Tells.len (e := e_Place) (d := d_Place) (n := (v1.2.2.2.length + 1)) (g := (appG v1.2.2.2.length (encF e_Place d_Place v1.2.2.2) (fun i => window [.v (.int .i64 y17.1), .v (.bool y19.1)] (i * 2) 2))) (L := (v1.2.2.2 ++ ([(⟨y17.1, y19.1⟩ : T_Place)] : List T_Place))) (Tells.app (Tells.rfl' (e := e_Place) (d := d_Place) (L := v1.2.2.2)) (Tells.items (e := e_Place) (d := d_Place) (k := 1) (g := (fun i => window [.v (.int .i64 y17.1), .v (.bool y19.1)] (i * 2) 2)) (L := ([(⟨y17.1, y19.1⟩ : T_Place)] : List T_Place)) rfl (belowS rfl below0))))), ⟨(TellC.refl _), trivial⟩⟩, trivial⟩ ?_
      refine inBN ?_
      refine thenN ?_
      refine tri_reg_end env [] 5 1024 [.keep [0, 2, 3, 4] [(0, 0), (1000, 0), (2003, 0)] [(6008, 0)], .keep [0, 2, 3, 4] [(0, 0), (1000, 0), (2003, 0)] [(6008, 0)], .ren (6008, 0) (700001, 0)] ⟨63, [(0, .c (.pvar (0, 0) 0)), (2, .c (.pvar (1000, 0) 0)), (3, .c (.pvar (2003, 0) 0)), (4, .c (.v (.int .i64 (IntKind.wrap .i64 (v1.1 - 1)))))], [((0, 0), (e_Codes y19.2)), ((1000, 0), [.nil 2, .nil 10]), ((2003, 0), [.ref (700001, 0) ((v1.2.2.2 ++ ([(⟨y17.1, y19.1⟩ : T_Place)] : List T_Place)).length), .nil 10])], [((700001, 0), some ⟨false, 2, ((v1.2.2.2 ++ ([(⟨y17.1, y19.1⟩ : T_Place)] : List T_Place)).length), encF e_Place d_Place (v1.2.2.2 ++ ([(⟨y17.1, y19.1⟩ : T_Place)] : List T_Place))⟩)]⟩ [True] (by kernel_rfl) ⟨trivial, trivial⟩ ?_
      exact thenJ ((IntKind.wrap .i64 (v1.1 - 1)), y19.2.l_, y19.2.at_, (v1.2.2.2 ++ ([(⟨y17.1, y19.1⟩ : T_Place)] : List T_Place))) h (by kernel_rfl)
    · replace h := cnd_f h e16
      refine tri_tell [.keep [0, 2, 3] [(0, 0), (1000, 0), (2003, 0)] [(700001, 0)], .ren (700001, 0) (700002, 0)] ⟨63, [(0, .c (.pvar (0, 0) 0)), (2, .c (.pvar (1000, 0) 0)), (3, .c (.pvar (2003, 0) 0))], [((0, 0), [.lst 1 v1.2.1.length (encF (eI .u8) 0 v1.2.1), .v (.int .i64 v1.2.2.1)]), ((1000, 0), [.nil 2, .nil 10]), ((2003, 0), [.ref (700002, 0) v1.2.2.2.length, .nil 10])], [((700002, 0), some ⟨false, 2, v1.2.2.2.length, encF e_Place d_Place v1.2.2.2⟩)]⟩ [] (by kernel_rfl) trivial ?_
      refine tri_exit ?_
      refine thenE ?_
      refine thenE ?_
      refine inBX ?_
      exact thenJ (v1.2.1, v1.2.2.1, v1.2.2.2) h (by kernel_rfl)
end Go.Proofs.Ytmkhmonbfikbpaa
namespace Go.Proofs.Ytmkhmonbfikbpaa
open Go Go.RowKit Go.Ev Go.Proofs
set_option linter.unusedVariables false

set_option maxRecDepth 100000
theorem ok_draw_Mod (K : Nat) (a0 : Int) (a1 : Int) (r : Int) (h : draw_Mod K a0 a1 = some r) : FnOk Try.prog 24 (ax_draw_Mod a0 a1) (rx_draw_Mod r) (px_draw_Mod r) := by
  refine ⟨⟨Try.f24, Try.func24, by kernel_rfl, by kernel_rfl⟩, ?_⟩
  unfold draw_Mod at h
  refine fn_ok env Try.func24 rfl ⟨16, [(0, .c (.v (.int .i64 a0))), (1, .c (.v (.int .i64 a1)))], [], []⟩ [] (by kernel_rfl) fun X => ?_
  refine tri_reg env [] 1 1024 [.keep [0, 1] [] []] ⟨16, [(0, .c (.v (.int .i64 a0))), (1, .c (.v (.int .i64 a1)))], [], []⟩ [] (by kernel_rfl) trivial ?_
  refine tri_seq ?_
  refine tri_reg env [] 2 1024 [.keep [0, 1, 6] [] []] ⟨16, [(0, .c (.v (.int .i64 a0))), (1, .c (.v (.int .i64 a1))), (6, .c (.v (.bool (decide (a1 < 1)))))], [], []⟩ [True] (by kernel_rfl) ⟨trivial, trivial⟩ ?_
  refine tri_cond (decide (a1 < 1)) (by kernel_rfl) (fun e1 => ?_) (fun e1 => ?_)
  · replace h := cnd_t h e1
    refine tri_reg env [] 3 1024 [.keep [4] [] []] ⟨16, [(4, .c (.v (.int .i64 0)))], [], []⟩ [] (by kernel_rfl) trivial ?_
    refine tri_ret ?_
    refine thenR ?_
    rw [some_inv h]
    exact ⟨[], by kernel_rfl, trivial⟩
  · replace h := cnd_f h e1
    refine tri_skip ?_
    refine thenN ?_
    obtain ⟨q2, h⟩ := ck_inv h
    refine tri_reg env [] 4 1024 [.keep [0, 1] [] []] ⟨16, [(0, .c (.v (.int .i64 (Int.tmod a0 a1)))), (1, .c (.v (.int .i64 a1)))], [], []⟩ [(a1 ≠ 0)] (by kernel_rfl) ⟨q2, trivial⟩ ?_
    refine tri_joinC (fun (v1 : Int) => ⟨16, [(0, .c (.v (.int .i64 v1)))], [], []⟩) h (fun v1 h => ?_) (fun j1 h => ?_)
    · refine tri_reg env [] 7 1024 [.keep [4] [] []] ⟨16, [(4, .c (.v (.int .i64 v1)))], [], []⟩ [] (by kernel_rfl) trivial ?_
      refine tri_ret ?_
      rw [some_inv h]
      exact ⟨[], by kernel_rfl, trivial⟩
    · refine tri_reg env [] 5 1024 [.keep [0, 1, 11] [] []] ⟨16, [(0, .c (.v (.int .i64 (Int.tmod a0 a1)))), (1, .c (.v (.int .i64 a1))), (11, .c (.v (.bool (decide ((Int.tmod a0 a1) < 0)))))], [], []⟩ [True] (by kernel_rfl) ⟨trivial, trivial⟩ ?_
      refine tri_cond (decide ((Int.tmod a0 a1) < 0)) (by kernel_rfl) (fun e3 => ?_) (fun e3 => ?_)
      · replace h := cnd_t h e3
        refine tri_reg_end env [] 6 1024 [.keep [0] [] []] ⟨16, [(0, .c (.v (.int .i64 (IntKind.wrap .i64 ((Int.tmod a0 a1) + a1)))))], [], []⟩ [True] (by kernel_rfl) ⟨trivial, trivial⟩ ?_
        exact thenJ (IntKind.wrap .i64 ((Int.tmod a0 a1) + a1)) h (by kernel_rfl)
      · replace h := cnd_f h e3
        refine tri_tell [.keep [0] [] []] ⟨16, [(0, .c (.v (.int .i64 (Int.tmod a0 a1))))], [], []⟩ [] (by kernel_rfl) trivial ?_
        refine tri_skip ?_
        exact thenJ (Int.tmod a0 a1) h (by kernel_rfl)
end Go.Proofs.Ytmkhmonbfikbpaa
namespace Go.Proofs.Ytmkhmonbfikbpaa
open Go Go.RowKit Go.Ev Go.Proofs
set_option linter.unusedVariables false

set_option maxRecDepth 100000
theorem ok_plan_spanIn (K : Nat) (a0 : T_Span) (a1 : Int) (a2 : Int) (r : Bool) (h : plan_spanIn K a0 a1 a2 = some r) : FnOk Try.prog 58 (ax_plan_spanIn a0 a1 a2) (rx_plan_spanIn r) (px_plan_spanIn r) := by
  refine ⟨⟨Try.f58, Try.func58, by kernel_rfl, by kernel_rfl⟩, ?_⟩
  unfold plan_spanIn at h
  refine fn_ok env Try.func58 rfl ⟨24, [(0, .agg (e_Span a0)), (1, .c (.v (.int .i64 a1))), (2, .c (.v (.int .i64 a2)))], [], []⟩ [] (by kernel_rfl) fun X => ?_
  refine tri_reg env [] 1 1024 [.keep [1, 2, 3] [(1000, 0)] []] ⟨24, [(1, .c (.v (.int .i64 a1))), (2, .c (.v (.int .i64 a2))), (3, .c (.pvar (1000, 0) 0))], [((1000, 0), (e_Span a0))], []⟩ [] (by kernel_rfl) trivial ?_
  refine cnd_split h (fun e1 h => ?_) (fun e1 h => ?_)
  · refine cnd_split h (fun e2 h => ?_) (fun e2 h => ?_)
    · refine tri_reg env [(4, .b true), (10, .b true), (11, .b true), (16, .b true)] 2 1024 [.keep [6] [] []] ⟨24, [(6, .c (.v (.bool (decide (a0.High ≤ a2)))))], [], []⟩ [True, ((decide (a1 ≤ a0.Low)) = true), ((decide (a1 ≤ a0.Low)) = true), ((decide (a1 ≤ a0.Low)) = true), ((decide (a1 ≤ a0.Low)) = true), ((decide (a1 ≤ a0.Low)) = true), True, ((decide (a1 ≤ a0.Low)) = true), ((decide (a0.Low ≤ a0.High)) = true), ((decide (a0.Low ≤ a0.High)) = true), ((decide (a0.Low ≤ a0.High)) = true), ((decide (a0.Low ≤ a0.High)) = true), True, ((decide (a0.Low ≤ a0.High)) = true)] (by kernel_rfl) ⟨trivial, e1, e1, e1, e1, e1, trivial, e1, e2, e2, e2, e2, trivial, e2, trivial⟩ ?_
      refine tri_ret ?_
      rw [some_inv h]
      exact ⟨[], by kernel_rfl, trivial⟩
    · refine tri_reg env [(4, .b true), (10, .b true), (11, .b false), (16, .b false)] 2 1024 [.keep [6] [] []] ⟨24, [(6, .c (.v (.bool false)))], [], []⟩ [True, ((decide (a1 ≤ a0.Low)) = true), ((decide (a1 ≤ a0.Low)) = true), ((decide (a1 ≤ a0.Low)) = true), ((decide (a1 ≤ a0.Low)) = true), ((decide (a1 ≤ a0.Low)) = true), True, ((decide (a1 ≤ a0.Low)) = true), ((decide (a0.Low ≤ a0.High)) = false), ((decide (a0.Low ≤ a0.High)) = false), ((decide (a0.Low ≤ a0.High)) = false), ((decide (a0.Low ≤ a0.High)) = false), ((decide (a0.Low ≤ a0.High)) = false)] (by kernel_rfl) ⟨trivial, e1, e1, e1, e1, e1, trivial, e1, e2, e2, e2, e2, e2, trivial⟩ ?_
      refine tri_ret ?_
      rw [some_inv h]
      exact ⟨[], by kernel_rfl, trivial⟩
  · refine tri_reg env [(4, .b false), (10, .b false), (11, .b false), (16, .b false)] 2 1024 [.keep [6] [] []] ⟨24, [(6, .c (.v (.bool false)))], [], []⟩ [True, ((decide (a1 ≤ a0.Low)) = false), ((decide (a1 ≤ a0.Low)) = false), ((decide (a1 ≤ a0.Low)) = false), ((decide (a1 ≤ a0.Low)) = false), ((decide (a1 ≤ a0.Low)) = false), ((decide (a1 ≤ a0.Low)) = false), (false = false), (false = false), (false = false), (false = false), (false = false)] (by kernel_rfl) ⟨trivial, e1, e1, e1, e1, e1, e1, rfl, rfl, rfl, rfl, rfl, trivial⟩ ?_
    refine tri_ret ?_
    rw [some_inv h]
    exact ⟨[], by kernel_rfl, trivial⟩
end Go.Proofs.Ytmkhmonbfikbpaa
namespace Go.Proofs.Ytmkhmonbfikbpaa
open Go Go.RowKit Go.Ev Go.Proofs
set_option linter.unusedVariables false

set_option maxRecDepth 100000
theorem ok_plan_Check (K : Nat) (a0 : T_Mine) (r : Int) (h : plan_Check K a0 = some r) : FnOk Try.prog 18 (ax_plan_Check a0) (rx_plan_Check r) (px_plan_Check r) := by
  refine ⟨⟨Try.f18, Try.func18, by kernel_rfl, by kernel_rfl⟩, ?_⟩
  unfold plan_Check at h
  refine fn_ok env Try.func18 rfl ⟨100, [(0, .agg (e_Mine a0))], [], []⟩ [] (by kernel_rfl) fun X => ?_
  refine tri_reg env [] 1 1024 [.keep [1] [(1000, 0)] []] ⟨100, [(1, .c (.pvar (1000, 0) 0))], [((1000, 0), (e_Mine a0))], []⟩ [] (by kernel_rfl) trivial ?_
  refine tri_seq ?_
  refine cnd_split h (fun e1 h => ?_) (fun e1 h => ?_)
  · refine tri_reg env [(4, .b true), (9, .b true)] 2 1024 [.keep [1, 17] [(1000, 0)] []] ⟨100, [(1, .c (.pvar (1000, 0) 0)), (17, .c (.v (.bool true)))], [((1000, 0), (e_Mine a0))], []⟩ [True, ((decide (((a0.Places.length : Nat) : Int) > 64)) = true), ((decide (((a0.Places.length : Nat) : Int) > 64)) = true), ((decide (((a0.Places.length : Nat) : Int) > 64)) = true), ((decide (((a0.Places.length : Nat) : Int) > 64)) = true), ((decide (((a0.Places.length : Nat) : Int) > 64)) = true)] (by kernel_rfl) ⟨trivial, e1, e1, e1, e1, e1, trivial⟩ ?_
    refine tri_cond true (by kernel_rfl) (fun _ => ?_) (fun e => by cases e)
    refine tri_reg env [] 3 1024 [.keep [2] [] []] ⟨100, [(2, .c (.v (.int .i64 2)))], [], []⟩ [] (by kernel_rfl) trivial ?_
    refine tri_ret ?_
    refine thenR ?_
    rw [some_inv h]
    exact ⟨[], by kernel_rfl, trivial⟩
  · refine tri_reg env [(4, .b false), (9, .b false)] 2 1024 [.keep [1, 17] [(1000, 0)] []] ⟨100, [(1, .c (.pvar (1000, 0) 0)), (17, .c (.v (.bool (decide (((a0.Roads.length : Nat) : Int) > 128)))))], [((1000, 0), (e_Mine a0))], []⟩ [True, ((decide (((a0.Places.length : Nat) : Int) > 64)) = false), ((decide (((a0.Places.length : Nat) : Int) > 64)) = false), ((decide (((a0.Places.length : Nat) : Int) > 64)) = false), ((decide (((a0.Places.length : Nat) : Int) > 64)) = false), True, ((decide (((a0.Places.length : Nat) : Int) > 64)) = false)] (by kernel_rfl) ⟨trivial, e1, e1, e1, e1, trivial, e1, trivial⟩ ?_
    refine tri_cond (decide (((a0.Roads.length : Nat) : Int) > 128)) (by kernel_rfl) (fun e3 => ?_) (fun e3 => ?_)
    · replace h := cnd_t h e3
      refine tri_reg env [] 3 1024 [.keep [2] [] []] ⟨100, [(2, .c (.v (.int .i64 2)))], [], []⟩ [] (by kernel_rfl) trivial ?_
      refine tri_ret ?_
      refine thenR ?_
      rw [some_inv h]
      exact ⟨[], by kernel_rfl, trivial⟩
    · replace h := cnd_f h e3
      refine tri_skip ?_
      refine thenN ?_
      refine tri_joinC (fun (v2 : Unit) => ⟨100, [(1, .c (.pvar (1000, 0) 0))], [((1000, 0), (e_Mine a0))], []⟩) h (fun v2 h => ?_) (fun j2 h => ?_)
      · refine tri_reg env [] 10 1024 [.keep [1, 5] [(1000, 0)] []] ⟨100, [(1, .c (.pvar (1000, 0) 0)), (5, .c (.v (.int .i64 ((a0.Places.length : Nat) : Int))))], [((1000, 0), (e_Mine a0))], []⟩ [] (by kernel_rfl) trivial ?_
        refine tri_joinC (fun (v4 : Unit) => ⟨100, [], [], []⟩) h (fun v4 h => ?_) (fun j4 h => ?_)
        · refine tri_reg env [] 21 1024 [.keep [2] [] []] ⟨100, [(2, .c (.v (.int .i64 0)))], [], []⟩ [] (by kernel_rfl) trivial ?_
          refine tri_ret ?_
          rw [some_inv h]
          exact ⟨[], by kernel_rfl, trivial⟩
        · refine tri_reg env [] 11 1024 [.keep [5, 38, 39, 40] [] []] ⟨100, [(5, .c (.v (.int .i64 ((a0.Places.length : Nat) : Int)))), (38, .c (.lst 10 a0.Roads.length (encF e_Road d_Road a0.Roads))), (39, .c (.v (.int .i64 ((a0.Roads.length : Nat) : Int)))), (40, .c (.v (.int .i64 0)))], [], []⟩ [] (by kernel_rfl) trivial ?_
          refine tri_block ?_
          refine tri_loopK (fun (v3 : Int) => ⟨100, [(5, .c (.v (.int .i64 ((a0.Places.length : Nat) : Int)))), (38, .c (.lst 10 a0.Roads.length (encF e_Road d_Road a0.Roads))), (39, .c (.v (.int .i64 ((a0.Roads.length : Nat) : Int)))), (40, .c (.v (.int .i64 v3)))], [], []⟩) (v := 0) h (fun self3 v3 h => ?_) (by kernel_rfl)
          unfold plan_Check_b3 at h
          refine tri_reg env [] 12 1024 [.keep [5, 38, 39, 40, 41] [] []] ⟨100, [(5, .c (.v (.int .i64 ((a0.Places.length : Nat) : Int)))), (38, .c (.lst 10 a0.Roads.length (encF e_Road d_Road a0.Roads))), (39, .c (.v (.int .i64 ((a0.Roads.length : Nat) : Int)))), (40, .c (.v (.int .i64 v3))), (41, .c (.v (.bool (decide (v3 < ((a0.Roads.length : Nat) : Int))))))], [], []⟩ [True] (by kernel_rfl) ⟨trivial, trivial⟩ ?_
          refine tri_seq ?_
          refine tri_cond (decide (v3 < ((a0.Roads.length : Nat) : Int))) (by kernel_rfl) (fun e4 => ?_) (fun e4 => ?_)
          · replace h := cnd_t h e4
            refine tri_skip ?_
            refine thenN ?_
            refine tri_seq ?_
            refine tri_block ?_
            obtain ⟨q5, h⟩ := ck_inv h
            refine tri_reg env [] 13 1024 [.keep [5, 7, 38, 39, 40] [(13002, 0)] []] ⟨100, [(5, .c (.v (.int .i64 ((a0.Places.length : Nat) : Int)))), (7, .c (.pvar (13002, 0) 0)), (38, .c (.lst 10 a0.Roads.length (encF e_Road d_Road a0.Roads))), (39, .c (.v (.int .i64 ((a0.Roads.length : Nat) : Int)))), (40, .c (.v (.int .i64 v3)))], [((13002, 0), (e_Road (a0.Roads.getD v3.toNat d_Road)))], []⟩ [(0 ≤ v3 ∧ v3 < ((a0.Roads.length : Nat) : Int))] (by kernel_rfl) ⟨q5, trivial⟩ ?_
            refine tri_seq ?_
            refine cnd_split h (fun e6 h => ?_) (fun e6 h => ?_)
            · refine tri_reg env [(3, .b true), (8, .b true), (9, .b true), (13, .b true), (14, .b true), (19, .b true), (20, .b true), (26, .b true)] 14 1024 [.keep [5, 7, 38, 39, 40, 70] [(13002, 0)] []] ⟨100, [(5, .c (.v (.int .i64 ((a0.Places.length : Nat) : Int)))), (7, .c (.pvar (13002, 0) 0)), (38, .c (.lst 10 a0.Roads.length (encF e_Road d_Road a0.Roads))), (39, .c (.v (.int .i64 ((a0.Roads.length : Nat) : Int)))), (40, .c (.v (.int .i64 v3))), (70, .c (.v (.bool true)))], [((13002, 0), (e_Road (a0.Roads.getD v3.toNat d_Road)))], []⟩ [True, ((decide ((a0.Roads.getD v3.toNat d_Road).From < 0)) = true), ((decide ((a0.Roads.getD v3.toNat d_Road).From < 0)) = true), ((decide ((a0.Roads.getD v3.toNat d_Road).From < 0)) = true), ((decide ((a0.Roads.getD v3.toNat d_Road).From < 0)) = true), ((decide ((a0.Roads.getD v3.toNat d_Road).From < 0)) = true), (true = true), (true = true), (true = true), (true = true), (true = true), (true = true), (true = true), (true = true), (true = true), (true = true), (true = true), (true = true), (true = true), (true = true), (true = true)] (by kernel_rfl) ⟨trivial, e6, e6, e6, e6, e6, rfl, rfl, rfl, rfl, rfl, rfl, rfl, rfl, rfl, rfl, rfl, rfl, rfl, rfl, rfl, trivial⟩ ?_
              refine tri_cond true (by kernel_rfl) (fun _ => ?_) (fun e => by cases e)
              refine tri_reg env [] 15 1024 [.keep [2] [] []] ⟨100, [(2, .c (.v (.int .i64 4)))], [], []⟩ [] (by kernel_rfl) trivial ?_
              refine tri_ret ?_
              refine thenR ?_
              refine inBR ?_
              refine thenR ?_
              refine thenR ?_
              refine inBR ?_
              refine thenR ?_
              rw [some_inv h]
              exact ⟨[], by kernel_rfl, trivial⟩
            · refine cnd_split h (fun e8 h => ?_) (fun e8 h => ?_)
              · refine tri_reg env [(3, .b false), (8, .b false), (9, .b true), (13, .b true), (14, .b true), (19, .b true), (20, .b true), (26, .b true)] 14 1024 [.keep [5, 7, 38, 39, 40, 70] [(13002, 0)] []] ⟨100, [(5, .c (.v (.int .i64 ((a0.Places.length : Nat) : Int)))), (7, .c (.pvar (13002, 0) 0)), (38, .c (.lst 10 a0.Roads.length (encF e_Road d_Road a0.Roads))), (39, .c (.v (.int .i64 ((a0.Roads.length : Nat) : Int)))), (40, .c (.v (.int .i64 v3))), (70, .c (.v (.bool true)))], [((13002, 0), (e_Road (a0.Roads.getD v3.toNat d_Road)))], []⟩ [True, ((decide ((a0.Roads.getD v3.toNat d_Road).From < 0)) = false), ((decide ((a0.Roads.getD v3.toNat d_Road).From < 0)) = false), ((decide ((a0.Roads.getD v3.toNat d_Road).From < 0)) = false), ((decide ((a0.Roads.getD v3.toNat d_Road).From < 0)) = false), True, ((decide ((a0.Roads.getD v3.toNat d_Road).From < 0)) = false), ((decide ((a0.Roads.getD v3.toNat d_Road).From ≥ ((a0.Places.length : Nat) : Int))) = true), ((decide ((a0.Roads.getD v3.toNat d_Road).From ≥ ((a0.Places.length : Nat) : Int))) = true), ((decide ((a0.Roads.getD v3.toNat d_Road).From ≥ ((a0.Places.length : Nat) : Int))) = true), ((decide ((a0.Roads.getD v3.toNat d_Road).From ≥ ((a0.Places.length : Nat) : Int))) = true), (true = true), (true = true), (true = true), (true = true), (true = true), (true = true), (true = true), (true = true), (true = true), (true = true), (true = true)] (by kernel_rfl) ⟨trivial, e6, e6, e6, e6, trivial, e6, e8, e8, e8, e8, rfl, rfl, rfl, rfl, rfl, rfl, rfl, rfl, rfl, rfl, rfl, trivial⟩ ?_
                refine tri_cond true (by kernel_rfl) (fun _ => ?_) (fun e => by cases e)
                refine tri_reg env [] 15 1024 [.keep [2] [] []] ⟨100, [(2, .c (.v (.int .i64 4)))], [], []⟩ [] (by kernel_rfl) trivial ?_
                refine tri_ret ?_
                refine thenR ?_
                refine inBR ?_
                refine thenR ?_
                refine thenR ?_
                refine inBR ?_
                refine thenR ?_
                rw [some_inv h]
                exact ⟨[], by kernel_rfl, trivial⟩
              · refine cnd_split h (fun e10 h => ?_) (fun e10 h => ?_)
                · refine tri_reg env [(3, .b false), (8, .b false), (9, .b false), (13, .b false), (14, .b true), (19, .b true), (20, .b true), (26, .b true)] 14 1024 [.keep [5, 7, 38, 39, 40, 70] [(13002, 0)] []] ⟨100, [(5, .c (.v (.int .i64 ((a0.Places.length : Nat) : Int)))), (7, .c (.pvar (13002, 0) 0)), (38, .c (.lst 10 a0.Roads.length (encF e_Road d_Road a0.Roads))), (39, .c (.v (.int .i64 ((a0.Roads.length : Nat) : Int)))), (40, .c (.v (.int .i64 v3))), (70, .c (.v (.bool true)))], [((13002, 0), (e_Road (a0.Roads.getD v3.toNat d_Road)))], []⟩ [True, ((decide ((a0.Roads.getD v3.toNat d_Road).From < 0)) = false), ((decide ((a0.Roads.getD v3.toNat d_Road).From < 0)) = false), ((decide ((a0.Roads.getD v3.toNat d_Road).From < 0)) = false), ((decide ((a0.Roads.getD v3.toNat d_Road).From < 0)) = false), True, ((decide ((a0.Roads.getD v3.toNat d_Road).From < 0)) = false), ((decide ((a0.Roads.getD v3.toNat d_Road).From ≥ ((a0.Places.length : Nat) : Int))) = false), ((decide ((a0.Roads.getD v3.toNat d_Road).From ≥ ((a0.Places.length : Nat) : Int))) = false), ((decide ((a0.Roads.getD v3.toNat d_Road).From ≥ ((a0.Places.length : Nat) : Int))) = false), True, ((decide ((a0.Roads.getD v3.toNat d_Road).From ≥ ((a0.Places.length : Nat) : Int))) = false), ((decide ((a0.Roads.getD v3.toNat d_Road).To < 0)) = true), ((decide ((a0.Roads.getD v3.toNat d_Road).To < 0)) = true), ((decide ((a0.Roads.getD v3.toNat d_Road).To < 0)) = true), ((decide ((a0.Roads.getD v3.toNat d_Road).To < 0)) = true), ((decide ((a0.Roads.getD v3.toNat d_Road).To < 0)) = true), (true = true), (true = true), (true = true), (true = true), (true = true), (true = true)] (by kernel_rfl) ⟨trivial, e6, e6, e6, e6, trivial, e6, e8, e8, e8, trivial, e8, e10, e10, e10, e10, e10, rfl, rfl, rfl, rfl, rfl, rfl, trivial⟩ ?_
                  refine tri_cond true (by kernel_rfl) (fun _ => ?_) (fun e => by cases e)
                  refine tri_reg env [] 15 1024 [.keep [2] [] []] ⟨100, [(2, .c (.v (.int .i64 4)))], [], []⟩ [] (by kernel_rfl) trivial ?_
                  refine tri_ret ?_
                  refine thenR ?_
                  refine inBR ?_
                  refine thenR ?_
                  refine thenR ?_
                  refine inBR ?_
                  refine thenR ?_
                  rw [some_inv h]
                  exact ⟨[], by kernel_rfl, trivial⟩
                · refine cnd_split h (fun e12 h => ?_) (fun e12 h => ?_)
                  · refine tri_reg env [(3, .b false), (8, .b false), (9, .b false), (13, .b false), (14, .b false), (19, .b false), (20, .b true), (26, .b true)] 14 1024 [.keep [5, 7, 38, 39, 40, 70] [(13002, 0)] []] ⟨100, [(5, .c (.v (.int .i64 ((a0.Places.length : Nat) : Int)))), (7, .c (.pvar (13002, 0) 0)), (38, .c (.lst 10 a0.Roads.length (encF e_Road d_Road a0.Roads))), (39, .c (.v (.int .i64 ((a0.Roads.length : Nat) : Int)))), (40, .c (.v (.int .i64 v3))), (70, .c (.v (.bool true)))], [((13002, 0), (e_Road (a0.Roads.getD v3.toNat d_Road)))], []⟩ [True, ((decide ((a0.Roads.getD v3.toNat d_Road).From < 0)) = false), ((decide ((a0.Roads.getD v3.toNat d_Road).From < 0)) = false), ((decide ((a0.Roads.getD v3.toNat d_Road).From < 0)) = false), ((decide ((a0.Roads.getD v3.toNat d_Road).From < 0)) = false), True, ((decide ((a0.Roads.getD v3.toNat d_Road).From < 0)) = false), ((decide ((a0.Roads.getD v3.toNat d_Road).From ≥ ((a0.Places.length : Nat) : Int))) = false), ((decide ((a0.Roads.getD v3.toNat d_Road).From ≥ ((a0.Places.length : Nat) : Int))) = false), ((decide ((a0.Roads.getD v3.toNat d_Road).From ≥ ((a0.Places.length : Nat) : Int))) = false), True, ((decide ((a0.Roads.getD v3.toNat d_Road).From ≥ ((a0.Places.length : Nat) : Int))) = false), ((decide ((a0.Roads.getD v3.toNat d_Road).To < 0)) = false), ((decide ((a0.Roads.getD v3.toNat d_Road).To < 0)) = false), ((decide ((a0.Roads.getD v3.toNat d_Road).To < 0)) = false), ((decide ((a0.Roads.getD v3.toNat d_Road).To < 0)) = false), True, ((decide ((a0.Roads.getD v3.toNat d_Road).To < 0)) = false), ((decide ((a0.Roads.getD v3.toNat d_Road).To ≥ ((a0.Places.length : Nat) : Int))) = true), ((decide ((a0.Roads.getD v3.toNat d_Road).To ≥ ((a0.Places.length : Nat) : Int))) = true), ((decide ((a0.Roads.getD v3.toNat d_Road).To ≥ ((a0.Places.length : Nat) : Int))) = true), ((decide ((a0.Roads.getD v3.toNat d_Road).To ≥ ((a0.Places.length : Nat) : Int))) = true), ((decide ((a0.Roads.getD v3.toNat d_Road).To ≥ ((a0.Places.length : Nat) : Int))) = true), ((decide ((a0.Roads.getD v3.toNat d_Road).To ≥ ((a0.Places.length : Nat) : Int))) = true)] (by kernel_rfl) ⟨trivial, e6, e6, e6, e6, trivial, e6, e8, e8, e8, trivial, e8, e10, e10, e10, e10, trivial, e10, e12, e12, e12, e12, e12, e12, trivial⟩ ?_
                    refine tri_cond true (by kernel_rfl) (fun _ => ?_) (fun e => by cases e)
                    refine tri_reg env [] 15 1024 [.keep [2] [] []] ⟨100, [(2, .c (.v (.int .i64 4)))], [], []⟩ [] (by kernel_rfl) trivial ?_
                    refine tri_ret ?_
                    refine thenR ?_
                    refine inBR ?_
                    refine thenR ?_
                    refine thenR ?_
                    refine inBR ?_
                    refine thenR ?_
                    rw [some_inv h]
                    exact ⟨[], by kernel_rfl, trivial⟩
                  · refine tri_reg env [(3, .b false), (8, .b false), (9, .b false), (13, .b false), (14, .b false), (19, .b false), (20, .b false), (26, .b false)] 14 1024 [.keep [5, 7, 38, 39, 40, 70] [(13002, 0)] []] ⟨100, [(5, .c (.v (.int .i64 ((a0.Places.length : Nat) : Int)))), (7, .c (.pvar (13002, 0) 0)), (38, .c (.lst 10 a0.Roads.length (encF e_Road d_Road a0.Roads))), (39, .c (.v (.int .i64 ((a0.Roads.length : Nat) : Int)))), (40, .c (.v (.int .i64 v3))), (70, .c (.v (.bool ((a0.Roads.getD v3.toNat d_Road).From == (a0.Roads.getD v3.toNat d_Road).To))))], [((13002, 0), (e_Road (a0.Roads.getD v3.toNat d_Road)))], []⟩ [True, ((decide ((a0.Roads.getD v3.toNat d_Road).From < 0)) = false), ((decide ((a0.Roads.getD v3.toNat d_Road).From < 0)) = false), ((decide ((a0.Roads.getD v3.toNat d_Road).From < 0)) = false), ((decide ((a0.Roads.getD v3.toNat d_Road).From < 0)) = false), True, ((decide ((a0.Roads.getD v3.toNat d_Road).From < 0)) = false), ((decide ((a0.Roads.getD v3.toNat d_Road).From ≥ ((a0.Places.length : Nat) : Int))) = false), ((decide ((a0.Roads.getD v3.toNat d_Road).From ≥ ((a0.Places.length : Nat) : Int))) = false), ((decide ((a0.Roads.getD v3.toNat d_Road).From ≥ ((a0.Places.length : Nat) : Int))) = false), True, ((decide ((a0.Roads.getD v3.toNat d_Road).From ≥ ((a0.Places.length : Nat) : Int))) = false), ((decide ((a0.Roads.getD v3.toNat d_Road).To < 0)) = false), ((decide ((a0.Roads.getD v3.toNat d_Road).To < 0)) = false), ((decide ((a0.Roads.getD v3.toNat d_Road).To < 0)) = false), ((decide ((a0.Roads.getD v3.toNat d_Road).To < 0)) = false), True, ((decide ((a0.Roads.getD v3.toNat d_Road).To < 0)) = false), ((decide ((a0.Roads.getD v3.toNat d_Road).To ≥ ((a0.Places.length : Nat) : Int))) = false), ((decide ((a0.Roads.getD v3.toNat d_Road).To ≥ ((a0.Places.length : Nat) : Int))) = false), ((decide ((a0.Roads.getD v3.toNat d_Road).To ≥ ((a0.Places.length : Nat) : Int))) = false), ((decide ((a0.Roads.getD v3.toNat d_Road).To ≥ ((a0.Places.length : Nat) : Int))) = false), ((decide ((a0.Roads.getD v3.toNat d_Road).To ≥ ((a0.Places.length : Nat) : Int))) = false), True, ((decide ((a0.Roads.getD v3.toNat d_Road).To ≥ ((a0.Places.length : Nat) : Int))) = false)] (by kernel_rfl) ⟨trivial, e6, e6, e6, e6, trivial, e6, e8, e8, e8, trivial, e8, e10, e10, e10, e10, trivial, e10, e12, e12, e12, e12, e12, trivial, e12, trivial⟩ ?_
                    refine tri_cond ((a0.Roads.getD v3.toNat d_Road).From == (a0.Roads.getD v3.toNat d_Road).To) (by kernel_rfl) (fun e14 => ?_) (fun e14 => ?_)
                    · replace h := cnd_t h e14
                      refine tri_reg env [] 15 1024 [.keep [2] [] []] ⟨100, [(2, .c (.v (.int .i64 4)))], [], []⟩ [] (by kernel_rfl) trivial ?_
                      refine tri_ret ?_
                      refine thenR ?_
                      refine inBR ?_
                      refine thenR ?_
                      refine thenR ?_
                      refine inBR ?_
                      refine thenR ?_
                      rw [some_inv h]
                      exact ⟨[], by kernel_rfl, trivial⟩
                    · replace h := cnd_f h e14
                      refine tri_skip ?_
                      refine thenN ?_
                      refine tri_seq ?_
                      refine cnd_split h (fun e15 h => ?_) (fun e15 h => ?_)
                      · refine tri_reg env [(3, .b true), (7, .b true), (8, .b true), (12, .b true), (13, .b true), (17, .b true)] 16 1024 [.keep [5, 7, 38, 39, 40, 88] [(13002, 0)] []] ⟨100, [(5, .c (.v (.int .i64 ((a0.Places.length : Nat) : Int)))), (7, .c (.pvar (13002, 0) 0)), (38, .c (.lst 10 a0.Roads.length (encF e_Road d_Road a0.Roads))), (39, .c (.v (.int .i64 ((a0.Roads.length : Nat) : Int)))), (40, .c (.v (.int .i64 v3))), (88, .c (.v (.bool true)))], [((13002, 0), (e_Road (a0.Roads.getD v3.toNat d_Road)))], []⟩ [True, ((decide ((a0.Roads.getD v3.toNat d_Road).Length < 1)) = true), ((decide ((a0.Roads.getD v3.toNat d_Road).Length < 1)) = true), ((decide ((a0.Roads.getD v3.toNat d_Road).Length < 1)) = true), ((decide ((a0.Roads.getD v3.toNat d_Road).Length < 1)) = true), (true = true), (true = true), (true = true), (true = true), (true = true), (true = true), (true = true), (true = true)] (by kernel_rfl) ⟨trivial, e15, e15, e15, e15, rfl, rfl, rfl, rfl, rfl, rfl, rfl, rfl, trivial⟩ ?_
                        refine tri_cond true (by kernel_rfl) (fun _ => ?_) (fun e => by cases e)
                        refine tri_reg env [] 17 1024 [.keep [2] [] []] ⟨100, [(2, .c (.v (.int .i64 1)))], [], []⟩ [] (by kernel_rfl) trivial ?_
                        refine tri_ret ?_
                        refine thenR ?_
                        refine inBR ?_
                        refine thenR ?_
                        refine thenR ?_
                        refine inBR ?_
                        refine thenR ?_
                        rw [some_inv h]
                        exact ⟨[], by kernel_rfl, trivial⟩
                      · refine cnd_split h (fun e17 h => ?_) (fun e17 h => ?_)
                        · refine tri_reg env [(3, .b false), (7, .b false), (8, .b true), (12, .b true), (13, .b true), (17, .b true)] 16 1024 [.keep [5, 7, 38, 39, 40, 88] [(13002, 0)] []] ⟨100, [(5, .c (.v (.int .i64 ((a0.Places.length : Nat) : Int)))), (7, .c (.pvar (13002, 0) 0)), (38, .c (.lst 10 a0.Roads.length (encF e_Road d_Road a0.Roads))), (39, .c (.v (.int .i64 ((a0.Roads.length : Nat) : Int)))), (40, .c (.v (.int .i64 v3))), (88, .c (.v (.bool true)))], [((13002, 0), (e_Road (a0.Roads.getD v3.toNat d_Road)))], []⟩ [True, ((decide ((a0.Roads.getD v3.toNat d_Road).Length < 1)) = false), ((decide ((a0.Roads.getD v3.toNat d_Road).Length < 1)) = false), ((decide ((a0.Roads.getD v3.toNat d_Road).Length < 1)) = false), True, ((decide ((a0.Roads.getD v3.toNat d_Road).Length < 1)) = false), ((decide ((a0.Roads.getD v3.toNat d_Road).Length > 100000)) = true), ((decide ((a0.Roads.getD v3.toNat d_Road).Length > 100000)) = true), ((decide ((a0.Roads.getD v3.toNat d_Road).Length > 100000)) = true), ((decide ((a0.Roads.getD v3.toNat d_Road).Length > 100000)) = true), (true = true), (true = true), (true = true), (true = true)] (by kernel_rfl) ⟨trivial, e15, e15, e15, trivial, e15, e17, e17, e17, e17, rfl, rfl, rfl, rfl, trivial⟩ ?_
                          refine tri_cond true (by kernel_rfl) (fun _ => ?_) (fun e => by cases e)
                          refine tri_reg env [] 17 1024 [.keep [2] [] []] ⟨100, [(2, .c (.v (.int .i64 1)))], [], []⟩ [] (by kernel_rfl) trivial ?_
                          refine tri_ret ?_
                          refine thenR ?_
                          refine inBR ?_
                          refine thenR ?_
                          refine thenR ?_
                          refine inBR ?_
                          refine thenR ?_
                          rw [some_inv h]
                          exact ⟨[], by kernel_rfl, trivial⟩
                        · refine cnd_split h (fun e19 h => ?_) (fun e19 h => ?_)
                          · refine tri_reg env [(3, .b false), (7, .b false), (8, .b false), (12, .b false), (13, .b true), (17, .b true)] 16 1024 [.keep [5, 7, 38, 39, 40, 88] [(13002, 0)] []] ⟨100, [(5, .c (.v (.int .i64 ((a0.Places.length : Nat) : Int)))), (7, .c (.pvar (13002, 0) 0)), (38, .c (.lst 10 a0.Roads.length (encF e_Road d_Road a0.Roads))), (39, .c (.v (.int .i64 ((a0.Roads.length : Nat) : Int)))), (40, .c (.v (.int .i64 v3))), (88, .c (.v (.bool true)))], [((13002, 0), (e_Road (a0.Roads.getD v3.toNat d_Road)))], []⟩ [True, ((decide ((a0.Roads.getD v3.toNat d_Road).Length < 1)) = false), ((decide ((a0.Roads.getD v3.toNat d_Road).Length < 1)) = false), ((decide ((a0.Roads.getD v3.toNat d_Road).Length < 1)) = false), True, ((decide ((a0.Roads.getD v3.toNat d_Road).Length < 1)) = false), ((decide ((a0.Roads.getD v3.toNat d_Road).Length > 100000)) = false), ((decide ((a0.Roads.getD v3.toNat d_Road).Length > 100000)) = false), ((decide ((a0.Roads.getD v3.toNat d_Road).Length > 100000)) = false), True, ((decide ((a0.Roads.getD v3.toNat d_Road).Length > 100000)) = false), ((decide ((a0.Roads.getD v3.toNat d_Road).Area < 1)) = true), ((decide ((a0.Roads.getD v3.toNat d_Road).Area < 1)) = true), ((decide ((a0.Roads.getD v3.toNat d_Road).Area < 1)) = true), ((decide ((a0.Roads.getD v3.toNat d_Road).Area < 1)) = true)] (by kernel_rfl) ⟨trivial, e15, e15, e15, trivial, e15, e17, e17, e17, trivial, e17, e19, e19, e19, e19, trivial⟩ ?_
                            refine tri_cond true (by kernel_rfl) (fun _ => ?_) (fun e => by cases e)
                            refine tri_reg env [] 17 1024 [.keep [2] [] []] ⟨100, [(2, .c (.v (.int .i64 1)))], [], []⟩ [] (by kernel_rfl) trivial ?_
                            refine tri_ret ?_
                            refine thenR ?_
                            refine inBR ?_
                            refine thenR ?_
                            refine thenR ?_
                            refine inBR ?_
                            refine thenR ?_
                            rw [some_inv h]
                            exact ⟨[], by kernel_rfl, trivial⟩
                          · refine tri_reg env [(3, .b false), (7, .b false), (8, .b false), (12, .b false), (13, .b false), (17, .b false)] 16 1024 [.keep [5, 7, 38, 39, 40, 88] [(13002, 0)] []] ⟨100, [(5, .c (.v (.int .i64 ((a0.Places.length : Nat) : Int)))), (7, .c (.pvar (13002, 0) 0)), (38, .c (.lst 10 a0.Roads.length (encF e_Road d_Road a0.Roads))), (39, .c (.v (.int .i64 ((a0.Roads.length : Nat) : Int)))), (40, .c (.v (.int .i64 v3))), (88, .c (.v (.bool (decide ((a0.Roads.getD v3.toNat d_Road).Area > 1000)))))], [((13002, 0), (e_Road (a0.Roads.getD v3.toNat d_Road)))], []⟩ [True, ((decide ((a0.Roads.getD v3.toNat d_Road).Length < 1)) = false), ((decide ((a0.Roads.getD v3.toNat d_Road).Length < 1)) = false), ((decide ((a0.Roads.getD v3.toNat d_Road).Length < 1)) = false), True, ((decide ((a0.Roads.getD v3.toNat d_Road).Length < 1)) = false), ((decide ((a0.Roads.getD v3.toNat d_Road).Length > 100000)) = false), ((decide ((a0.Roads.getD v3.toNat d_Road).Length > 100000)) = false), ((decide ((a0.Roads.getD v3.toNat d_Road).Length > 100000)) = false), True, ((decide ((a0.Roads.getD v3.toNat d_Road).Length > 100000)) = false), ((decide ((a0.Roads.getD v3.toNat d_Road).Area < 1)) = false), ((decide ((a0.Roads.getD v3.toNat d_Road).Area < 1)) = false), ((decide ((a0.Roads.getD v3.toNat d_Road).Area < 1)) = false), True, ((decide ((a0.Roads.getD v3.toNat d_Road).Area < 1)) = false)] (by kernel_rfl) ⟨trivial, e15, e15, e15, trivial, e15, e17, e17, e17, trivial, e17, e19, e19, e19, trivial, e19, trivial⟩ ?_
                            refine tri_cond (decide ((a0.Roads.getD v3.toNat d_Road).Area > 1000)) (by kernel_rfl) (fun e21 => ?_) (fun e21 => ?_)
                            · replace h := cnd_t h e21
                              refine tri_reg env [] 17 1024 [.keep [2] [] []] ⟨100, [(2, .c (.v (.int .i64 1)))], [], []⟩ [] (by kernel_rfl) trivial ?_
                              refine tri_ret ?_
                              refine thenR ?_
                              refine inBR ?_
                              refine thenR ?_
                              refine thenR ?_
                              refine inBR ?_
                              refine thenR ?_
                              rw [some_inv h]
                              exact ⟨[], by kernel_rfl, trivial⟩
                            · replace h := cnd_f h e21
                              refine tri_skip ?_
                              refine thenN ?_
                              obtain ⟨y22, c23, h⟩ := bnd_inv h
                              refine cnd_split h (fun e24 h => ?_) (fun e24 h => ?_)
                              · refine tri_reg env [(2, .call ⟨(ax_plan_spanIn (⟨(a0.Roads.getD v3.toNat d_Road).Rest_Low, (a0.Roads.getD v3.toNat d_Road).Rest_High⟩ : T_Span) 1 262144), [false, false, false], rx_plan_spanIn y22, px_plan_spanIn y22, true⟩), (4, .b true), (9, .b true)] 18 1024 [.keep [5, 38, 39, 40, 98] [] []] ⟨100, [(5, .c (.v (.int .i64 ((a0.Places.length : Nat) : Int)))), (38, .c (.lst 10 a0.Roads.length (encF e_Road d_Road a0.Roads))), (39, .c (.v (.int .i64 ((a0.Roads.length : Nat) : Int)))), (40, .c (.v (.int .i64 v3))), (98, .c (.v (.bool true)))], [], []⟩ [(EqXs (ax_plan_spanIn (⟨(a0.Roads.getD v3.toNat d_Road).Rest_Low, (a0.Roads.getD v3.toNat d_Road).Rest_High⟩ : T_Span) 1 262144) (ax_plan_spanIn (⟨(a0.Roads.getD v3.toNat d_Road).Rest_Low, (a0.Roads.getD v3.toNat d_Road).Rest_High⟩ : T_Span) 1 262144)), (FnOk Try.prog 58 (ax_plan_spanIn (⟨(a0.Roads.getD v3.toNat d_Road).Rest_Low, (a0.Roads.getD v3.toNat d_Road).Rest_High⟩ : T_Span) 1 262144) (rx_plan_spanIn y22) (px_plan_spanIn y22)), ((!y22) = true), ((!y22) = true), ((!y22) = true), ((!y22) = true), ((!y22) = true)] (by kernel_rfl) ⟨(eqs (eqa (eqr _) (eqa (eqr _) eqa0)) (eqs (eqr _) (eqs (eqr _) eqs0))), (ok_plan_spanIn K (⟨(a0.Roads.getD v3.toNat d_Road).Rest_Low, (a0.Roads.getD v3.toNat d_Road).Rest_High⟩ : T_Span) 1 262144 y22 c23), e24, e24, e24, e24, e24, trivial⟩ ?_
                                refine tri_cond true (by kernel_rfl) (fun _ => ?_) (fun e => by cases e)
                                refine tri_reg env [] 19 1024 [.keep [2] [] []] ⟨100, [(2, .c (.v (.int .i64 1)))], [], []⟩ [] (by kernel_rfl) trivial ?_
                                refine tri_ret ?_
                                refine inBR ?_
                                refine thenR ?_
                                refine thenR ?_
                                refine inBR ?_
                                refine thenR ?_
                                rw [some_inv h]
                                exact ⟨[], by kernel_rfl, trivial⟩
                              · obtain ⟨y26, c27, h⟩ := bnd_inv h
                                refine tri_reg env [(2, .call ⟨(ax_plan_spanIn (⟨(a0.Roads.getD v3.toNat d_Road).Rest_Low, (a0.Roads.getD v3.toNat d_Road).Rest_High⟩ : T_Span) 1 262144), [false, false, false], rx_plan_spanIn y22, px_plan_spanIn y22, true⟩), (4, .b false), (7, .call ⟨(ax_plan_spanIn (⟨(a0.Roads.getD v3.toNat d_Road).Lift_Low, (a0.Roads.getD v3.toNat d_Road).Lift_High⟩ : T_Span) (-2199023255552) 2199023255552), [false, false, false], rx_plan_spanIn y26, px_plan_spanIn y26, true⟩), (9, .b false)] 18 1024 [.keep [5, 38, 39, 40, 98] [] []] ⟨100, [(5, .c (.v (.int .i64 ((a0.Places.length : Nat) : Int)))), (38, .c (.lst 10 a0.Roads.length (encF e_Road d_Road a0.Roads))), (39, .c (.v (.int .i64 ((a0.Roads.length : Nat) : Int)))), (40, .c (.v (.int .i64 v3))), (98, .c (.v (.bool (!y26))))], [], []⟩ [(EqXs (ax_plan_spanIn (⟨(a0.Roads.getD v3.toNat d_Road).Rest_Low, (a0.Roads.getD v3.toNat d_Road).Rest_High⟩ : T_Span) 1 262144) (ax_plan_spanIn (⟨(a0.Roads.getD v3.toNat d_Road).Rest_Low, (a0.Roads.getD v3.toNat d_Road).Rest_High⟩ : T_Span) 1 262144)), (FnOk Try.prog 58 (ax_plan_spanIn (⟨(a0.Roads.getD v3.toNat d_Road).Rest_Low, (a0.Roads.getD v3.toNat d_Road).Rest_High⟩ : T_Span) 1 262144) (rx_plan_spanIn y22) (px_plan_spanIn y22)), ((!y22) = false), ((!y22) = false), ((!y22) = false), (EqXs (ax_plan_spanIn (⟨(a0.Roads.getD v3.toNat d_Road).Lift_Low, (a0.Roads.getD v3.toNat d_Road).Lift_High⟩ : T_Span) (-2199023255552) 2199023255552) (ax_plan_spanIn (⟨(a0.Roads.getD v3.toNat d_Road).Lift_Low, (a0.Roads.getD v3.toNat d_Road).Lift_High⟩ : T_Span) (-2199023255552) 2199023255552)), (FnOk Try.prog 58 (ax_plan_spanIn (⟨(a0.Roads.getD v3.toNat d_Road).Lift_Low, (a0.Roads.getD v3.toNat d_Road).Lift_High⟩ : T_Span) (-2199023255552) 2199023255552) (rx_plan_spanIn y26) (px_plan_spanIn y26)), ((!y22) = false), ((!y22) = false)] (by kernel_rfl) ⟨(eqs (eqa (eqr _) (eqa (eqr _) eqa0)) (eqs (eqr _) (eqs (eqr _) eqs0))), (ok_plan_spanIn K (⟨(a0.Roads.getD v3.toNat d_Road).Rest_Low, (a0.Roads.getD v3.toNat d_Road).Rest_High⟩ : T_Span) 1 262144 y22 c23), e24, e24, e24, (eqs (eqa (eqr _) (eqa (eqr _) eqa0)) (eqs (eqr _) (eqs (eqr _) eqs0))), (ok_plan_spanIn K (⟨(a0.Roads.getD v3.toNat d_Road).Lift_Low, (a0.Roads.getD v3.toNat d_Road).Lift_High⟩ : T_Span) (-2199023255552) 2199023255552 y26 c27), e24, e24, trivial⟩ ?_
                                refine tri_cond (!y26) (by kernel_rfl) (fun e28 => ?_) (fun e28 => ?_)
                                · replace h := cnd_t h e28
                                  refine tri_reg env [] 19 1024 [.keep [2] [] []] ⟨100, [(2, .c (.v (.int .i64 1)))], [], []⟩ [] (by kernel_rfl) trivial ?_
                                  refine tri_ret ?_
                                  refine inBR ?_
                                  refine thenR ?_
                                  refine thenR ?_
                                  refine inBR ?_
                                  refine thenR ?_
                                  rw [some_inv h]
                                  exact ⟨[], by kernel_rfl, trivial⟩
                                · replace h := cnd_f h e28
                                  refine tri_skip ?_
                                  refine inBN ?_
                                  refine thenN ?_
                                  refine tri_reg_end env [] 20 1024 [.keep [5, 38, 39, 40] [] []] ⟨100, [(5, .c (.v (.int .i64 ((a0.Places.length : Nat) : Int)))), (38, .c (.lst 10 a0.Roads.length (encF e_Road d_Road a0.Roads))), (39, .c (.v (.int .i64 ((a0.Roads.length : Nat) : Int)))), (40, .c (.v (.int .i64 (IntKind.wrap .i64 (v3 + 1)))))], [], []⟩ [True] (by kernel_rfl) ⟨trivial, trivial⟩ ?_
                                  exact thenJ (IntKind.wrap .i64 (v3 + 1)) h (by kernel_rfl)
          · replace h := cnd_f h e4
            refine tri_tell [.keep [] [] []] ⟨100, [], [], []⟩ [] (by kernel_rfl) trivial ?_
            refine tri_exit ?_
            refine thenE ?_
            refine thenE ?_
            refine inBX ?_
            exact thenJ () h (by kernel_rfl)
      · refine tri_reg env [] 4 1024 [.keep [1, 19, 20, 21] [(1000, 0)] []] ⟨100, [(1, .c (.pvar (1000, 0) 0)), (19, .c (.lst 2 a0.Places.length (encF e_Place d_Place a0.Places))), (20, .c (.v (.int .i64 ((a0.Places.length : Nat) : Int)))), (21, .c (.v (.int .i64 0)))], [((1000, 0), (e_Mine a0))], []⟩ [] (by kernel_rfl) trivial ?_
        refine tri_block ?_
        refine tri_loopK (fun (v1 : Int) => ⟨100, [(1, .c (.pvar (1000, 0) 0)), (19, .c (.lst 2 a0.Places.length (encF e_Place d_Place a0.Places))), (20, .c (.v (.int .i64 ((a0.Places.length : Nat) : Int)))), (21, .c (.v (.int .i64 v1)))], [((1000, 0), (e_Mine a0))], []⟩) (v := 0) h (fun self1 v1 h => ?_) (by kernel_rfl)
        unfold plan_Check_b1 at h
        refine tri_reg env [] 5 1024 [.keep [1, 19, 20, 21, 22] [(1000, 0)] []] ⟨100, [(1, .c (.pvar (1000, 0) 0)), (19, .c (.lst 2 a0.Places.length (encF e_Place d_Place a0.Places))), (20, .c (.v (.int .i64 ((a0.Places.length : Nat) : Int)))), (21, .c (.v (.int .i64 v1))), (22, .c (.v (.bool (decide (v1 < ((a0.Places.length : Nat) : Int))))))], [((1000, 0), (e_Mine a0))], []⟩ [True] (by kernel_rfl) ⟨trivial, trivial⟩ ?_
        refine tri_seq ?_
        refine tri_cond (decide (v1 < ((a0.Places.length : Nat) : Int))) (by kernel_rfl) (fun e29 => ?_) (fun e29 => ?_)
        · replace h := cnd_t h e29
          refine tri_skip ?_
          refine thenN ?_
          refine tri_seq ?_
          refine tri_block ?_
          obtain ⟨q30, h⟩ := ck_inv h
          refine tri_reg env [] 6 1024 [.keep [1, 4, 19, 20, 21] [(1000, 0), (6002, 0)] []] ⟨100, [(1, .c (.pvar (1000, 0) 0)), (4, .c (.pvar (6002, 0) 0)), (19, .c (.lst 2 a0.Places.length (encF e_Place d_Place a0.Places))), (20, .c (.v (.int .i64 ((a0.Places.length : Nat) : Int)))), (21, .c (.v (.int .i64 v1)))], [((1000, 0), (e_Mine a0)), ((6002, 0), (e_Place (a0.Places.getD v1.toNat d_Place)))], []⟩ [(0 ≤ v1 ∧ v1 < ((a0.Places.length : Nat) : Int))] (by kernel_rfl) ⟨q30, trivial⟩ ?_
          refine cnd_split h (fun e31 h => ?_) (fun e31 h => ?_)
          · refine tri_reg env [(3, .b true), (7, .b true)] 7 1024 [.keep [1, 19, 20, 21, 32] [(1000, 0)] []] ⟨100, [(1, .c (.pvar (1000, 0) 0)), (19, .c (.lst 2 a0.Places.length (encF e_Place d_Place a0.Places))), (20, .c (.v (.int .i64 ((a0.Places.length : Nat) : Int)))), (21, .c (.v (.int .i64 v1))), (32, .c (.v (.bool true)))], [((1000, 0), (e_Mine a0))], []⟩ [True, ((decide ((a0.Places.getD v1.toNat d_Place).Height < (-10000))) = true), ((decide ((a0.Places.getD v1.toNat d_Place).Height < (-10000))) = true), ((decide ((a0.Places.getD v1.toNat d_Place).Height < (-10000))) = true), ((decide ((a0.Places.getD v1.toNat d_Place).Height < (-10000))) = true)] (by kernel_rfl) ⟨trivial, e31, e31, e31, e31, trivial⟩ ?_
            refine tri_cond true (by kernel_rfl) (fun _ => ?_) (fun e => by cases e)
            refine tri_reg env [] 8 1024 [.keep [2] [] []] ⟨100, [(2, .c (.v (.int .i64 1)))], [], []⟩ [] (by kernel_rfl) trivial ?_
            refine tri_ret ?_
            refine inBR ?_
            refine thenR ?_
            refine thenR ?_
            refine inBR ?_
            refine thenR ?_
            rw [some_inv h]
            exact ⟨[], by kernel_rfl, trivial⟩
          · refine tri_reg env [(3, .b false), (7, .b false)] 7 1024 [.keep [1, 19, 20, 21, 32] [(1000, 0)] []] ⟨100, [(1, .c (.pvar (1000, 0) 0)), (19, .c (.lst 2 a0.Places.length (encF e_Place d_Place a0.Places))), (20, .c (.v (.int .i64 ((a0.Places.length : Nat) : Int)))), (21, .c (.v (.int .i64 v1))), (32, .c (.v (.bool (decide ((a0.Places.getD v1.toNat d_Place).Height > 10000)))))], [((1000, 0), (e_Mine a0))], []⟩ [True, ((decide ((a0.Places.getD v1.toNat d_Place).Height < (-10000))) = false), ((decide ((a0.Places.getD v1.toNat d_Place).Height < (-10000))) = false), ((decide ((a0.Places.getD v1.toNat d_Place).Height < (-10000))) = false), True, ((decide ((a0.Places.getD v1.toNat d_Place).Height < (-10000))) = false)] (by kernel_rfl) ⟨trivial, e31, e31, e31, trivial, e31, trivial⟩ ?_
            refine tri_cond (decide ((a0.Places.getD v1.toNat d_Place).Height > 10000)) (by kernel_rfl) (fun e33 => ?_) (fun e33 => ?_)
            · replace h := cnd_t h e33
              refine tri_reg env [] 8 1024 [.keep [2] [] []] ⟨100, [(2, .c (.v (.int .i64 1)))], [], []⟩ [] (by kernel_rfl) trivial ?_
              refine tri_ret ?_
              refine inBR ?_
              refine thenR ?_
              refine thenR ?_
              refine inBR ?_
              refine thenR ?_
              rw [some_inv h]
              exact ⟨[], by kernel_rfl, trivial⟩
            · replace h := cnd_f h e33
              refine tri_skip ?_
              refine inBN ?_
              refine thenN ?_
              refine tri_reg_end env [] 9 1024 [.keep [1, 19, 20, 21] [(1000, 0)] []] ⟨100, [(1, .c (.pvar (1000, 0) 0)), (19, .c (.lst 2 a0.Places.length (encF e_Place d_Place a0.Places))), (20, .c (.v (.int .i64 ((a0.Places.length : Nat) : Int)))), (21, .c (.v (.int .i64 (IntKind.wrap .i64 (v1 + 1)))))], [((1000, 0), (e_Mine a0))], []⟩ [True] (by kernel_rfl) ⟨trivial, trivial⟩ ?_
              exact thenJ (IntKind.wrap .i64 (v1 + 1)) h (by kernel_rfl)
        · replace h := cnd_f h e29
          refine tri_tell [.keep [1] [(1000, 0)] []] ⟨100, [(1, .c (.pvar (1000, 0) 0))], [((1000, 0), (e_Mine a0))], []⟩ [] (by kernel_rfl) trivial ?_
          refine tri_exit ?_
          refine thenE ?_
          refine thenE ?_
          refine inBX ?_
          exact thenJ () h (by kernel_rfl)
end Go.Proofs.Ytmkhmonbfikbpaa
namespace Go.Proofs.Ytmkhmonbfikbpaa
open Go Go.RowKit Go.Ev Go.Proofs
set_option linter.unusedVariables false

set_option maxRecDepth 100000
theorem ok_plan_Valid (K : Nat) (a0 : T_Mine) (r : Bool) (h : plan_Valid K a0 = some r) : FnOk Try.prog 20 (ax_plan_Valid a0) (rx_plan_Valid r) (px_plan_Valid r) := by
  refine ⟨⟨Try.f20, Try.func20, by kernel_rfl, by kernel_rfl⟩, ?_⟩
  unfold plan_Valid at h
  refine fn_ok env Try.func20 rfl ⟨6, [(0, .agg (e_Mine a0))], [], []⟩ [] (by kernel_rfl) fun X => ?_
  refine tri_reg env [] 1 1024 [.keep [1] [(1000, 0)] []] ⟨6, [(1, .c (.pvar (1000, 0) 0))], [((1000, 0), (e_Mine a0))], []⟩ [] (by kernel_rfl) trivial ?_
  obtain ⟨y1, c2, h⟩ := bnd_inv h
  refine tri_reg env [(1, .call ⟨(ax_plan_Check a0), [false], rx_plan_Check y1, px_plan_Check y1, true⟩)] 2 1024 [.keep [2] [] []] ⟨6, [(2, .c (.v (.bool (y1 == 0))))], [], []⟩ [(EqXs (ax_plan_Check a0) (ax_plan_Check a0)), (FnOk Try.prog 18 (ax_plan_Check a0) (rx_plan_Check y1) (px_plan_Check y1)), True] (by kernel_rfl) ⟨(eqs (eqa (eqr _) (eqa (eqr _) eqa0)) eqs0), (ok_plan_Check K a0 y1 c2), trivial, trivial⟩ ?_
  refine tri_ret ?_
  rw [some_inv h]
  exact ⟨[], by kernel_rfl, trivial⟩
end Go.Proofs.Ytmkhmonbfikbpaa
namespace Go.Proofs.Ytmkhmonbfikbpaa
open Go Go.RowKit Go.Ev Go.Proofs
set_option linter.unusedVariables false

set_option maxRecDepth 100000
theorem ok_walk_quick (K : Nat) (r : T_pace) (h : walk_quick K = some r) : FnOk Try.prog 72 [] (rx_walk_quick r) (px_walk_quick r) := by
  refine ⟨⟨Try.f72, Try.func72, by kernel_rfl, by kernel_rfl⟩, ?_⟩
  unfold walk_quick at h
  refine fn_ok env Try.func72 rfl ⟨2, [], [], []⟩ [] (by kernel_rfl) fun X => ?_
  refine tri_reg env [] 1 1024 [.keep [0] [(1000, 0)] []] ⟨2, [(0, .c (.pvar (1000, 0) 0))], [((1000, 0), [.v (.int .i64 0), .v (.int .i64 0), .v (.int .i64 0)])], []⟩ [] (by kernel_rfl) trivial ?_
  refine tri_reg env [] 2 1024 [.keep [0] [(1000, 0)] []] ⟨2, [(0, .c (.pvar (1000, 0) 0))], [((1000, 0), [.v (.int .i64 6), .v (.int .i64 9), .v (.int .i64 12)])], []⟩ [] (by kernel_rfl) trivial ?_
  refine tri_ret ?_
  rw [some_inv h]
  exact ⟨[], by kernel_rfl, trivial⟩
end Go.Proofs.Ytmkhmonbfikbpaa
namespace Go.Proofs.Ytmkhmonbfikbpaa
open Go Go.RowKit Go.Ev Go.Proofs
set_option linter.unusedVariables false

set_option maxRecDepth 100000
theorem ok_walk_with (K : Nat) (a0 : T_Mine) (a1 : Int) (a2 : Bool) (a3 : T_pace) (r : Int) (h : walk_with K a0 a1 a2 a3 = some r) : FnOk Try.prog 66 (ax_walk_with a0 a1 a2 a3) (rx_walk_with r) (px_walk_with r) := by
  refine ⟨⟨Try.f66, Try.func66, by kernel_rfl, by kernel_rfl⟩, ?_⟩
  unfold walk_with at h
  refine fn_ok env Try.func66 rfl ⟨68, [(0, .agg (e_Mine a0)), (1, .c (.v (.int .i64 a1))), (2, .c (.v (.bool a2))), (3, .agg (e_pace a3))], [], []⟩ [] (by kernel_rfl) fun X => ?_
  refine tri_reg env [] 1 1024 [.keep [1, 2, 4, 7] [(1000, 0), (1001, 0)] []] ⟨68, [(1, .c (.v (.int .i64 a1))), (2, .c (.v (.bool a2))), (4, .c (.pvar (1000, 0) 0)), (7, .c (.pvar (1001, 0) 0))], [((1000, 0), (e_Mine a0)), ((1001, 0), (e_pace a3))], []⟩ [] (by kernel_rfl) trivial ?_
  obtain ⟨q1, h⟩ := ck_inv h
  refine tri_reg env [] 2 1024 [.keep [2, 4, 7, 9] [(1000, 0), (1001, 0), (2005, 0)] []] ⟨68, [(2, .c (.v (.bool a2))), (4, .c (.pvar (1000, 0) 0)), (7, .c (.pvar (1001, 0) 0)), (9, .c (.pvar (2005, 0) 0))], [((1000, 0), (e_Mine a0)), ((1001, 0), (e_pace a3)), ((2005, 0), (e_Road (a0.Roads.getD a1.toNat d_Road)))], []⟩ [(0 ≤ a1 ∧ a1 < ((a0.Roads.length : Nat) : Int))] (by kernel_rfl) ⟨q1, trivial⟩ ?_
  refine tri_seq ?_
  refine cnd_split h (fun e2 h => ?_) (fun e2 h => ?_)
  · refine tri_reg env [(2, .b true), (6, .b true)] 3 1024 [.keep [2, 4, 7, 9, 23] [(1000, 0), (1001, 0), (2005, 0)] []] ⟨68, [(2, .c (.v (.bool a2))), (4, .c (.pvar (1000, 0) 0)), (7, .c (.pvar (1001, 0) 0)), (9, .c (.pvar (2005, 0) 0)), (23, .c (.v (.bool true)))], [((1000, 0), (e_Mine a0)), ((1001, 0), (e_pace a3)), ((2005, 0), (e_Road (a0.Roads.getD a1.toNat d_Road)))], []⟩ [((a0.Roads.getD a1.toNat d_Road).Closed = true), ((a0.Roads.getD a1.toNat d_Road).Closed = true), ((a0.Roads.getD a1.toNat d_Road).Closed = true), ((a0.Roads.getD a1.toNat d_Road).Closed = true)] (by kernel_rfl) ⟨e2, e2, e2, e2, trivial⟩ ?_
    refine tri_cond true (by kernel_rfl) (fun _ => ?_) (fun e => by cases e)
    refine tri_reg env [] 4 1024 [.keep [8] [] []] ⟨68, [(8, .c (.v (.int .i64 (-1))))], [], []⟩ [] (by kernel_rfl) trivial ?_
    refine tri_ret ?_
    refine thenR ?_
    rw [some_inv h]
    exact ⟨[], by kernel_rfl, trivial⟩
  · refine tri_reg env [(2, .b false), (6, .b false)] 3 1024 [.keep [2, 4, 7, 9, 23] [(1000, 0), (1001, 0), (2005, 0)] []] ⟨68, [(2, .c (.v (.bool a2))), (4, .c (.pvar (1000, 0) 0)), (7, .c (.pvar (1001, 0) 0)), (9, .c (.pvar (2005, 0) 0)), (23, .c (.v (.bool (!(a0.Roads.getD a1.toNat d_Road).Walk))))], [((1000, 0), (e_Mine a0)), ((1001, 0), (e_pace a3)), ((2005, 0), (e_Road (a0.Roads.getD a1.toNat d_Road)))], []⟩ [((a0.Roads.getD a1.toNat d_Road).Closed = false), ((a0.Roads.getD a1.toNat d_Road).Closed = false), ((a0.Roads.getD a1.toNat d_Road).Closed = false), ((a0.Roads.getD a1.toNat d_Road).Closed = false)] (by kernel_rfl) ⟨e2, e2, e2, e2, trivial⟩ ?_
    refine tri_cond (!(a0.Roads.getD a1.toNat d_Road).Walk) (by kernel_rfl) (fun e4 => ?_) (fun e4 => ?_)
    · replace h := cnd_t h e4
      refine tri_reg env [] 4 1024 [.keep [8] [] []] ⟨68, [(8, .c (.v (.int .i64 (-1))))], [], []⟩ [] (by kernel_rfl) trivial ?_
      refine tri_ret ?_
      refine thenR ?_
      rw [some_inv h]
      exact ⟨[], by kernel_rfl, trivial⟩
    · replace h := cnd_f h e4
      refine tri_skip ?_
      refine thenN ?_
      obtain ⟨q5, h⟩ := ck_inv h
      obtain ⟨q6, h⟩ := ck_inv h
      refine tri_reg env [] 5 1024 [.keep [2, 7, 9, 10] [(1001, 0), (2005, 0)] []] ⟨68, [(2, .c (.v (.bool a2))), (7, .c (.pvar (1001, 0) 0)), (9, .c (.pvar (2005, 0) 0)), (10, .c (.v (.int .i64 (IntKind.wrap .i64 ((a0.Places.getD (((a0.Roads.getD a1.toNat d_Road).To).toNat) d_Place).Height - (a0.Places.getD (((a0.Roads.getD a1.toNat d_Road).From).toNat) d_Place).Height)))))], [((1001, 0), (e_pace a3)), ((2005, 0), (e_Road (a0.Roads.getD a1.toNat d_Road)))], []⟩ [(0 ≤ (a0.Roads.getD a1.toNat d_Road).To ∧ (a0.Roads.getD a1.toNat d_Road).To < ((a0.Places.length : Nat) : Int)), (0 ≤ (a0.Roads.getD a1.toNat d_Road).From ∧ (a0.Roads.getD a1.toNat d_Road).From < ((a0.Places.length : Nat) : Int)), True] (by kernel_rfl) ⟨q5, q6, trivial, trivial⟩ ?_
      refine tri_joinC (fun (v1 : Int) => ⟨68, [(7, .c (.pvar (1001, 0) 0)), (9, .c (.pvar (2005, 0) 0)), (10, .c (.v (.int .i64 v1)))], [((1001, 0), (e_pace a3)), ((2005, 0), (e_Road (a0.Roads.getD a1.toNat d_Road)))], []⟩) h (fun v1 h => ?_) (fun j1 h => ?_)
      · refine tri_reg env [] 8 1024 [.keep [7, 9, 10, 11] [(1001, 0), (2005, 0)] []] ⟨68, [(7, .c (.pvar (1001, 0) 0)), (9, .c (.pvar (2005, 0) 0)), (10, .c (.v (.int .i64 v1))), (11, .c (.v (.int .i64 a3.level_)))], [((1001, 0), (e_pace a3)), ((2005, 0), (e_Road (a0.Roads.getD a1.toNat d_Road)))], []⟩ [] (by kernel_rfl) trivial ?_
        refine tri_joinC (fun (v2 : Int) => ⟨68, [(9, .c (.pvar (2005, 0) 0)), (11, .c (.v (.int .i64 v2)))], [((2005, 0), (e_Road (a0.Roads.getD a1.toNat d_Road)))], []⟩) h (fun v2 h => ?_) (fun j2 h => ?_)
        · obtain ⟨q7, h⟩ := ck_inv h
          refine tri_reg env [] 13 1024 [.keep [8] [] []] ⟨68, [(8, .c (.v (.int .i64 (IntKind.wrap .i64 (Int.tdiv (IntKind.wrap .i64 ((IntKind.wrap .i64 ((IntKind.wrap .i64 (10 * (a0.Roads.getD a1.toNat d_Road).Length)) + v2)) - 1)) v2)))))], [], []⟩ [True, True, True, (v2 ≠ 0)] (by kernel_rfl) ⟨trivial, trivial, trivial, q7, trivial⟩ ?_
          refine tri_ret ?_
          rw [some_inv h]
          exact ⟨[], by kernel_rfl, trivial⟩
        · refine tri_block ?_
          refine tri_reg env [] 9 1024 [.keep [7, 9, 10, 11, 44] [(1001, 0), (2005, 0)] []] ⟨68, [(7, .c (.pvar (1001, 0) 0)), (9, .c (.pvar (2005, 0) 0)), (10, .c (.v (.int .i64 v1))), (11, .c (.v (.int .i64 a3.level_))), (44, .c (.v (.bool (decide ((IntKind.wrap .i64 (10 * v1)) > (a0.Roads.getD a1.toNat d_Road).Length)))))], [((1001, 0), (e_pace a3)), ((2005, 0), (e_Road (a0.Roads.getD a1.toNat d_Road)))], []⟩ [True, True] (by kernel_rfl) ⟨trivial, trivial, trivial⟩ ?_
          refine tri_cond (decide ((IntKind.wrap .i64 (10 * v1)) > (a0.Roads.getD a1.toNat d_Road).Length)) (by kernel_rfl) (fun e8 => ?_) (fun e8 => ?_)
          · replace h := cnd_t h e8
            refine tri_reg_end env [] 10 1024 [.keep [9, 11] [(2005, 0)] []] ⟨68, [(9, .c (.pvar (2005, 0) 0)), (11, .c (.v (.int .i64 a3.up_)))], [((2005, 0), (e_Road (a0.Roads.getD a1.toNat d_Road)))], []⟩ [] (by kernel_rfl) trivial ?_
            refine inBN ?_
            exact thenJ a3.up_ h (by kernel_rfl)
          · replace h := cnd_f h e8
            refine tri_reg env [] 11 1024 [.keep [7, 9, 11, 52] [(1001, 0), (2005, 0)] []] ⟨68, [(7, .c (.pvar (1001, 0) 0)), (9, .c (.pvar (2005, 0) 0)), (11, .c (.v (.int .i64 a3.level_))), (52, .c (.v (.bool (decide ((IntKind.wrap .i64 ((-10) * v1)) > (a0.Roads.getD a1.toNat d_Road).Length)))))], [((1001, 0), (e_pace a3)), ((2005, 0), (e_Road (a0.Roads.getD a1.toNat d_Road)))], []⟩ [True, True] (by kernel_rfl) ⟨trivial, trivial, trivial⟩ ?_
            refine tri_cond (decide ((IntKind.wrap .i64 ((-10) * v1)) > (a0.Roads.getD a1.toNat d_Road).Length)) (by kernel_rfl) (fun e9 => ?_) (fun e9 => ?_)
            · replace h := cnd_t h e9
              refine tri_reg_end env [] 12 1024 [.keep [9, 11] [(2005, 0)] []] ⟨68, [(9, .c (.pvar (2005, 0) 0)), (11, .c (.v (.int .i64 a3.down_)))], [((2005, 0), (e_Road (a0.Roads.getD a1.toNat d_Road)))], []⟩ [] (by kernel_rfl) trivial ?_
              refine inBN ?_
              exact thenJ a3.down_ h (by kernel_rfl)
            · replace h := cnd_f h e9
              refine tri_tell [.keep [9, 11] [(2005, 0)] []] ⟨68, [(9, .c (.pvar (2005, 0) 0)), (11, .c (.v (.int .i64 a3.level_)))], [((2005, 0), (e_Road (a0.Roads.getD a1.toNat d_Road)))], []⟩ [] (by kernel_rfl) trivial ?_
              refine tri_skip ?_
              refine inBN ?_
              exact thenJ a3.level_ h (by kernel_rfl)
      · refine tri_reg env [] 6 1024 [.keep [7, 9, 10, 39] [(1001, 0), (2005, 0)] []] ⟨68, [(7, .c (.pvar (1001, 0) 0)), (9, .c (.pvar (2005, 0) 0)), (10, .c (.v (.int .i64 (IntKind.wrap .i64 ((a0.Places.getD (((a0.Roads.getD a1.toNat d_Road).To).toNat) d_Place).Height - (a0.Places.getD (((a0.Roads.getD a1.toNat d_Road).From).toNat) d_Place).Height))))), (39, .c (.v (.bool a2)))], [((1001, 0), (e_pace a3)), ((2005, 0), (e_Road (a0.Roads.getD a1.toNat d_Road)))], []⟩ [] (by kernel_rfl) trivial ?_
        refine tri_cond a2 (by kernel_rfl) (fun e10 => ?_) (fun e10 => ?_)
        · replace h := cnd_t h e10
          refine tri_reg_end env [] 7 1024 [.keep [7, 9, 10] [(1001, 0), (2005, 0)] []] ⟨68, [(7, .c (.pvar (1001, 0) 0)), (9, .c (.pvar (2005, 0) 0)), (10, .c (.v (.int .i64 (IntKind.wrap .i64 (0 - (IntKind.wrap .i64 ((a0.Places.getD (((a0.Roads.getD a1.toNat d_Road).To).toNat) d_Place).Height - (a0.Places.getD (((a0.Roads.getD a1.toNat d_Road).From).toNat) d_Place).Height)))))))], [((1001, 0), (e_pace a3)), ((2005, 0), (e_Road (a0.Roads.getD a1.toNat d_Road)))], []⟩ [] (by kernel_rfl) trivial ?_
          exact thenJ (IntKind.wrap .i64 (0 - (IntKind.wrap .i64 ((a0.Places.getD (((a0.Roads.getD a1.toNat d_Road).To).toNat) d_Place).Height - (a0.Places.getD (((a0.Roads.getD a1.toNat d_Road).From).toNat) d_Place).Height)))) h (by kernel_rfl)
        · replace h := cnd_f h e10
          refine tri_tell [.keep [7, 9, 10] [(1001, 0), (2005, 0)] []] ⟨68, [(7, .c (.pvar (1001, 0) 0)), (9, .c (.pvar (2005, 0) 0)), (10, .c (.v (.int .i64 (IntKind.wrap .i64 ((a0.Places.getD (((a0.Roads.getD a1.toNat d_Road).To).toNat) d_Place).Height - (a0.Places.getD (((a0.Roads.getD a1.toNat d_Road).From).toNat) d_Place).Height)))))], [((1001, 0), (e_pace a3)), ((2005, 0), (e_Road (a0.Roads.getD a1.toNat d_Road)))], []⟩ [] (by kernel_rfl) trivial ?_
          refine tri_skip ?_
          exact thenJ (IntKind.wrap .i64 ((a0.Places.getD (((a0.Roads.getD a1.toNat d_Road).To).toNat) d_Place).Height - (a0.Places.getD (((a0.Roads.getD a1.toNat d_Road).From).toNat) d_Place).Height)) h (by kernel_rfl)
end Go.Proofs.Ytmkhmonbfikbpaa
namespace Go.Proofs.Ytmkhmonbfikbpaa
open Go Go.RowKit Go.Ev Go.Proofs
set_option linter.unusedVariables false

set_option maxRecDepth 100000
theorem ok_walk_step (K : Nat) (a0 : T_Mine) (a1 : Int) (a2 : Bool) (r : Int) (h : walk_step K a0 a1 a2 = some r) : FnOk Try.prog 64 (ax_walk_step a0 a1 a2) (rx_walk_step r) (px_walk_step r) := by
  refine ⟨⟨Try.f64, Try.func64, by kernel_rfl, by kernel_rfl⟩, ?_⟩
  unfold walk_step at h
  refine fn_ok env Try.func64 rfl ⟨12, [(0, .agg (e_Mine a0)), (1, .c (.v (.int .i64 a1))), (2, .c (.v (.bool a2)))], [], []⟩ [] (by kernel_rfl) fun X => ?_
  refine tri_reg env [] 1 1024 [.keep [1, 2, 3] [(1000, 0)] []] ⟨12, [(1, .c (.v (.int .i64 a1))), (2, .c (.v (.bool a2))), (3, .c (.pvar (1000, 0) 0))], [((1000, 0), (e_Mine a0))], []⟩ [] (by kernel_rfl) trivial ?_
  obtain ⟨y1, c2, h⟩ := bnd_inv h
  obtain ⟨y3, c4, h⟩ := bnd_inv h
  refine tri_reg env [(3, .call ⟨[], [], rx_walk_quick y1, px_walk_quick y1, true⟩), (4, .call ⟨(ax_walk_with a0 a1 a2 y1), [false, false, false, false], rx_walk_with y3, px_walk_with y3, true⟩)] 2 1024 [.keep [6] [] []] ⟨12, [(6, .c (.v (.int .i64 y3)))], [], []⟩ [(EqXs [] []), (FnOk Try.prog 72 [] (rx_walk_quick y1) (px_walk_quick y1)), (EqXs (ax_walk_with a0 a1 a2 y1) (ax_walk_with a0 a1 a2 y1)), (FnOk Try.prog 66 (ax_walk_with a0 a1 a2 y1) (rx_walk_with y3) (px_walk_with y3))] (by kernel_rfl) ⟨eqs0, (ok_walk_quick K  y1 c2), (eqs (eqa (eqr _) (eqa (eqr _) eqa0)) (eqs (eqr _) (eqs (eqr _) (eqs (eqa (eqr _) (eqa (eqr _) (eqa (eqr _) eqa0))) eqs0)))), (ok_walk_with K a0 a1 a2 y1 y3 c4), trivial⟩ ?_
  refine tri_ret ?_
  rw [some_inv h]
  exact ⟨[], by kernel_rfl, trivial⟩
end Go.Proofs.Ytmkhmonbfikbpaa
namespace Go.Proofs.Ytmkhmonbfikbpaa
open Go Go.RowKit Go.Ev Go.Proofs
set_option linter.unusedVariables false

set_option maxRecDepth 100000
theorem ok_walk_cost_less (K : Nat) (a0 : T_cost) (a1 : T_cost) (r : Bool) (h : walk_cost_less K a0 a1 = some r) : FnOk Try.prog 69 (ax_walk_cost_less a0 a1) (rx_walk_cost_less r) (px_walk_cost_less r) := by
  refine ⟨⟨Try.f69, Try.func69, by kernel_rfl, by kernel_rfl⟩, ?_⟩
  unfold walk_cost_less at h
  refine fn_ok env Try.func69 rfl ⟨24, [(0, .agg (e_cost a0)), (1, .agg (e_cost a1))], [], []⟩ [] (by kernel_rfl) fun X => ?_
  refine tri_reg env [] 1 1024 [.keep [2, 3] [(1000, 0), (1001, 0)] []] ⟨24, [(2, .c (.pvar (1000, 0) 0)), (3, .c (.pvar (1001, 0) 0))], [((1000, 0), (e_cost a0)), ((1001, 0), (e_cost a1))], []⟩ [] (by kernel_rfl) trivial ?_
  refine cnd_split h (fun e1 h => ?_) (fun e1 h => ?_)
  · refine tri_reg env [(5, .b true), (18, .b true)] 2 1024 [.keep [4] [] []] ⟨24, [(4, .c (.v (.bool true)))], [], []⟩ [True, ((decide (a0.time_ < a1.time_)) = true), ((decide (a0.time_ < a1.time_)) = true), ((decide (a0.time_ < a1.time_)) = true), ((decide (a0.time_ < a1.time_)) = true), ((decide (a0.time_ < a1.time_)) = true), ((decide (a0.time_ < a1.time_)) = true), ((decide (a0.time_ < a1.time_)) = true), ((decide (a0.time_ < a1.time_)) = true)] (by kernel_rfl) ⟨trivial, e1, e1, e1, e1, e1, e1, e1, e1, trivial⟩ ?_
    refine tri_ret ?_
    rw [some_inv h]
    exact ⟨[], by kernel_rfl, trivial⟩
  · refine cnd_split h (fun e2 h => ?_) (fun e2 h => ?_)
    · refine tri_reg env [(5, .b false), (11, .b true), (17, .b true), (18, .b false)] 2 1024 [.keep [4] [] []] ⟨24, [(4, .c (.v (.bool (decide (a0.roads_ < a1.roads_)))))], [], []⟩ [True, ((decide (a0.time_ < a1.time_)) = false), ((decide (a0.time_ < a1.time_)) = false), ((decide (a0.time_ < a1.time_)) = false), ((decide (a0.time_ < a1.time_)) = false), ((decide (a0.time_ < a1.time_)) = false), True, ((decide (a0.time_ < a1.time_)) = false), ((a0.time_ == a1.time_) = true), ((a0.time_ == a1.time_) = true), ((a0.time_ == a1.time_) = true), ((a0.time_ == a1.time_) = true), ((a0.time_ == a1.time_) = true), True, ((decide (a0.time_ < a1.time_)) = false), ((a0.time_ == a1.time_) = true), ((decide (a0.time_ < a1.time_)) = false)] (by kernel_rfl) ⟨trivial, e1, e1, e1, e1, e1, trivial, e1, e2, e2, e2, e2, e2, trivial, e1, e2, e1, trivial⟩ ?_
      refine tri_ret ?_
      rw [some_inv h]
      exact ⟨[], by kernel_rfl, trivial⟩
    · refine tri_reg env [(5, .b false), (11, .b false), (17, .b false), (18, .b false)] 2 1024 [.keep [4] [] []] ⟨24, [(4, .c (.v (.bool false)))], [], []⟩ [True, ((decide (a0.time_ < a1.time_)) = false), ((decide (a0.time_ < a1.time_)) = false), ((decide (a0.time_ < a1.time_)) = false), ((decide (a0.time_ < a1.time_)) = false), ((decide (a0.time_ < a1.time_)) = false), True, ((decide (a0.time_ < a1.time_)) = false), ((a0.time_ == a1.time_) = false), ((a0.time_ == a1.time_) = false), ((a0.time_ == a1.time_) = false), ((a0.time_ == a1.time_) = false), ((a0.time_ == a1.time_) = false), ((decide (a0.time_ < a1.time_)) = false), ((a0.time_ == a1.time_) = false), ((decide (a0.time_ < a1.time_)) = false)] (by kernel_rfl) ⟨trivial, e1, e1, e1, e1, e1, trivial, e1, e2, e2, e2, e2, e2, e1, e2, e1, trivial⟩ ?_
      refine tri_ret ?_
      rw [some_inv h]
      exact ⟨[], by kernel_rfl, trivial⟩
end Go.Proofs.Ytmkhmonbfikbpaa
namespace Go.Proofs.Ytmkhmonbfikbpaa
open Go Go.RowKit Go.Ev Go.Proofs
set_option linter.unusedVariables false

set_option maxRecDepth 100000
theorem ok_plan_Roads (K : Nat) (a0 : T_Mine) (a1 : Int) (r : (List Int)) (h : plan_Roads K a0 a1 = some r) : FnOk Try.prog 35 (ax_plan_Roads a0 a1) (rx_plan_Roads r) (px_plan_Roads r) := by
  refine ⟨⟨Try.f35, Try.func35, by kernel_rfl, by kernel_rfl⟩, ?_⟩
  unfold plan_Roads at h
  refine fn_ok env Try.func35 rfl ⟨32, [(0, .agg (e_Mine a0)), (1, .c (.v (.int .i64 a1)))], [], []⟩ [] (by kernel_rfl) fun X => ?_
  refine tri_reg env [] 1 1024 [.keep [1, 2] [(1000, 0)] []] ⟨32, [(1, .c (.v (.int .i64 a1))), (2, .c (.pvar (1000, 0) 0))], [((1000, 0), (e_Mine a0))], []⟩ [] (by kernel_rfl) trivial ?_
  refine tri_reg env [] 2 1024 [.keep [1, 2, 5] [(1000, 0)] []] ⟨32, [(1, .c (.v (.int .i64 a1))), (2, .c (.pvar (1000, 0) 0)), (5, .c (.nil 1))], [((1000, 0), (e_Mine a0))], []⟩ [] (by kernel_rfl) trivial ?_
  refine tri_joinC (fun (v3 : (List Int)) => ⟨32, [(5, .c (.ref (700003, 0) v3.length))], [], [((700003, 0), some ⟨false, 1, v3.length, encF (eI .i64) 0 v3⟩)]⟩) h (fun v3 h => ?_) (fun j3 h => ?_)
  · refine tri_reg env [] 9 1024 [.keep [4] [] [(700003, 0)]] ⟨32, [(4, .c (.ref (700003, 0) v3.length))], [], [((700003, 0), some ⟨false, 1, v3.length, encF (eI .i64) 0 v3⟩)]⟩ [] (by kernel_rfl) trivial ?_
    refine tri_ret ?_
    rw [some_inv h]
    exact ⟨[(v3.length = v3.length)], by kernel_rfl, ⟨rfl, trivial⟩⟩
  · refine tri_reg env [] 3 1024 [.keep [1, 5, 9, 10, 11] [] []] ⟨32, [(1, .c (.v (.int .i64 a1))), (5, .c (.nil 1)), (9, .c (.lst 10 a0.Roads.length (encF e_Road d_Road a0.Roads))), (10, .c (.v (.int .i64 ((a0.Roads.length : Nat) : Int)))), (11, .c (.v (.int .i64 0)))], [], []⟩ [] (by kernel_rfl) trivial ?_
    refine tri_block ?_
    refine tri_tell [.keep [1, 5, 9, 10, 11] [] [], .nilS 5 (700001, 0) 1, .arr (700001, 0) (([] : List Int).length) (encF (eI .i64) 0 ([] : List Int)), .slot 5 (.c (.ref (700001, 0) (([] : List Int).length))), .keep [1, 5, 9, 10, 11] [] [(700001, 0)]] ⟨32, [(1, .c (.v (.int .i64 a1))), (5, .c (.ref (700001, 0) (([] : List Int).length))), (9, .c (.lst 10 a0.Roads.length (encF e_Road d_Road a0.Roads))), (10, .c (.v (.int .i64 ((a0.Roads.length : Nat) : Int)))), (11, .c (.v (.int .i64 0)))], [], [((700001, 0), some ⟨false, 1, (([] : List Int).length), encF (eI .i64) 0 ([] : List Int)⟩)]⟩ [(0 = ([] : List Int).length ∧ ∀ i, i < ([] : List Int).length → (fun _ => []) i = (encF (eI .i64) 0 ([] : List Int)) i), (TellS (.c (.ref (700001, 0) 0)) (.c (.ref (700001, 0) (([] : List Int).length))))] (by kernel_rfl) ⟨(Tells.arr (Tells.nil (e := (eI .i64)) (d := 0) (g := fun _ => []))), (TellC.ref (Tells.len (e := (eI .i64)) (d := 0) (n := 0) (g := (fun _ => [])) (L := ([] : List Int)) (Tells.nil (e := (eI .i64)) (d := 0) (g := fun _ => [])))), trivial⟩ ?_
    refine tri_loopK (fun (v1 : (Int × (List Int))) => ⟨32, [(1, .c (.v (.int .i64 a1))), (5, .c (.ref (700001, 0) v1.2.length)), (9, .c (.lst 10 a0.Roads.length (encF e_Road d_Road a0.Roads))), (10, .c (.v (.int .i64 ((a0.Roads.length : Nat) : Int)))), (11, .c (.v (.int .i64 v1.1)))], [], [((700001, 0), some ⟨false, 1, v1.2.length, encF (eI .i64) 0 v1.2⟩)]⟩) (v := (0, ([] : List Int))) h (fun self1 v1 h => ?_) (by kernel_rfl)
    unfold plan_Roads_b1 at h
    refine tri_reg env [] 4 1024 [.keep [1, 5, 9, 10, 11, 12] [] [(700001, 0)]] ⟨32, [(1, .c (.v (.int .i64 a1))), (5, .c (.ref (700001, 0) v1.2.length)), (9, .c (.lst 10 a0.Roads.length (encF e_Road d_Road a0.Roads))), (10, .c (.v (.int .i64 ((a0.Roads.length : Nat) : Int)))), (11, .c (.v (.int .i64 v1.1))), (12, .c (.v (.bool (decide (v1.1 < ((a0.Roads.length : Nat) : Int))))))], [], [((700001, 0), some ⟨false, 1, v1.2.length, encF (eI .i64) 0 v1.2⟩)]⟩ [True] (by kernel_rfl) ⟨trivial, trivial⟩ ?_
    refine tri_seq ?_
    refine tri_cond (decide (v1.1 < ((a0.Roads.length : Nat) : Int))) (by kernel_rfl) (fun e1 => ?_) (fun e1 => ?_)
    · replace h := cnd_t h e1
      refine tri_skip ?_
      refine thenN ?_
      refine tri_joinC (fun (v2 : (List Int)) => ⟨32, [(1, .c (.v (.int .i64 a1))), (5, .c (.ref (700002, 0) v2.length)), (9, .c (.lst 10 a0.Roads.length (encF e_Road d_Road a0.Roads))), (10, .c (.v (.int .i64 ((a0.Roads.length : Nat) : Int)))), (11, .c (.v (.int .i64 v1.1)))], [], [((700002, 0), some ⟨false, 1, v2.length, encF (eI .i64) 0 v2⟩)]⟩) h (fun v2 h => ?_) (fun j2 h => ?_)
      · refine tri_reg_end env [] 8 1024 [.keep [1, 5, 9, 10, 11] [] [(700002, 0)], .keep [1, 5, 9, 10, 11] [] [(700002, 0)], .ren (700002, 0) (700001, 0)] ⟨32, [(1, .c (.v (.int .i64 a1))), (5, .c (.ref (700001, 0) v2.length)), (9, .c (.lst 10 a0.Roads.length (encF e_Road d_Road a0.Roads))), (10, .c (.v (.int .i64 ((a0.Roads.length : Nat) : Int)))), (11, .c (.v (.int .i64 (IntKind.wrap .i64 (v1.1 + 1)))))], [], [((700001, 0), some ⟨false, 1, v2.length, encF (eI .i64) 0 v2⟩)]⟩ [True] (by kernel_rfl) ⟨trivial, trivial⟩ ?_
        exact thenJ ((IntKind.wrap .i64 (v1.1 + 1)), v2) h (by kernel_rfl)
      · refine tri_block ?_
        obtain ⟨q2, h⟩ := ck_inv h
        refine tri_reg env [] 5 1024 [.keep [1, 5, 6, 7, 9, 10, 11] [(5003, 0)] [(700001, 0)]] ⟨32, [(1, .c (.v (.int .i64 a1))), (5, .c (.ref (700001, 0) v1.2.length)), (6, .c (.v (.int .i64 v1.1))), (7, .c (.pvar (5003, 0) 0)), (9, .c (.lst 10 a0.Roads.length (encF e_Road d_Road a0.Roads))), (10, .c (.v (.int .i64 ((a0.Roads.length : Nat) : Int)))), (11, .c (.v (.int .i64 v1.1)))], [((5003, 0), (e_Road (a0.Roads.getD v1.1.toNat d_Road)))], [((700001, 0), some ⟨false, 1, v1.2.length, encF (eI .i64) 0 v1.2⟩)]⟩ [(0 ≤ v1.1 ∧ v1.1 < ((a0.Roads.length : Nat) : Int))] (by kernel_rfl) ⟨q2, trivial⟩ ?_
        refine cnd_split h (fun e3 h => ?_) (fun e3 h => ?_)
        · refine tri_reg env [(4, .b true), (9, .b true)] 6 1024 [.keep [1, 5, 6, 9, 10, 11, 25] [] [(700001, 0)]] ⟨32, [(1, .c (.v (.int .i64 a1))), (5, .c (.ref (700001, 0) v1.2.length)), (6, .c (.v (.int .i64 v1.1))), (9, .c (.lst 10 a0.Roads.length (encF e_Road d_Road a0.Roads))), (10, .c (.v (.int .i64 ((a0.Roads.length : Nat) : Int)))), (11, .c (.v (.int .i64 v1.1))), (25, .c (.v (.bool true)))], [], [((700001, 0), some ⟨false, 1, v1.2.length, encF (eI .i64) 0 v1.2⟩)]⟩ [True, (((a0.Roads.getD v1.1.toNat d_Road).From == a1) = true), (((a0.Roads.getD v1.1.toNat d_Road).From == a1) = true), (((a0.Roads.getD v1.1.toNat d_Road).From == a1) = true), (((a0.Roads.getD v1.1.toNat d_Road).From == a1) = true), (((a0.Roads.getD v1.1.toNat d_Road).From == a1) = true)] (by kernel_rfl) ⟨trivial, e3, e3, e3, e3, e3, trivial⟩ ?_
          refine tri_cond true (by kernel_rfl) (fun _ => ?_) (fun e => by cases e)
          obtain ⟨q5, h⟩ := ck_inv h
          refine tri_reg_end env [] 7 1024 [.arr (7003, 0) ((v1.2 ++ ([v1.1] : List Int)).length) (encF (eI .i64) 0 (v1.2 ++ ([v1.1] : List Int))), .slot 5 (.c (.ref (7003, 0) ((v1.2 ++ ([v1.1] : List Int)).length))), .keep [1, 5, 9, 10, 11] [] [(7003, 0)], .keep [1, 5, 9, 10, 11] [] [(7003, 0)], .ren (7003, 0) (700002, 0)] ⟨32, [(1, .c (.v (.int .i64 a1))), (5, .c (.ref (700002, 0) ((v1.2 ++ ([v1.1] : List Int)).length))), (9, .c (.lst 10 a0.Roads.length (encF e_Road d_Road a0.Roads))), (10, .c (.v (.int .i64 ((a0.Roads.length : Nat) : Int)))), (11, .c (.v (.int .i64 v1.1)))], [], [((700002, 0), some ⟨false, 1, ((v1.2 ++ ([v1.1] : List Int)).length), encF (eI .i64) 0 (v1.2 ++ ([v1.1] : List Int))⟩)]⟩ [(1 = 0 ∨ 1 = 1), ((v1.2.length + 1) * 8 ≤ LIMIT), ((v1.2.length + 1) = (v1.2 ++ ([v1.1] : List Int)).length ∧ ∀ i, i < (v1.2 ++ ([v1.1] : List Int)).length → (appG v1.2.length (encF (eI .i64) 0 v1.2) (fun i => window [.v (.int .i64 v1.1)] (i * 1) 1)) i = (encF (eI .i64) 0 (v1.2 ++ ([v1.1] : List Int))) i), (TellS (.c (.ref (7003, 0) (v1.2.length + 1))) (.c (.ref (7003, 0) ((v1.2 ++ ([v1.1] : List Int)).length))))] (by kernel_rfl) ⟨(.inr rfl), q5, (Tells.arr (Tells.app (Tells.rfl' (e := (eI .i64)) (d := 0) (L := v1.2)) (Tells.items (e := (eI .i64)) (d := 0) (k := 1) (g := (fun i => window [.v (.int .i64 v1.1)] (i * 1) 1)) (L := ([v1.1] : List Int)) rfl (belowS rfl below0)))), (TellC.ref (Tells.len (e := (eI .i64)) (d := 0) (n := (v1.2.length + 1)) (g := (appG v1.2.length (encF (eI .i64) 0 v1.2) (fun i => window [.v (.int .i64 v1.1)] (i * 1) 1))) (L := (v1.2 ++ ([v1.1] : List Int))) (Tells.app (Tells.rfl' (e := (eI .i64)) (d := 0) (L := v1.2)) (Tells.items (e := (eI .i64)) (d := 0) (k := 1) (g := (fun i => window [.v (.int .i64 v1.1)] (i * 1) 1)) (L := ([v1.1] : List Int)) rfl (belowS rfl below0))))), trivial⟩ ?_
          refine inBN ?_
          exact thenJ (v1.2 ++ ([v1.1] : List Int)) h (by kernel_rfl)
        · refine tri_reg env [(4, .b false), (9, .b false)] 6 1024 [.keep [1, 5, 6, 9, 10, 11, 25] [] [(700001, 0)]] ⟨32, [(1, .c (.v (.int .i64 a1))), (5, .c (.ref (700001, 0) v1.2.length)), (6, .c (.v (.int .i64 v1.1))), (9, .c (.lst 10 a0.Roads.length (encF e_Road d_Road a0.Roads))), (10, .c (.v (.int .i64 ((a0.Roads.length : Nat) : Int)))), (11, .c (.v (.int .i64 v1.1))), (25, .c (.v (.bool ((a0.Roads.getD v1.1.toNat d_Road).To == a1))))], [], [((700001, 0), some ⟨false, 1, v1.2.length, encF (eI .i64) 0 v1.2⟩)]⟩ [True, (((a0.Roads.getD v1.1.toNat d_Road).From == a1) = false), (((a0.Roads.getD v1.1.toNat d_Road).From == a1) = false), (((a0.Roads.getD v1.1.toNat d_Road).From == a1) = false), (((a0.Roads.getD v1.1.toNat d_Road).From == a1) = false), True, (((a0.Roads.getD v1.1.toNat d_Road).From == a1) = false)] (by kernel_rfl) ⟨trivial, e3, e3, e3, e3, trivial, e3, trivial⟩ ?_
          refine tri_cond ((a0.Roads.getD v1.1.toNat d_Road).To == a1) (by kernel_rfl) (fun e6 => ?_) (fun e6 => ?_)
          · replace h := cnd_t h e6
            obtain ⟨q7, h⟩ := ck_inv h
            refine tri_reg_end env [] 7 1024 [.arr (7003, 0) ((v1.2 ++ ([v1.1] : List Int)).length) (encF (eI .i64) 0 (v1.2 ++ ([v1.1] : List Int))), .slot 5 (.c (.ref (7003, 0) ((v1.2 ++ ([v1.1] : List Int)).length))), .keep [1, 5, 9, 10, 11] [] [(7003, 0)], .keep [1, 5, 9, 10, 11] [] [(7003, 0)], .ren (7003, 0) (700002, 0)] ⟨32, [(1, .c (.v (.int .i64 a1))), (5, .c (.ref (700002, 0) ((v1.2 ++ ([v1.1] : List Int)).length))), (9, .c (.lst 10 a0.Roads.length (encF e_Road d_Road a0.Roads))), (10, .c (.v (.int .i64 ((a0.Roads.length : Nat) : Int)))), (11, .c (.v (.int .i64 v1.1)))], [], [((700002, 0), some ⟨false, 1, ((v1.2 ++ ([v1.1] : List Int)).length), encF (eI .i64) 0 (v1.2 ++ ([v1.1] : List Int))⟩)]⟩ [(1 = 0 ∨ 1 = 1), ((v1.2.length + 1) * 8 ≤ LIMIT), ((v1.2.length + 1) = (v1.2 ++ ([v1.1] : List Int)).length ∧ ∀ i, i < (v1.2 ++ ([v1.1] : List Int)).length → (appG v1.2.length (encF (eI .i64) 0 v1.2) (fun i => window [.v (.int .i64 v1.1)] (i * 1) 1)) i = (encF (eI .i64) 0 (v1.2 ++ ([v1.1] : List Int))) i), (TellS (.c (.ref (7003, 0) (v1.2.length + 1))) (.c (.ref (7003, 0) ((v1.2 ++ ([v1.1] : List Int)).length))))] (by kernel_rfl) ⟨(.inr rfl), q7, (Tells.arr (Tells.app (Tells.rfl' (e := (eI .i64)) (d := 0) (L := v1.2)) (Tells.items (e := (eI .i64)) (d := 0) (k := 1) (g := (fun i => window [.v (.int .i64 v1.1)] (i * 1) 1)) (L := ([v1.1] : List Int)) rfl (belowS rfl below0)))), (TellC.ref (Tells.len (e := (eI .i64)) (d := 0) (n := (v1.2.length + 1)) (g := (appG v1.2.length (encF (eI .i64) 0 v1.2) (fun i => window [.v (.int .i64 v1.1)] (i * 1) 1))) (L := (v1.2 ++ ([v1.1] : List Int))) (Tells.app (Tells.rfl' (e := (eI .i64)) (d := 0) (L := v1.2)) (Tells.items (e := (eI .i64)) (d := 0) (k := 1) (g := (fun i => window [.v (.int .i64 v1.1)] (i * 1) 1)) (L := ([v1.1] : List Int)) rfl (belowS rfl below0))))), trivial⟩ ?_
            refine inBN ?_
            exact thenJ (v1.2 ++ ([v1.1] : List Int)) h (by kernel_rfl)
          · replace h := cnd_f h e6
            refine tri_tell [.keep [1, 5, 9, 10, 11] [] [(700001, 0)], .ren (700001, 0) (700002, 0)] ⟨32, [(1, .c (.v (.int .i64 a1))), (5, .c (.ref (700002, 0) v1.2.length)), (9, .c (.lst 10 a0.Roads.length (encF e_Road d_Road a0.Roads))), (10, .c (.v (.int .i64 ((a0.Roads.length : Nat) : Int)))), (11, .c (.v (.int .i64 v1.1)))], [], [((700002, 0), some ⟨false, 1, v1.2.length, encF (eI .i64) 0 v1.2⟩)]⟩ [] (by kernel_rfl) trivial ?_
            refine tri_skip ?_
            refine inBN ?_
            exact thenJ v1.2 h (by kernel_rfl)
    · replace h := cnd_f h e1
      refine tri_tell [.keep [5] [] [(700001, 0)], .ren (700001, 0) (700003, 0)] ⟨32, [(5, .c (.ref (700003, 0) v1.2.length))], [], [((700003, 0), some ⟨false, 1, v1.2.length, encF (eI .i64) 0 v1.2⟩)]⟩ [] (by kernel_rfl) trivial ?_
      refine tri_exit ?_
      refine thenE ?_
      refine thenE ?_
      refine inBX ?_
      exact thenJ v1.2 h (by kernel_rfl)
end Go.Proofs.Ytmkhmonbfikbpaa
namespace Go.Proofs.Ytmkhmonbfikbpaa
open Go Go.RowKit Go.Ev Go.Proofs
set_option linter.unusedVariables false

set_option maxRecDepth 100000
theorem ok_plan_Other (K : Nat) (a0 : T_Mine) (a1 : Int) (a2 : Int) (r : Int) (h : plan_Other K a0 a1 a2 = some r) : FnOk Try.prog 37 (ax_plan_Other a0 a1 a2) (rx_plan_Other r) (px_plan_Other r) := by
  refine ⟨⟨Try.f37, Try.func37, by kernel_rfl, by kernel_rfl⟩, ?_⟩
  unfold plan_Other at h
  refine fn_ok env Try.func37 rfl ⟨35, [(0, .agg (e_Mine a0)), (1, .c (.v (.int .i64 a1))), (2, .c (.v (.int .i64 a2)))], [], []⟩ [] (by kernel_rfl) fun X => ?_
  refine tri_reg env [] 1 1024 [.keep [1, 2, 3] [(1000, 0)] []] ⟨35, [(1, .c (.v (.int .i64 a1))), (2, .c (.v (.int .i64 a2))), (3, .c (.pvar (1000, 0) 0))], [((1000, 0), (e_Mine a0))], []⟩ [] (by kernel_rfl) trivial ?_
  refine tri_seq ?_
  refine cnd_split h (fun e1 h => ?_) (fun e1 h => ?_)
  · refine tri_reg env [(2, .b true), (8, .b true)] 2 1024 [.keep [1, 2, 3, 16] [(1000, 0)] []] ⟨35, [(1, .c (.v (.int .i64 a1))), (2, .c (.v (.int .i64 a2))), (3, .c (.pvar (1000, 0) 0)), (16, .c (.v (.bool true)))], [((1000, 0), (e_Mine a0))], []⟩ [True, ((decide (a1 < 0)) = true), ((decide (a1 < 0)) = true), ((decide (a1 < 0)) = true), ((decide (a1 < 0)) = true), ((decide (a1 < 0)) = true), ((decide (a1 < 0)) = true)] (by kernel_rfl) ⟨trivial, e1, e1, e1, e1, e1, e1, trivial⟩ ?_
    refine tri_cond true (by kernel_rfl) (fun _ => ?_) (fun e => by cases e)
    refine tri_reg env [] 3 1024 [.keep [6] [] []] ⟨35, [(6, .c (.v (.int .i64 (-1))))], [], []⟩ [] (by kernel_rfl) trivial ?_
    refine tri_ret ?_
    refine thenR ?_
    rw [some_inv h]
    exact ⟨[], by kernel_rfl, trivial⟩
  · refine tri_reg env [(2, .b false), (8, .b false)] 2 1024 [.keep [1, 2, 3, 16] [(1000, 0)] []] ⟨35, [(1, .c (.v (.int .i64 a1))), (2, .c (.v (.int .i64 a2))), (3, .c (.pvar (1000, 0) 0)), (16, .c (.v (.bool (decide (a1 ≥ ((a0.Roads.length : Nat) : Int))))))], [((1000, 0), (e_Mine a0))], []⟩ [True, ((decide (a1 < 0)) = false), ((decide (a1 < 0)) = false), ((decide (a1 < 0)) = false), ((decide (a1 < 0)) = false), ((decide (a1 < 0)) = false), True, ((decide (a1 < 0)) = false)] (by kernel_rfl) ⟨trivial, e1, e1, e1, e1, e1, trivial, e1, trivial⟩ ?_
    refine tri_cond (decide (a1 ≥ ((a0.Roads.length : Nat) : Int))) (by kernel_rfl) (fun e3 => ?_) (fun e3 => ?_)
    · replace h := cnd_t h e3
      refine tri_reg env [] 3 1024 [.keep [6] [] []] ⟨35, [(6, .c (.v (.int .i64 (-1))))], [], []⟩ [] (by kernel_rfl) trivial ?_
      refine tri_ret ?_
      refine thenR ?_
      rw [some_inv h]
      exact ⟨[], by kernel_rfl, trivial⟩
    · replace h := cnd_f h e3
      refine tri_skip ?_
      refine thenN ?_
      refine tri_seq ?_
      obtain ⟨q4, h⟩ := ck_inv h
      refine tri_reg env [] 4 1024 [.keep [2, 7] [(4005, 0)] []] ⟨35, [(2, .c (.v (.int .i64 a2))), (7, .c (.pvar (4005, 0) 0))], [((4005, 0), (e_Road (a0.Roads.getD a1.toNat d_Road)))], []⟩ [(0 ≤ a1 ∧ a1 < ((a0.Roads.length : Nat) : Int))] (by kernel_rfl) ⟨q4, trivial⟩ ?_
      refine tri_reg env [] 5 1024 [.keep [7, 22] [(4005, 0)] []] ⟨35, [(7, .c (.pvar (4005, 0) 0)), (22, .c (.v (.int .i64 a2)))], [((4005, 0), (e_Road (a0.Roads.getD a1.toNat d_Road)))], []⟩ [] (by kernel_rfl) trivial ?_
      refine tri_block ?_
      refine tri_reg env [] 6 1024 [.keep [7, 22, 23] [(4005, 0)] []] ⟨35, [(7, .c (.pvar (4005, 0) 0)), (22, .c (.v (.int .i64 a2))), (23, .c (.v (.bool (a2 == (a0.Roads.getD a1.toNat d_Road).From))))], [((4005, 0), (e_Road (a0.Roads.getD a1.toNat d_Road)))], []⟩ [True] (by kernel_rfl) ⟨trivial, trivial⟩ ?_
      refine tri_cond (a2 == (a0.Roads.getD a1.toNat d_Road).From) (by kernel_rfl) (fun e5 => ?_) (fun e5 => ?_)
      · replace h := cnd_t h e5
        refine tri_reg env [] 7 1024 [.keep [6] [] []] ⟨35, [(6, .c (.v (.int .i64 (a0.Roads.getD a1.toNat d_Road).To)))], [], []⟩ [] (by kernel_rfl) trivial ?_
        refine tri_ret ?_
        refine inBR ?_
        refine thenR ?_
        rw [some_inv h]
        exact ⟨[], by kernel_rfl, trivial⟩
      · replace h := cnd_f h e5
        refine tri_reg env [] 8 1024 [.keep [7, 29] [(4005, 0)] []] ⟨35, [(7, .c (.pvar (4005, 0) 0)), (29, .c (.v (.bool (a2 == (a0.Roads.getD a1.toNat d_Road).To))))], [((4005, 0), (e_Road (a0.Roads.getD a1.toNat d_Road)))], []⟩ [True] (by kernel_rfl) ⟨trivial, trivial⟩ ?_
        refine tri_cond (a2 == (a0.Roads.getD a1.toNat d_Road).To) (by kernel_rfl) (fun e6 => ?_) (fun e6 => ?_)
        · replace h := cnd_t h e6
          refine tri_reg env [] 9 1024 [.keep [6] [] []] ⟨35, [(6, .c (.v (.int .i64 (a0.Roads.getD a1.toNat d_Road).From)))], [], []⟩ [] (by kernel_rfl) trivial ?_
          refine tri_ret ?_
          refine inBR ?_
          refine thenR ?_
          rw [some_inv h]
          exact ⟨[], by kernel_rfl, trivial⟩
        · replace h := cnd_f h e6
          refine tri_skip ?_
          refine inBN ?_
          refine thenN ?_
          refine tri_reg env [] 10 1024 [.keep [6] [] []] ⟨35, [(6, .c (.v (.int .i64 (-1))))], [], []⟩ [] (by kernel_rfl) trivial ?_
          refine tri_ret ?_
          rw [some_inv h]
          exact ⟨[], by kernel_rfl, trivial⟩
end Go.Proofs.Ytmkhmonbfikbpaa
namespace Go.Proofs.Ytmkhmonbfikbpaa
open Go Go.RowKit Go.Ev Go.Proofs
set_option linter.unusedVariables false
set_option maxRecDepth 100000 in
theorem both68 : BothOk Try.prog 68 := by
  intro n l W J1 J2 hY1 hY2
  refine callsIn_of_wp Try.func68 rfl trivial ?_ rfl
  simp only [Try.ntmps68, List.size_toArray, List.length_cons, List.length_nil, Nat.reduceAdd, Nat.reduceSub, Array.replicate_succ, Array.replicate_zero, List.push_toArray, List.append_toArray, List.nil_append, List.cons_append]
  obtain ⟨f1, t1, a1, b1, hy1, hR1⟩ := hY1
  have hro : (FW none).round = none := rfl
  gi_wp2
  refine hR1.mono ?_
  rintro e W1 ⟨rfl, hJ1⟩
  obtain ⟨f2, t2, a2, b2, hy2, hR2⟩ := hY2 W1 hJ1
  gi_wp2
  refine hR2.mono ?_
  rintro e W2 ⟨rfl, hJ2⟩
  gi_wp2
  exact ⟨rfl, _, results_none rfl _ _ _, ⟨_, rfl⟩, hJ2⟩
theorem enters68 : ∀ args w, (callFunc 68 args).run Try.prog w = .ok (.enter 68 args) w := enters_of Try.func68 (by kernel_rfl) rfl
end Go.Proofs.Ytmkhmonbfikbpaa
