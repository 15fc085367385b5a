/- How the values lie in cells; what each function promises. -/
import Derived.Test.YtmkhmonbfikbpaaGA
import Derived.Test.YtmkhmonbfikbpaaProg
import Derived.KernelRfl
namespace Go.Proofs.Ytmkhmonbfikbpaa
open Go Go.RowKit Go.Ev Go.Proofs
set_option linter.unusedVariables false

def T0 : Tab := [(3, ⟨1, 8, (.int .i64), [.v (.int .i64 0)]⟩),
  (4, ⟨1, 1, .bool, [.v (.bool false)]⟩),
  (5, ⟨1, 1, (.int .u8), [.v (.int .u8 0)]⟩),
  (22, ⟨1, 24, (.slice 5), [.nil 1]⟩),
  (23, ⟨1, 24, (.slice 37), [.nil 2]⟩),
  (24, ⟨1, 24, (.slice 41), [.nil 10]⟩),
  (26, ⟨2, 48, (.struct [(0, 23), (1, 24)]), [.nil 2, .nil 10]⟩),
  (28, ⟨1, 8, (.pointer 82), [.v (.pointer none)]⟩),
  (31, ⟨1, 8, (.int .i64), [.v (.int .i64 0)]⟩),
  (37, ⟨2, 16, (.struct [(0, 3), (1, 4)]), [.v (.int .i64 0), .v (.bool false)]⟩),
  (39, ⟨2, 16, (.struct [(0, 3), (1, 3)]), [.v (.int .i64 0), .v (.int .i64 0)]⟩),
  (41, ⟨10, 72, (.struct [(0, 3), (1, 3), (2, 3), (3, 3), (4, 4), (5, 4), (6, 39), (8, 39)]), [.v (.int .i64 0), .v (.int .i64 0), .v (.int .i64 0), .v (.int .i64 0), .v (.bool false), .v (.bool false), .v (.int .i64 0), .v (.int .i64 0), .v (.int .i64 0), .v (.int .i64 0)]⟩),
  (43, ⟨16, 120, (.struct [(0, 3), (1, 37), (3, 41), (13, 3), (14, 39)]), [.v (.int .i64 0), .v (.int .i64 0), .v (.bool false), .v (.int .i64 0), .v (.int .i64 0), .v (.int .i64 0), .v (.int .i64 0), .v (.bool false), .v (.bool false), .v (.int .i64 0), .v (.int .i64 0), .v (.int .i64 0), .v (.int .i64 0), .v (.int .i64 0), .v (.int .i64 0), .v (.int .i64 0)]⟩),
  (51, ⟨1, 24, (.slice 43), [.nil 16]⟩),
  (56, ⟨1, 24, (.slice 3), [.nil 1]⟩),
  (59, ⟨1, 24, (.slice 56), [.nil 1]⟩),
  (63, ⟨1, 24, (.slice 26), [.nil 2]⟩),
  (80, ⟨1, 8, (.pointer 41), [.v (.pointer none)]⟩),
  (82, ⟨2, 32, (.struct [(0, 22), (1, 3)]), [.nil 1, .v (.int .i64 0)]⟩),
  (88, ⟨1, 24, (.slice 4), [.nil 1]⟩),
  (94, ⟨3, 24, (.struct [(0, 3), (1, 3), (2, 3)]), [.v (.int .i64 0), .v (.int .i64 0), .v (.int .i64 0)]⟩),
  (96, ⟨1, 24, (.slice 98), [.nil 2]⟩),
  (98, ⟨2, 16, (.struct [(0, 3), (1, 3)]), [.v (.int .i64 0), .v (.int .i64 0)]⟩)]
theorem tab : TabOk Try.prog T0 := tabOk_of (by kernel_rfl)
theorem env : Env Try.prog T0 := ⟨tab, by kernel_rfl⟩
theorem eqst37 (a0 : Int) (a1 : Bool) (b0 : Int) (b1 : Bool) : ∀ w, (Op.equalIn 10000 37 (.agg #[.int .i64 a0, .bool a1]) (.agg #[.int .i64 b0, .bool b1])).run Try.prog w = .ok ((a0 == b0) && (a1 == b1)) w := by
  intro w
  have h : (Op.equalIn (9999 + 1) 37 (.agg #[.int .i64 a0, .bool a1]) (.agg #[.int .i64 b0, .bool b1])).run Try.prog w = .ok _ w := (eqA_of Try.underlying37 (by kernel_rfl) (eqf_cons (a := (.int .i64 a0)) (b := (.int .i64 b0)) (by kernel_rfl) (by kernel_rfl) (by kernel_rfl) (eq_int Try.underlying3) (eqf_last (a := (.bool a1)) (b := (.bool b1)) (by kernel_rfl) (by kernel_rfl) (by kernel_rfl) (eq_bool Try.underlying4))))
  exact h
theorem eqst41 (a0 : Int) (a1 : Int) (a2 : Int) (a3 : Int) (a4 : Bool) (a5 : Bool) (a6 : Int) (a7 : Int) (a8 : Int) (a9 : Int) (b0 : Int) (b1 : Int) (b2 : Int) (b3 : Int) (b4 : Bool) (b5 : Bool) (b6 : Int) (b7 : Int) (b8 : Int) (b9 : Int) : ∀ w, (Op.equalIn 10000 41 (.agg #[.int .i64 a0, .int .i64 a1, .int .i64 a2, .int .i64 a3, .bool a4, .bool a5, .int .i64 a6, .int .i64 a7, .int .i64 a8, .int .i64 a9]) (.agg #[.int .i64 b0, .int .i64 b1, .int .i64 b2, .int .i64 b3, .bool b4, .bool b5, .int .i64 b6, .int .i64 b7, .int .i64 b8, .int .i64 b9])).run Try.prog w = .ok ((a0 == b0) && ((a1 == b1) && ((a2 == b2) && ((a3 == b3) && ((a4 == b4) && ((a5 == b5) && ((a6 == b6) && ((a7 == b7) && ((a8 == b8) && (a9 == b9)))))))))) w := by
  intro w
  have h : (Op.equalIn (9999 + 1) 41 (.agg #[.int .i64 a0, .int .i64 a1, .int .i64 a2, .int .i64 a3, .bool a4, .bool a5, .int .i64 a6, .int .i64 a7, .int .i64 a8, .int .i64 a9]) (.agg #[.int .i64 b0, .int .i64 b1, .int .i64 b2, .int .i64 b3, .bool b4, .bool b5, .int .i64 b6, .int .i64 b7, .int .i64 b8, .int .i64 b9])).run Try.prog w = .ok _ w := (eqA_of Try.underlying41 (by kernel_rfl) (eqf_cons (a := (.int .i64 a0)) (b := (.int .i64 b0)) (by kernel_rfl) (by kernel_rfl) (by kernel_rfl) (eq_int Try.underlying3) (eqf_cons (a := (.int .i64 a1)) (b := (.int .i64 b1)) (by kernel_rfl) (by kernel_rfl) (by kernel_rfl) (eq_int Try.underlying3) (eqf_cons (a := (.int .i64 a2)) (b := (.int .i64 b2)) (by kernel_rfl) (by kernel_rfl) (by kernel_rfl) (eq_int Try.underlying3) (eqf_cons (a := (.int .i64 a3)) (b := (.int .i64 b3)) (by kernel_rfl) (by kernel_rfl) (by kernel_rfl) (eq_int Try.underlying3) (eqf_cons (a := (.bool a4)) (b := (.bool b4)) (by kernel_rfl) (by kernel_rfl) (by kernel_rfl) (eq_bool Try.underlying4) (eqf_cons (a := (.bool a5)) (b := (.bool b5)) (by kernel_rfl) (by kernel_rfl) (by kernel_rfl) (eq_bool Try.underlying4) (eqf_cons (a := (.agg #[.int .i64 a6, .int .i64 a7])) (b := (.agg #[.int .i64 b6, .int .i64 b7])) (by kernel_rfl) (by kernel_rfl) (by kernel_rfl) (eqA_of Try.underlying39 (by kernel_rfl) (eqf_cons (a := (.int .i64 a6)) (b := (.int .i64 b6)) (by kernel_rfl) (by kernel_rfl) (by kernel_rfl) (eq_int Try.underlying3) (eqf_last (a := (.int .i64 a7)) (b := (.int .i64 b7)) (by kernel_rfl) (by kernel_rfl) (by kernel_rfl) (eq_int Try.underlying3)))) (eqf_last (a := (.agg #[.int .i64 a8, .int .i64 a9])) (b := (.agg #[.int .i64 b8, .int .i64 b9])) (by kernel_rfl) (by kernel_rfl) (by kernel_rfl) (eqA_of Try.underlying39 (by kernel_rfl) (eqf_cons (a := (.int .i64 a8)) (b := (.int .i64 b8)) (by kernel_rfl) (by kernel_rfl) (by kernel_rfl) (eq_int Try.underlying3) (eqf_last (a := (.int .i64 a9)) (b := (.int .i64 b9)) (by kernel_rfl) (by kernel_rfl) (by kernel_rfl) (eq_int Try.underlying3)))))))))))))
  simp only [Bool.and_assoc] at h
  exact h
theorem eqst98 (a0 : Int) (a1 : Int) (b0 : Int) (b1 : Int) : ∀ w, (Op.equalIn 10000 98 (.agg #[.int .i64 a0, .int .i64 a1]) (.agg #[.int .i64 b0, .int .i64 b1])).run Try.prog w = .ok ((a0 == b0) && (a1 == b1)) w := by
  intro w
  have h : (Op.equalIn (9999 + 1) 98 (.agg #[.int .i64 a0, .int .i64 a1]) (.agg #[.int .i64 b0, .int .i64 b1])).run Try.prog w = .ok _ w := (eqA_of Try.underlying98 (by kernel_rfl) (eqf_cons (a := (.int .i64 a0)) (b := (.int .i64 b0)) (by kernel_rfl) (by kernel_rfl) (by kernel_rfl) (eq_int Try.underlying3) (eqf_last (a := (.int .i64 a1)) (b := (.int .i64 b1)) (by kernel_rfl) (by kernel_rfl) (by kernel_rfl) (eq_int Try.underlying3))))
  exact h
def e_Place (x : T_Place) : List C := [.v (.int .i64 x.Height), .v (.bool x.Surface)]
theorem sc_Place : ∀ x : T_Place, ∀ c ∈ e_Place x, scalarC c := by
  intro x c hc
  simp only [e_Place, List.mem_cons, List.not_mem_nil, or_false] at hc
  rcases hc with rfl | rfl <;> trivial
def e_Road (x : T_Road) : List C := [.v (.int .i64 x.From), .v (.int .i64 x.To), .v (.int .i64 x.Length), .v (.int .i64 x.Area), .v (.bool x.Walk), .v (.bool x.Closed), .v (.int .i64 x.Rest_Low), .v (.int .i64 x.Rest_High), .v (.int .i64 x.Lift_Low), .v (.int .i64 x.Lift_High)]
theorem sc_Road : ∀ x : T_Road, ∀ c ∈ e_Road x, scalarC c := by
  intro x c hc
  simp only [e_Road, List.mem_cons, List.not_mem_nil, or_false] at hc
  rcases hc with rfl | rfl | rfl | rfl | rfl | rfl | rfl | rfl | rfl | rfl <;> trivial
def e_Mine (x : T_Mine) : List C := [.lst 2 x.Places.length (encF e_Place d_Place x.Places), .lst 10 x.Roads.length (encF e_Road d_Road x.Roads)]
def e_Codes (x : T_Codes) : List C := [.lst 1 x.l_.length (encF (eI .u8) 0 x.l_), .v (.int .i64 x.at_)]
def e_Span (x : T_Span) : List C := [.v (.int .i64 x.Low), .v (.int .i64 x.High)]
theorem sc_Span : ∀ x : T_Span, ∀ c ∈ e_Span x, scalarC c := by
  intro x c hc
  simp only [e_Span, List.mem_cons, List.not_mem_nil, or_false] at hc
  rcases hc with rfl | rfl <;> trivial
def e_Edit (x : T_Edit) : List C := [.v (.int .i64 x.Kind), .v (.int .i64 x.Place_Height), .v (.bool x.Place_Surface), .v (.int .i64 x.New_From), .v (.int .i64 x.New_To), .v (.int .i64 x.New_Length), .v (.int .i64 x.New_Area), .v (.bool x.New_Walk), .v (.bool x.New_Closed), .v (.int .i64 x.New_Rest_Low), .v (.int .i64 x.New_Rest_High), .v (.int .i64 x.New_Lift_Low), .v (.int .i64 x.New_Lift_High), .v (.int .i64 x.Road), .v (.int .i64 x.Span_Low), .v (.int .i64 x.Span_High)]
theorem sc_Edit : ∀ x : T_Edit, ∀ c ∈ e_Edit x, scalarC c := by
  intro x c hc
  simp only [e_Edit, List.mem_cons, List.not_mem_nil, or_false] at hc
  rcases hc with rfl | rfl | rfl | rfl | rfl | rfl | rfl | rfl | rfl | rfl | rfl | rfl | rfl | rfl | rfl | rfl <;> trivial
def e_pace (x : T_pace) : List C := [.v (.int .i64 x.up_), .v (.int .i64 x.down_), .v (.int .i64 x.level_)]
theorem sc_pace : ∀ x : T_pace, ∀ c ∈ e_pace x, scalarC c := by
  intro x c hc
  simp only [e_pace, List.mem_cons, List.not_mem_nil, or_false] at hc
  rcases hc with rfl | rfl | rfl <;> trivial
def e_cost (x : T_cost) : List C := [.v (.int .i64 x.time_), .v (.int .i64 x.roads_)]
theorem sc_cost : ∀ x : T_cost, ∀ c ∈ e_cost x, scalarC c := by
  intro x c hc
  simp only [e_cost, List.mem_cons, List.not_mem_nil, or_false] at hc
  rcases hc with rfl | rfl <;> trivial
def ax_draw_New (a0 : (List Int)) : List X := [.c (.lst 1 a0.length (encF (eI .u8) 0 a0))]
def rx_draw_New (r : T_Codes) : X := .cell [.c (.lst 1 r.l_.length (encF (eI .u8) 0 r.l_)), .c (.v (.int .i64 r.at_))]
def px_draw_New (r : T_Codes) : List (List X) := []
def ax_draw_Codes_Next (a0 : T_Codes) (a1 : Int) : List X := [.cell [.c (.lst 1 a0.l_.length (encF (eI .u8) 0 a0.l_)), .c (.v (.int .i64 a0.at_))], .c (.v (.int .i64 a1))]
def rx_draw_Codes_Next (r : (Int × T_Codes)) : X := .c (.v (.int .i64 r.1))
def px_draw_Codes_Next (r : (Int × T_Codes)) : List (List X) := [[.c (.lst 1 r.2.l_.length (encF (eI .u8) 0 r.2.l_)), .c (.v (.int .i64 r.2.at_))]]
def ax_draw_Codes_Range (a0 : T_Codes) (a1 : Int) (a2 : Int) : List X := [.cell [.c (.lst 1 a0.l_.length (encF (eI .u8) 0 a0.l_)), .c (.v (.int .i64 a0.at_))], .c (.v (.int .i64 a1)), .c (.v (.int .i64 a2))]
def rx_draw_Codes_Range (r : (Int × T_Codes)) : X := .c (.v (.int .i64 r.1))
def px_draw_Codes_Range (r : (Int × T_Codes)) : List (List X) := [[.c (.lst 1 r.2.l_.length (encF (eI .u8) 0 r.2.l_)), .c (.v (.int .i64 r.2.at_))]]
def ax_draw_Codes_One (a0 : T_Codes) (a1 : Int) : List X := [.cell [.c (.lst 1 a0.l_.length (encF (eI .u8) 0 a0.l_)), .c (.v (.int .i64 a0.at_))], .c (.v (.int .i64 a1))]
def rx_draw_Codes_One (r : (Bool × T_Codes)) : X := .c (.v (.bool r.1))
def px_draw_Codes_One (r : (Bool × T_Codes)) : List (List X) := [[.c (.lst 1 r.2.l_.length (encF (eI .u8) 0 r.2.l_)), .c (.v (.int .i64 r.2.at_))]]
def ax_draw_Codes_Road (a0 : T_Codes) (a1 : Int) (a2 : Int) : List X := [.cell [.c (.lst 1 a0.l_.length (encF (eI .u8) 0 a0.l_)), .c (.v (.int .i64 a0.at_))], .c (.v (.int .i64 a1)), .c (.v (.int .i64 a2))]
def rx_draw_Codes_Road (r : (T_Road × T_Codes)) : X := .agg [.c (.v (.int .i64 r.1.From)), .c (.v (.int .i64 r.1.To)), .c (.v (.int .i64 r.1.Length)), .c (.v (.int .i64 r.1.Area)), .c (.v (.bool r.1.Walk)), .c (.v (.bool r.1.Closed)), .c (.v (.int .i64 r.1.Rest_Low)), .c (.v (.int .i64 r.1.Rest_High)), .c (.v (.int .i64 r.1.Lift_Low)), .c (.v (.int .i64 r.1.Lift_High))]
def px_draw_Codes_Road (r : (T_Road × T_Codes)) : List (List X) := [[.c (.lst 1 r.2.l_.length (encF (eI .u8) 0 r.2.l_)), .c (.v (.int .i64 r.2.at_))]]
def ax_draw_Codes_Mine (a0 : T_Codes) : List X := [.cell [.c (.lst 1 a0.l_.length (encF (eI .u8) 0 a0.l_)), .c (.v (.int .i64 a0.at_))]]
def rx_draw_Codes_Mine (r : (T_Mine × T_Codes)) : X := .agg [.own 2 r.1.Places.length (encF e_Place d_Place r.1.Places), .own 10 r.1.Roads.length (encF e_Road d_Road r.1.Roads)]
def px_draw_Codes_Mine (r : (T_Mine × T_Codes)) : List (List X) := [[.c (.lst 1 r.2.l_.length (encF (eI .u8) 0 r.2.l_)), .c (.v (.int .i64 r.2.at_))]]
def ax_ref01_Copy (a0 : T_Mine) : List X := [.agg [.c (.lst 2 a0.Places.length (encF e_Place d_Place a0.Places)), .c (.lst 10 a0.Roads.length (encF e_Road d_Road a0.Roads))]]
def rx_ref01_Copy (r : T_Mine) : X := .agg [.own 2 r.Places.length (encF e_Place d_Place r.Places), .own 10 r.Roads.length (encF e_Road d_Road r.Roads)]
def px_ref01_Copy (r : T_Mine) : List (List X) := []
theorem flat_ref01_Copy (r : T_Mine) : flatX (rx_ref01_Copy r) ∧ flatXss (px_ref01_Copy r) := ⟨(fla (flat_enc sc_Place _ _) (fla (flat_enc sc_Road _ _) fla0)), flss0⟩
def ax_draw_Mod (a0 : Int) (a1 : Int) : List X := [.c (.v (.int .i64 a0)), .c (.v (.int .i64 a1))]
def rx_draw_Mod (r : Int) : X := .c (.v (.int .i64 r))
def px_draw_Mod (r : Int) : List (List X) := []
theorem flat_draw_Mod (r : Int) : flatX (rx_draw_Mod r) ∧ flatXss (px_draw_Mod r) := ⟨(flv _), flss0⟩
def ax_law01_spoilt (a0 : T_Mine) (a1 : Int) (a2 : Int) : List X := [.agg [.c (.lst 2 a0.Places.length (encF e_Place d_Place a0.Places)), .c (.lst 10 a0.Roads.length (encF e_Road d_Road a0.Roads))], .c (.v (.int .i64 a1)), .c (.v (.int .i64 a2))]
def rx_law01_spoilt (r : T_Mine) : X := .agg [.own 2 r.Places.length (encF e_Place d_Place r.Places), .own 10 r.Roads.length (encF e_Road d_Road r.Roads)]
def px_law01_spoilt (r : T_Mine) : List (List X) := []
theorem flat_law01_spoilt (r : T_Mine) : flatX (rx_law01_spoilt r) ∧ flatXss (px_law01_spoilt r) := ⟨(fla (flat_enc sc_Place _ _) (fla (flat_enc sc_Road _ _) fla0)), flss0⟩
def ax_plan_spanIn (a0 : T_Span) (a1 : Int) (a2 : Int) : List X := [.agg [.c (.v (.int .i64 a0.Low)), .c (.v (.int .i64 a0.High))], .c (.v (.int .i64 a1)), .c (.v (.int .i64 a2))]
def rx_plan_spanIn (r : Bool) : X := .c (.v (.bool r))
def px_plan_spanIn (r : Bool) : List (List X) := []
theorem flat_plan_spanIn (r : Bool) : flatX (rx_plan_spanIn r) ∧ flatXss (px_plan_spanIn r) := ⟨(flv _), flss0⟩
def ax_plan_Check (a0 : T_Mine) : List X := [.agg [.c (.lst 2 a0.Places.length (encF e_Place d_Place a0.Places)), .c (.lst 10 a0.Roads.length (encF e_Road d_Road a0.Roads))]]
def rx_plan_Check (r : Int) : X := .c (.v (.int .i64 r))
def px_plan_Check (r : Int) : List (List X) := []
theorem flat_plan_Check (r : Int) : flatX (rx_plan_Check r) ∧ flatXss (px_plan_Check r) := ⟨(flv _), flss0⟩
def ax_ref01_Span (a0 : T_Span) (a1 : Int) (a2 : Int) : List X := [.agg [.c (.v (.int .i64 a0.Low)), .c (.v (.int .i64 a0.High))], .c (.v (.int .i64 a1)), .c (.v (.int .i64 a2))]
def rx_ref01_Span (r : Bool) : X := .c (.v (.bool r))
def px_ref01_Span (r : Bool) : List (List X) := []
theorem flat_ref01_Span (r : Bool) : flatX (rx_ref01_Span r) ∧ flatXss (px_ref01_Span r) := ⟨(flv _), flss0⟩
def ax_ref01_Check (a0 : T_Mine) : List X := [.agg [.c (.lst 2 a0.Places.length (encF e_Place d_Place a0.Places)), .c (.lst 10 a0.Roads.length (encF e_Road d_Road a0.Roads))]]
def rx_ref01_Check (r : Int) : X := .c (.v (.int .i64 r))
def px_ref01_Check (r : Int) : List (List X) := []
theorem flat_ref01_Check (r : Int) : flatX (rx_ref01_Check r) ∧ flatXss (px_ref01_Check r) := ⟨(flv _), flss0⟩
def ax_plan_Valid (a0 : T_Mine) : List X := [.agg [.c (.lst 2 a0.Places.length (encF e_Place d_Place a0.Places)), .c (.lst 10 a0.Roads.length (encF e_Road d_Road a0.Roads))]]
def rx_plan_Valid (r : Bool) : X := .c (.v (.bool r))
def px_plan_Valid (r : Bool) : List (List X) := []
theorem flat_plan_Valid (r : Bool) : flatX (rx_plan_Valid r) ∧ flatXss (px_plan_Valid r) := ⟨(flv _), flss0⟩
def ax_plan_clone (a0 : T_Mine) : List X := [.agg [.c (.lst 2 a0.Places.length (encF e_Place d_Place a0.Places)), .c (.lst 10 a0.Roads.length (encF e_Road d_Road a0.Roads))]]
def rx_plan_clone (r : T_Mine) : X := .agg [.own 2 r.Places.length (encF e_Place d_Place r.Places), .own 10 r.Roads.length (encF e_Road d_Road r.Roads)]
def px_plan_clone (r : T_Mine) : List (List X) := []
theorem flat_plan_clone (r : T_Mine) : flatX (rx_plan_clone r) ∧ flatXss (px_plan_clone r) := ⟨(fla (flat_enc sc_Place _ _) (fla (flat_enc sc_Road _ _) fla0)), flss0⟩
def ax_plan_Apply (a0 : T_Mine) (a1 : T_Edit) : List X := [.agg [.c (.lst 2 a0.Places.length (encF e_Place d_Place a0.Places)), .c (.lst 10 a0.Roads.length (encF e_Road d_Road a0.Roads))], .agg [.c (.v (.int .i64 a1.Kind)), .c (.v (.int .i64 a1.Place_Height)), .c (.v (.bool a1.Place_Surface)), .c (.v (.int .i64 a1.New_From)), .c (.v (.int .i64 a1.New_To)), .c (.v (.int .i64 a1.New_Length)), .c (.v (.int .i64 a1.New_Area)), .c (.v (.bool a1.New_Walk)), .c (.v (.bool a1.New_Closed)), .c (.v (.int .i64 a1.New_Rest_Low)), .c (.v (.int .i64 a1.New_Rest_High)), .c (.v (.int .i64 a1.New_Lift_Low)), .c (.v (.int .i64 a1.New_Lift_High)), .c (.v (.int .i64 a1.Road)), .c (.v (.int .i64 a1.Span_Low)), .c (.v (.int .i64 a1.Span_High))]]
def rx_plan_Apply (r : (T_Mine × Int)) : X := .tup [.agg [.own 2 r.1.Places.length (encF e_Place d_Place r.1.Places), .own 10 r.1.Roads.length (encF e_Road d_Road r.1.Roads)], .c (.v (.int .i64 r.2))]
def px_plan_Apply (r : (T_Mine × Int)) : List (List X) := []
theorem flat_plan_Apply (r : (T_Mine × Int)) : flatX (rx_plan_Apply r) ∧ flatXss (px_plan_Apply r) := ⟨(flt (fla (flat_enc sc_Place _ _) (fla (flat_enc sc_Road _ _) fla0)) (flt (flv _) flt0)), flss0⟩
def ax_plan_part (a0 : T_Mine) : List X := [.agg [.c (.lst 2 a0.Places.length (encF e_Place d_Place a0.Places)), .c (.lst 10 a0.Roads.length (encF e_Road d_Road a0.Roads))]]
def rx_plan_part (r : ((List Int) × Int)) : X := .tup [.own 1 r.1.length (encF (eI .i64) 0 r.1), .c (.v (.int .i64 r.2))]
def px_plan_part (r : ((List Int) × Int)) : List (List X) := []
theorem flat_plan_part (r : ((List Int) × Int)) : flatX (rx_plan_part r) ∧ flatXss (px_plan_part r) := ⟨(flt (flat_enc (scI _) _ _) (flt (flv _) flt0)), flss0⟩
def ax_plan_CutOff (a0 : T_Mine) : List X := [.agg [.c (.lst 2 a0.Places.length (encF e_Place d_Place a0.Places)), .c (.lst 10 a0.Roads.length (encF e_Road d_Road a0.Roads))]]
def rx_plan_CutOff (r : (List Int)) : X := .own 1 r.length (encF (eI .i64) 0 r)
def px_plan_CutOff (r : (List Int)) : List (List X) := []
theorem flat_plan_CutOff (r : (List Int)) : flatX (rx_plan_CutOff r) ∧ flatXss (px_plan_CutOff r) := ⟨(flat_enc (scI _) _ _), flss0⟩
def ax_ref01_Ints (a0 : (List Int)) (a1 : (List Int)) : List X := [.c (.lst 1 a0.length (encF (eI .i64) 0 a0)), .c (.lst 1 a1.length (encF (eI .i64) 0 a1))]
def rx_ref01_Ints (r : Bool) : X := .c (.v (.bool r))
def px_ref01_Ints (r : Bool) : List (List X) := []
theorem flat_ref01_Ints (r : Bool) : flatX (rx_ref01_Ints r) ∧ flatXss (px_ref01_Ints r) := ⟨(flv _), flss0⟩
def rx_law01_awake (r : Bool) : X := .c (.v (.bool r))
def px_law01_awake (r : Bool) : List (List X) := []
theorem flat_law01_awake (r : Bool) : flatX (rx_law01_awake r) ∧ flatXss (px_law01_awake r) := ⟨(flv _), flss0⟩
def ax_law01_PlanChecks (a0 : (List Int)) (a1 : T_Mine) (a2 : Int) (a3 : Int) : List X := [.c (.lst 1 a0.length (encF (eI .u8) 0 a0)), .agg [.c (.lst 2 a1.Places.length (encF e_Place d_Place a1.Places)), .c (.lst 10 a1.Roads.length (encF e_Road d_Road a1.Roads))], .c (.v (.int .i64 a2)), .c (.v (.int .i64 a3))]
def rx_law01_PlanChecks (r : Bool) : X := .c (.v (.bool r))
def px_law01_PlanChecks (r : Bool) : List (List X) := []
theorem flat_law01_PlanChecks (r : Bool) : flatX (rx_law01_PlanChecks r) ∧ flatXss (px_law01_PlanChecks r) := ⟨(flv _), flss0⟩
def ax_draw_Codes_Edit (a0 : T_Codes) (a1 : T_Mine) : List X := [.cell [.c (.lst 1 a0.l_.length (encF (eI .u8) 0 a0.l_)), .c (.v (.int .i64 a0.at_))], .agg [.c (.lst 2 a1.Places.length (encF e_Place d_Place a1.Places)), .c (.lst 10 a1.Roads.length (encF e_Road d_Road a1.Roads))]]
def rx_draw_Codes_Edit (r : (T_Edit × T_Codes)) : X := .agg [.c (.v (.int .i64 r.1.Kind)), .c (.v (.int .i64 r.1.Place_Height)), .c (.v (.bool r.1.Place_Surface)), .c (.v (.int .i64 r.1.New_From)), .c (.v (.int .i64 r.1.New_To)), .c (.v (.int .i64 r.1.New_Length)), .c (.v (.int .i64 r.1.New_Area)), .c (.v (.bool r.1.New_Walk)), .c (.v (.bool r.1.New_Closed)), .c (.v (.int .i64 r.1.New_Rest_Low)), .c (.v (.int .i64 r.1.New_Rest_High)), .c (.v (.int .i64 r.1.New_Lift_Low)), .c (.v (.int .i64 r.1.New_Lift_High)), .c (.v (.int .i64 r.1.Road)), .c (.v (.int .i64 r.1.Span_Low)), .c (.v (.int .i64 r.1.Span_High))]
def px_draw_Codes_Edit (r : (T_Edit × T_Codes)) : List (List X) := [[.c (.lst 1 r.2.l_.length (encF (eI .u8) 0 r.2.l_)), .c (.v (.int .i64 r.2.at_))]]
def ax_ref01_Same (a0 : T_Mine) (a1 : T_Mine) : List X := [.agg [.c (.lst 2 a0.Places.length (encF e_Place d_Place a0.Places)), .c (.lst 10 a0.Roads.length (encF e_Road d_Road a0.Roads))], .agg [.c (.lst 2 a1.Places.length (encF e_Place d_Place a1.Places)), .c (.lst 10 a1.Roads.length (encF e_Road d_Road a1.Roads))]]
def rx_ref01_Same (r : Bool) : X := .c (.v (.bool r))
def px_ref01_Same (r : Bool) : List (List X) := []
theorem flat_ref01_Same (r : Bool) : flatX (rx_ref01_Same r) ∧ flatXss (px_ref01_Same r) := ⟨(flv _), flss0⟩
def ax_law01_PlanOrders (a0 : (List Int)) (a1 : Int) (a2 : Int) : List X := [.c (.lst 1 a0.length (encF (eI .u8) 0 a0)), .c (.v (.int .i64 a1)), .c (.v (.int .i64 a2))]
def rx_law01_PlanOrders (r : Bool) : X := .c (.v (.bool r))
def px_law01_PlanOrders (r : Bool) : List (List X) := []
theorem flat_law01_PlanOrders (r : Bool) : flatX (rx_law01_PlanOrders r) ∧ flatXss (px_law01_PlanOrders r) := ⟨(flv _), flss0⟩
def ax_draw_Codes_Edits (a0 : T_Codes) (a1 : Int) : List X := [.cell [.c (.lst 1 a0.l_.length (encF (eI .u8) 0 a0.l_)), .c (.v (.int .i64 a0.at_))], .c (.v (.int .i64 a1))]
def rx_draw_Codes_Edits (r : ((List T_Edit) × T_Codes)) : X := .own 16 r.1.length (encF e_Edit d_Edit r.1)
def px_draw_Codes_Edits (r : ((List T_Edit) × T_Codes)) : List (List X) := [[.c (.lst 1 r.2.l_.length (encF (eI .u8) 0 r.2.l_)), .c (.v (.int .i64 r.2.at_))]]
def ax_ref01_Apply (a0 : T_Mine) (a1 : T_Edit) : List X := [.agg [.c (.lst 2 a0.Places.length (encF e_Place d_Place a0.Places)), .c (.lst 10 a0.Roads.length (encF e_Road d_Road a0.Roads))], .agg [.c (.v (.int .i64 a1.Kind)), .c (.v (.int .i64 a1.Place_Height)), .c (.v (.bool a1.Place_Surface)), .c (.v (.int .i64 a1.New_From)), .c (.v (.int .i64 a1.New_To)), .c (.v (.int .i64 a1.New_Length)), .c (.v (.int .i64 a1.New_Area)), .c (.v (.bool a1.New_Walk)), .c (.v (.bool a1.New_Closed)), .c (.v (.int .i64 a1.New_Rest_Low)), .c (.v (.int .i64 a1.New_Rest_High)), .c (.v (.int .i64 a1.New_Lift_Low)), .c (.v (.int .i64 a1.New_Lift_High)), .c (.v (.int .i64 a1.Road)), .c (.v (.int .i64 a1.Span_Low)), .c (.v (.int .i64 a1.Span_High))]]
def rx_ref01_Apply (r : (T_Mine × Int)) : X := .tup [.agg [.own 2 r.1.Places.length (encF e_Place d_Place r.1.Places), .own 10 r.1.Roads.length (encF e_Road d_Road r.1.Roads)], .c (.v (.int .i64 r.2))]
def px_ref01_Apply (r : (T_Mine × Int)) : List (List X) := []
theorem flat_ref01_Apply (r : (T_Mine × Int)) : flatX (rx_ref01_Apply r) ∧ flatXss (px_ref01_Apply r) := ⟨(flt (fla (flat_enc sc_Place _ _) (fla (flat_enc sc_Road _ _) fla0)) (flt (flv _) flt0)), flss0⟩
def ax_plan_All (a0 : T_Mine) (a1 : (List T_Edit)) : List X := [.agg [.c (.lst 2 a0.Places.length (encF e_Place d_Place a0.Places)), .c (.lst 10 a0.Roads.length (encF e_Road d_Road a0.Roads))], .c (.lst 16 a1.length (encF e_Edit d_Edit a1))]
def rx_plan_All (r : (T_Mine × Int × Int)) : X := .tup [.agg [.own 2 r.1.Places.length (encF e_Place d_Place r.1.Places), .own 10 r.1.Roads.length (encF e_Road d_Road r.1.Roads)], .c (.v (.int .i64 r.2.1)), .c (.v (.int .i64 r.2.2))]
def px_plan_All (r : (T_Mine × Int × Int)) : List (List X) := []
theorem flat_plan_All (r : (T_Mine × Int × Int)) : flatX (rx_plan_All r) ∧ flatXss (px_plan_All r) := ⟨(flt (fla (flat_enc sc_Place _ _) (fla (flat_enc sc_Road _ _) fla0)) (flt (flv _) (flt (flv _) flt0))), flss0⟩
def ax_ref01_All (a0 : T_Mine) (a1 : (List T_Edit)) : List X := [.agg [.c (.lst 2 a0.Places.length (encF e_Place d_Place a0.Places)), .c (.lst 10 a0.Roads.length (encF e_Road d_Road a0.Roads))], .c (.lst 16 a1.length (encF e_Edit d_Edit a1))]
def rx_ref01_All (r : (T_Mine × Int × Int)) : X := .tup [.agg [.c (.lst 2 r.1.Places.length (encF e_Place d_Place r.1.Places)), .c (.lst 10 r.1.Roads.length (encF e_Road d_Road r.1.Roads))], .c (.v (.int .i64 r.2.1)), .c (.v (.int .i64 r.2.2))]
def px_ref01_All (r : (T_Mine × Int × Int)) : List (List X) := []
def ax_law01_PlanApplies (a0 : (List Int)) (a1 : T_Edit) : List X := [.c (.lst 1 a0.length (encF (eI .u8) 0 a0)), .agg [.c (.v (.int .i64 a1.Kind)), .c (.v (.int .i64 a1.Place_Height)), .c (.v (.bool a1.Place_Surface)), .c (.v (.int .i64 a1.New_From)), .c (.v (.int .i64 a1.New_To)), .c (.v (.int .i64 a1.New_Length)), .c (.v (.int .i64 a1.New_Area)), .c (.v (.bool a1.New_Walk)), .c (.v (.bool a1.New_Closed)), .c (.v (.int .i64 a1.New_Rest_Low)), .c (.v (.int .i64 a1.New_Rest_High)), .c (.v (.int .i64 a1.New_Lift_Low)), .c (.v (.int .i64 a1.New_Lift_High)), .c (.v (.int .i64 a1.Road)), .c (.v (.int .i64 a1.Span_Low)), .c (.v (.int .i64 a1.Span_High))]]
def rx_law01_PlanApplies (r : Bool) : X := .c (.v (.bool r))
def px_law01_PlanApplies (r : Bool) : List (List X) := []
theorem flat_law01_PlanApplies (r : Bool) : flatX (rx_law01_PlanApplies r) ∧ flatXss (px_law01_PlanApplies r) := ⟨(flv _), flss0⟩
def ax_ref01_Has (a0 : (List Int)) (a1 : Int) : List X := [.c (.lst 1 a0.length (encF (eI .i64) 0 a0)), .c (.v (.int .i64 a1))]
def rx_ref01_Has (r : Bool) : X := .c (.v (.bool r))
def px_ref01_Has (r : Bool) : List (List X) := []
theorem flat_ref01_Has (r : Bool) : flatX (rx_ref01_Has r) ∧ flatXss (px_ref01_Has r) := ⟨(flv _), flss0⟩
def ax_plan_Parts (a0 : T_Mine) : List X := [.agg [.c (.lst 2 a0.Places.length (encF e_Place d_Place a0.Places)), .c (.lst 10 a0.Roads.length (encF e_Road d_Road a0.Roads))]]
def rx_plan_Parts (r : (List (List Int))) : X := .c (.lst 1 r.length (encF (eL 1 (eI .i64) 0) [] r))
def px_plan_Parts (r : (List (List Int))) : List (List X) := []
def ax_law01_PlanBack (a0 : (List Int)) (a1 : Int) : List X := [.c (.lst 1 a0.length (encF (eI .u8) 0 a0)), .c (.v (.int .i64 a1))]
def rx_law01_PlanBack (r : Bool) : X := .c (.v (.bool r))
def px_law01_PlanBack (r : Bool) : List (List X) := []
theorem flat_law01_PlanBack (r : Bool) : flatX (rx_law01_PlanBack r) ∧ flatXss (px_law01_PlanBack r) := ⟨(flv _), flss0⟩
def ax_law01_PlanParts (a0 : (List Int)) : List X := [.c (.lst 1 a0.length (encF (eI .u8) 0 a0))]
def rx_law01_PlanParts (r : Bool) : X := .c (.v (.bool r))
def px_law01_PlanParts (r : Bool) : List (List X) := []
theorem flat_law01_PlanParts (r : Bool) : flatX (rx_law01_PlanParts r) ∧ flatXss (px_law01_PlanParts r) := ⟨(flv _), flss0⟩
def ax_plan_Roads (a0 : T_Mine) (a1 : Int) : List X := [.agg [.c (.lst 2 a0.Places.length (encF e_Place d_Place a0.Places)), .c (.lst 10 a0.Roads.length (encF e_Road d_Road a0.Roads))], .c (.v (.int .i64 a1))]
def rx_plan_Roads (r : (List Int)) : X := .own 1 r.length (encF (eI .i64) 0 r)
def px_plan_Roads (r : (List Int)) : List (List X) := []
theorem flat_plan_Roads (r : (List Int)) : flatX (rx_plan_Roads r) ∧ flatXss (px_plan_Roads r) := ⟨(flat_enc (scI _) _ _), flss0⟩
def ax_ref01_Roads (a0 : T_Mine) (a1 : Int) : List X := [.agg [.c (.lst 2 a0.Places.length (encF e_Place d_Place a0.Places)), .c (.lst 10 a0.Roads.length (encF e_Road d_Road a0.Roads))], .c (.v (.int .i64 a1))]
def rx_ref01_Roads (r : (List Int)) : X := .own 1 r.length (encF (eI .i64) 0 r)
def px_ref01_Roads (r : (List Int)) : List (List X) := []
theorem flat_ref01_Roads (r : (List Int)) : flatX (rx_ref01_Roads r) ∧ flatXss (px_ref01_Roads r) := ⟨(flat_enc (scI _) _ _), flss0⟩
def ax_plan_Other (a0 : T_Mine) (a1 : Int) (a2 : Int) : List X := [.agg [.c (.lst 2 a0.Places.length (encF e_Place d_Place a0.Places)), .c (.lst 10 a0.Roads.length (encF e_Road d_Road a0.Roads))], .c (.v (.int .i64 a1)), .c (.v (.int .i64 a2))]
def rx_plan_Other (r : Int) : X := .c (.v (.int .i64 r))
def px_plan_Other (r : Int) : List (List X) := []
theorem flat_plan_Other (r : Int) : flatX (rx_plan_Other r) ∧ flatXss (px_plan_Other r) := ⟨(flv _), flss0⟩
def ax_ref01_Other (a0 : T_Mine) (a1 : Int) (a2 : Int) : List X := [.agg [.c (.lst 2 a0.Places.length (encF e_Place d_Place a0.Places)), .c (.lst 10 a0.Roads.length (encF e_Road d_Road a0.Roads))], .c (.v (.int .i64 a1)), .c (.v (.int .i64 a2))]
def rx_ref01_Other (r : Int) : X := .c (.v (.int .i64 r))
def px_ref01_Other (r : Int) : List (List X) := []
theorem flat_ref01_Other (r : Int) : flatX (rx_ref01_Other r) ∧ flatXss (px_ref01_Other r) := ⟨(flv _), flss0⟩
def ax_ref01_From (a0 : T_Mine) (a1 : (List Bool)) : List X := [.agg [.c (.lst 2 a0.Places.length (encF e_Place d_Place a0.Places)), .c (.lst 10 a0.Roads.length (encF e_Road d_Road a0.Roads))], .c (.lst 1 a1.length (encF eB false a1))]
def rx_ref01_From (r : (List Bool)) : X := .own 1 r.length (encF eB false r)
def px_ref01_From (r : (List Bool)) : List (List X) := []
theorem flat_ref01_From (r : (List Bool)) : flatX (rx_ref01_From r) ∧ flatXss (px_ref01_From r) := ⟨(flat_enc scB _ _), flss0⟩
def ax_ref01_Airy (a0 : T_Mine) : List X := [.agg [.c (.lst 2 a0.Places.length (encF e_Place d_Place a0.Places)), .c (.lst 10 a0.Roads.length (encF e_Road d_Road a0.Roads))]]
def rx_ref01_Airy (r : (List Bool)) : X := .own 1 r.length (encF eB false r)
def px_ref01_Airy (r : (List Bool)) : List (List X) := []
theorem flat_ref01_Airy (r : (List Bool)) : flatX (rx_ref01_Airy r) ∧ flatXss (px_ref01_Airy r) := ⟨(flat_enc scB _ _), flss0⟩
def ax_ref01_CutOff (a0 : T_Mine) : List X := [.agg [.c (.lst 2 a0.Places.length (encF e_Place d_Place a0.Places)), .c (.lst 10 a0.Roads.length (encF e_Road d_Road a0.Roads))]]
def rx_ref01_CutOff (r : (List Int)) : X := .own 1 r.length (encF (eI .i64) 0 r)
def px_ref01_CutOff (r : (List Int)) : List (List X) := []
theorem flat_ref01_CutOff (r : (List Int)) : flatX (rx_ref01_CutOff r) ∧ flatXss (px_ref01_CutOff r) := ⟨(flat_enc (scI _) _ _), flss0⟩
def ax_ref01_Parts (a0 : T_Mine) : List X := [.agg [.c (.lst 2 a0.Places.length (encF e_Place d_Place a0.Places)), .c (.lst 10 a0.Roads.length (encF e_Road d_Road a0.Roads))]]
def rx_ref01_Parts (r : (List (List Int))) : X := .own 1 r.length (encF (eL 1 (eI .i64) 0) [] r)
def px_ref01_Parts (r : (List (List Int))) : List (List X) := []
def ax_ref01_Lists (a0 : (List (List Int))) (a1 : (List (List Int))) : List X := [.c (.lst 1 a0.length (encF (eL 1 (eI .i64) 0) [] a0)), .c (.lst 1 a1.length (encF (eL 1 (eI .i64) 0) [] a1))]
def rx_ref01_Lists (r : Bool) : X := .c (.v (.bool r))
def px_ref01_Lists (r : Bool) : List (List X) := []
theorem flat_ref01_Lists (r : Bool) : flatX (rx_ref01_Lists r) ∧ flatXss (px_ref01_Lists r) := ⟨(flv _), flss0⟩
def ax_law01_PlanLooks (a0 : (List Int)) (a1 : T_Mine) (a2 : Int) (a3 : Int) : List X := [.c (.lst 1 a0.length (encF (eI .u8) 0 a0)), .agg [.c (.lst 2 a1.Places.length (encF e_Place d_Place a1.Places)), .c (.lst 10 a1.Roads.length (encF e_Road d_Road a1.Roads))], .c (.v (.int .i64 a2)), .c (.v (.int .i64 a3))]
def rx_law01_PlanLooks (r : Bool) : X := .c (.v (.bool r))
def px_law01_PlanLooks (r : Bool) : List (List X) := []
theorem flat_law01_PlanLooks (r : Bool) : flatX (rx_law01_PlanLooks r) ∧ flatXss (px_law01_PlanLooks r) := ⟨(flv _), flss0⟩
def rx_walk_quick (r : T_pace) : X := .agg [.c (.v (.int .i64 r.up_)), .c (.v (.int .i64 r.down_)), .c (.v (.int .i64 r.level_))]
def px_walk_quick (r : T_pace) : List (List X) := []
theorem flat_walk_quick (r : T_pace) : flatX (rx_walk_quick r) ∧ flatXss (px_walk_quick r) := ⟨(fla (flv _) (fla (flv _) (fla (flv _) fla0))), flss0⟩
def ax_walk_with (a0 : T_Mine) (a1 : Int) (a2 : Bool) (a3 : T_pace) : List X := [.agg [.c (.lst 2 a0.Places.length (encF e_Place d_Place a0.Places)), .c (.lst 10 a0.Roads.length (encF e_Road d_Road a0.Roads))], .c (.v (.int .i64 a1)), .c (.v (.bool a2)), .agg [.c (.v (.int .i64 a3.up_)), .c (.v (.int .i64 a3.down_)), .c (.v (.int .i64 a3.level_))]]
def rx_walk_with (r : Int) : X := .c (.v (.int .i64 r))
def px_walk_with (r : Int) : List (List X) := []
theorem flat_walk_with (r : Int) : flatX (rx_walk_with r) ∧ flatXss (px_walk_with r) := ⟨(flv _), flss0⟩
def ax_walk_step (a0 : T_Mine) (a1 : Int) (a2 : Bool) : List X := [.agg [.c (.lst 2 a0.Places.length (encF e_Place d_Place a0.Places)), .c (.lst 10 a0.Roads.length (encF e_Road d_Road a0.Roads))], .c (.v (.int .i64 a1)), .c (.v (.bool a2))]
def rx_walk_step (r : Int) : X := .c (.v (.int .i64 r))
def px_walk_step (r : Int) : List (List X) := []
theorem flat_walk_step (r : Int) : flatX (rx_walk_step r) ∧ flatXss (px_walk_step r) := ⟨(flv _), flss0⟩
def ax_walk_Time (a0 : T_Mine) (a1 : Int) (a2 : Bool) : List X := [.agg [.c (.lst 2 a0.Places.length (encF e_Place d_Place a0.Places)), .c (.lst 10 a0.Roads.length (encF e_Road d_Road a0.Roads))], .c (.v (.int .i64 a1)), .c (.v (.bool a2))]
def rx_walk_Time (r : Int) : X := .c (.v (.int .i64 r))
def px_walk_Time (r : Int) : List (List X) := []
theorem flat_walk_Time (r : Int) : flatX (rx_walk_Time r) ∧ flatXss (px_walk_Time r) := ⟨(flv _), flss0⟩
def ax_ref03_ends (a0 : T_Road) (a1 : Bool) : List X := [.agg [.c (.v (.int .i64 a0.From)), .c (.v (.int .i64 a0.To)), .c (.v (.int .i64 a0.Length)), .c (.v (.int .i64 a0.Area)), .c (.v (.bool a0.Walk)), .c (.v (.bool a0.Closed)), .c (.v (.int .i64 a0.Rest_Low)), .c (.v (.int .i64 a0.Rest_High)), .c (.v (.int .i64 a0.Lift_Low)), .c (.v (.int .i64 a0.Lift_High))], .c (.v (.bool a1))]
def rx_ref03_ends (r : (Int × Int)) : X := .tup [.c (.v (.int .i64 r.1)), .c (.v (.int .i64 r.2))]
def px_ref03_ends (r : (Int × Int)) : List (List X) := []
theorem flat_ref03_ends (r : (Int × Int)) : flatX (rx_ref03_ends r) ∧ flatXss (px_ref03_ends r) := ⟨(flt (flv _) (flt (flv _) flt0)), flss0⟩
def ax_ref03_walked (a0 : T_Mine) (a1 : Int) (a2 : Bool) (a3 : Int) (a4 : Int) (a5 : Int) : List X := [.agg [.c (.lst 2 a0.Places.length (encF e_Place d_Place a0.Places)), .c (.lst 10 a0.Roads.length (encF e_Road d_Road a0.Roads))], .c (.v (.int .i64 a1)), .c (.v (.bool a2)), .c (.v (.int .i64 a3)), .c (.v (.int .i64 a4)), .c (.v (.int .i64 a5))]
def rx_ref03_walked (r : Int) : X := .c (.v (.int .i64 r))
def px_ref03_walked (r : Int) : List (List X) := []
theorem flat_ref03_walked (r : Int) : flatX (rx_ref03_walked r) ∧ flatXss (px_ref03_walked r) := ⟨(flv _), flss0⟩
def ax_ref03_Time (a0 : T_Mine) (a1 : Int) (a2 : Bool) : List X := [.agg [.c (.lst 2 a0.Places.length (encF e_Place d_Place a0.Places)), .c (.lst 10 a0.Roads.length (encF e_Road d_Road a0.Roads))], .c (.v (.int .i64 a1)), .c (.v (.bool a2))]
def rx_ref03_Time (r : Int) : X := .c (.v (.int .i64 r))
def px_ref03_Time (r : Int) : List (List X) := []
theorem flat_ref03_Time (r : Int) : flatX (rx_ref03_Time r) ∧ flatXss (px_ref03_Time r) := ⟨(flv _), flss0⟩
def rx_walk_slow (r : T_pace) : X := .agg [.c (.v (.int .i64 r.up_)), .c (.v (.int .i64 r.down_)), .c (.v (.int .i64 r.level_))]
def px_walk_slow (r : T_pace) : List (List X) := []
theorem flat_walk_slow (r : T_pace) : flatX (rx_walk_slow r) ∧ flatXss (px_walk_slow r) := ⟨(fla (flv _) (fla (flv _) (fla (flv _) fla0))), flss0⟩
def ax_walk_Slow (a0 : T_Mine) (a1 : Int) (a2 : Bool) : List X := [.agg [.c (.lst 2 a0.Places.length (encF e_Place d_Place a0.Places)), .c (.lst 10 a0.Roads.length (encF e_Road d_Road a0.Roads))], .c (.v (.int .i64 a1)), .c (.v (.bool a2))]
def rx_walk_Slow (r : Int) : X := .c (.v (.int .i64 r))
def px_walk_Slow (r : Int) : List (List X) := []
theorem flat_walk_Slow (r : Int) : flatX (rx_walk_Slow r) ∧ flatXss (px_walk_Slow r) := ⟨(flv _), flss0⟩
def ax_ref03_Slow (a0 : T_Mine) (a1 : Int) (a2 : Bool) : List X := [.agg [.c (.lst 2 a0.Places.length (encF e_Place d_Place a0.Places)), .c (.lst 10 a0.Roads.length (encF e_Road d_Road a0.Roads))], .c (.v (.int .i64 a1)), .c (.v (.bool a2))]
def rx_ref03_Slow (r : Int) : X := .c (.v (.int .i64 r))
def px_ref03_Slow (r : Int) : List (List X) := []
theorem flat_ref03_Slow (r : Int) : flatX (rx_ref03_Slow r) ∧ flatXss (px_ref03_Slow r) := ⟨(flv _), flss0⟩
def ax_walk_cost_less (a0 : T_cost) (a1 : T_cost) : List X := [.agg [.c (.v (.int .i64 a0.time_)), .c (.v (.int .i64 a0.roads_))], .agg [.c (.v (.int .i64 a1.time_)), .c (.v (.int .i64 a1.roads_))]]
def rx_walk_cost_less (r : Bool) : X := .c (.v (.bool r))
def px_walk_cost_less (r : Bool) : List (List X) := []
theorem flat_walk_cost_less (r : Bool) : flatX (rx_walk_cost_less r) ∧ flatXss (px_walk_cost_less r) := ⟨(flv _), flss0⟩
def ax_walk_Way (a0 : T_Mine) (a1 : Int) (a2 : Int) : List X := [.agg [.c (.lst 2 a0.Places.length (encF e_Place d_Place a0.Places)), .c (.lst 10 a0.Roads.length (encF e_Road d_Road a0.Roads))], .c (.v (.int .i64 a1)), .c (.v (.int .i64 a2))]
def rx_walk_Way (r : ((List Int) × Int × Bool)) : X := .tup [.own 1 r.1.length (encF (eI .i64) 0 r.1), .c (.v (.int .i64 r.2.1)), .c (.v (.bool r.2.2))]
def px_walk_Way (r : ((List Int) × Int × Bool)) : List (List X) := []
theorem flat_walk_Way (r : ((List Int) × Int × Bool)) : flatX (rx_walk_Way r) ∧ flatXss (px_walk_Way r) := ⟨(flt (flat_enc (scI _) _ _) (flt (flv _) (flt (flv _) flt0))), flss0⟩
def ax_walk_Least (a0 : T_Mine) (a1 : (List Int)) : List X := [.agg [.c (.lst 2 a0.Places.length (encF e_Place d_Place a0.Places)), .c (.lst 10 a0.Roads.length (encF e_Road d_Road a0.Roads))], .c (.lst 1 a1.length (encF (eI .i64) 0 a1))]
def rx_walk_Least (r : (List Int)) : X := .own 1 r.length (encF (eI .i64) 0 r)
def px_walk_Least (r : (List Int)) : List (List X) := []
theorem flat_walk_Least (r : (List Int)) : flatX (rx_walk_Least r) ∧ flatXss (px_walk_Least r) := ⟨(flat_enc (scI _) _ _), flss0⟩
def rx_law03_awake (r : Bool) : X := .c (.v (.bool r))
def px_law03_awake (r : Bool) : List (List X) := []
theorem flat_law03_awake (r : Bool) : flatX (rx_law03_awake r) ∧ flatXss (px_law03_awake r) := ⟨(flv _), flss0⟩
def ax_law03_WalkTimes (a0 : (List Int)) (a1 : Int) (a2 : Bool) : List X := [.c (.lst 1 a0.length (encF (eI .u8) 0 a0)), .c (.v (.int .i64 a1)), .c (.v (.bool a2))]
def rx_law03_WalkTimes (r : Bool) : X := .c (.v (.bool r))
def px_law03_WalkTimes (r : Bool) : List (List X) := []
theorem flat_law03_WalkTimes (r : Bool) : flatX (rx_law03_WalkTimes r) ∧ flatXss (px_law03_WalkTimes r) := ⟨(flv _), flss0⟩
def ax_law03_WalkSums (a0 : (List Int)) (a1 : Int) (a2 : Int) : List X := [.c (.lst 1 a0.length (encF (eI .u8) 0 a0)), .c (.v (.int .i64 a1)), .c (.v (.int .i64 a2))]
def rx_law03_WalkSums (r : Bool) : X := .c (.v (.bool r))
def px_law03_WalkSums (r : Bool) : List (List X) := []
theorem flat_law03_WalkSums (r : Bool) : flatX (rx_law03_WalkSums r) ∧ flatXss (px_law03_WalkSums r) := ⟨(flv _), flss0⟩
def ax_law03_times (a0 : T_Codes) (a1 : T_Mine) : List X := [.cell [.c (.lst 1 a0.l_.length (encF (eI .u8) 0 a0.l_)), .c (.v (.int .i64 a0.at_))], .agg [.c (.lst 2 a1.Places.length (encF e_Place d_Place a1.Places)), .c (.lst 10 a1.Roads.length (encF e_Road d_Road a1.Roads))]]
def rx_law03_times (r : ((List Int) × T_Codes)) : X := .own 1 r.1.length (encF (eI .i64) 0 r.1)
def px_law03_times (r : ((List Int) × T_Codes)) : List (List X) := [[.c (.lst 1 r.2.l_.length (encF (eI .u8) 0 r.2.l_)), .c (.v (.int .i64 r.2.at_))]]
def ax_law03_WalkCloses (a0 : (List Int)) (a1 : Int) (a2 : Int) : List X := [.c (.lst 1 a0.length (encF (eI .u8) 0 a0)), .c (.v (.int .i64 a1)), .c (.v (.int .i64 a2))]
def rx_law03_WalkCloses (r : Bool) : X := .c (.v (.bool r))
def px_law03_WalkCloses (r : Bool) : List (List X) := []
theorem flat_law03_WalkCloses (r : Bool) : flatX (rx_law03_WalkCloses r) ∧ flatXss (px_law03_WalkCloses r) := ⟨(flv _), flss0⟩
def ax_law03_WalkThrough (a0 : (List Int)) (a1 : Int) (a2 : Int) (a3 : Int) (a4 : Int) (a5 : Bool) : List X := [.c (.lst 1 a0.length (encF (eI .u8) 0 a0)), .c (.v (.int .i64 a1)), .c (.v (.int .i64 a2)), .c (.v (.int .i64 a3)), .c (.v (.int .i64 a4)), .c (.v (.bool a5))]
def rx_law03_WalkThrough (r : Bool) : X := .c (.v (.bool r))
def px_law03_WalkThrough (r : Bool) : List (List X) := []
theorem flat_law03_WalkThrough (r : Bool) : flatX (rx_law03_WalkThrough r) ∧ flatXss (px_law03_WalkThrough r) := ⟨(flv _), flss0⟩
def ax_ref03_Least (a0 : T_Mine) (a1 : (List Int)) : List X := [.agg [.c (.lst 2 a0.Places.length (encF e_Place d_Place a0.Places)), .c (.lst 10 a0.Roads.length (encF e_Road d_Road a0.Roads))], .c (.lst 1 a1.length (encF (eI .i64) 0 a1))]
def rx_ref03_Least (r : (List Int)) : X := .own 1 r.length (encF (eI .i64) 0 r)
def px_ref03_Least (r : (List Int)) : List (List X) := []
theorem flat_ref03_Least (r : (List Int)) : flatX (rx_ref03_Least r) ∧ flatXss (px_ref03_Least r) := ⟨(flat_enc (scI _) _ _), flss0⟩
def ax_walk_Within (a0 : T_Mine) (a1 : (List Int)) (a2 : Int) : List X := [.agg [.c (.lst 2 a0.Places.length (encF e_Place d_Place a0.Places)), .c (.lst 10 a0.Roads.length (encF e_Road d_Road a0.Roads))], .c (.lst 1 a1.length (encF (eI .i64) 0 a1)), .c (.v (.int .i64 a2))]
def rx_walk_Within (r : (List Int)) : X := .own 1 r.length (encF (eI .i64) 0 r)
def px_walk_Within (r : (List Int)) : List (List X) := []
theorem flat_walk_Within (r : (List Int)) : flatX (rx_walk_Within r) ∧ flatXss (px_walk_Within r) := ⟨(flat_enc (scI _) _ _), flss0⟩
def ax_ref03_Within (a0 : T_Mine) (a1 : (List Int)) (a2 : Int) : List X := [.agg [.c (.lst 2 a0.Places.length (encF e_Place d_Place a0.Places)), .c (.lst 10 a0.Roads.length (encF e_Road d_Road a0.Roads))], .c (.lst 1 a1.length (encF (eI .i64) 0 a1)), .c (.v (.int .i64 a2))]
def rx_ref03_Within (r : (List Int)) : X := .own 1 r.length (encF (eI .i64) 0 r)
def px_ref03_Within (r : (List Int)) : List (List X) := []
theorem flat_ref03_Within (r : (List Int)) : flatX (rx_ref03_Within r) ∧ flatXss (px_ref03_Within r) := ⟨(flat_enc (scI _) _ _), flss0⟩
def ax_law03_WalkLeast (a0 : (List Int)) (a1 : (List Int)) (a2 : Int) : List X := [.c (.lst 1 a0.length (encF (eI .u8) 0 a0)), .c (.lst 1 a1.length (encF (eI .i64) 0 a1)), .c (.v (.int .i64 a2))]
def rx_law03_WalkLeast (r : Bool) : X := .c (.v (.bool r))
def px_law03_WalkLeast (r : Bool) : List (List X) := []
theorem flat_law03_WalkLeast (r : Bool) : flatX (rx_law03_WalkLeast r) ∧ flatXss (px_law03_WalkLeast r) := ⟨(flv _), flss0⟩
def ax_ref03_to (a0 : T_Mine) (a1 : Int) : List X := [.agg [.c (.lst 2 a0.Places.length (encF e_Place d_Place a0.Places)), .c (.lst 10 a0.Roads.length (encF e_Road d_Road a0.Roads))], .c (.v (.int .i64 a1))]
def rx_ref03_to (r : ((List Int) × (List Int))) : X := .tup [.own 1 r.1.length (encF (eI .i64) 0 r.1), .own 1 r.2.length (encF (eI .i64) 0 r.2)]
def px_ref03_to (r : ((List Int) × (List Int))) : List (List X) := []
theorem flat_ref03_to (r : ((List Int) × (List Int))) : flatX (rx_ref03_to r) ∧ flatXss (px_ref03_to r) := ⟨(flt (flat_enc (scI _) _ _) (flt (flat_enc (scI _) _ _) flt0)), flss0⟩
def ax_ref03_Way (a0 : T_Mine) (a1 : Int) (a2 : Int) : List X := [.agg [.c (.lst 2 a0.Places.length (encF e_Place d_Place a0.Places)), .c (.lst 10 a0.Roads.length (encF e_Road d_Road a0.Roads))], .c (.v (.int .i64 a1)), .c (.v (.int .i64 a2))]
def rx_ref03_Way (r : ((List Int) × Int × Bool)) : X := .tup [.own 1 r.1.length (encF (eI .i64) 0 r.1), .c (.v (.int .i64 r.2.1)), .c (.v (.bool r.2.2))]
def px_ref03_Way (r : ((List Int) × Int × Bool)) : List (List X) := []
theorem flat_ref03_Way (r : ((List Int) × Int × Bool)) : flatX (rx_ref03_Way r) ∧ flatXss (px_ref03_Way r) := ⟨(flt (flat_enc (scI _) _ _) (flt (flv _) (flt (flv _) flt0))), flss0⟩
end Go.Proofs.Ytmkhmonbfikbpaa
