/- How values lie in cells, what each function promises, and what its code does; by a program of this work. -/
import Derived.Test.YtmdolfannbbipaaDoorH7A
import Derived.Test.YtmdolfannbbipaaDoorProg
import Derived.KernelRfl
import Derived.Shelf.Strings.Builder1
import Derived.Shelf.Small.Wraps
import Derived.Shelf.Strings.BuilderF
import Derived.Shelf.Strings.BuilderK
import Derived.Shelf.Utf8.RuneCount
import Derived.Shelf.Strconv.Atoi
import Derived.Shelf.Strconv.Itoa0
import Derived.Shelf.Strconv.Itoa1
import Derived.Shelf.LaysM
import Derived.Shelf.Strconv.Itoa2
import Derived.Shelf.Strconv.Itoa3
import Derived.Shelf.Strconv.AtoiErrFast
import Derived.Shelf.Strconv.ParseIntEmpty
import Derived.Shelf.Strconv.AtoiFail
import Derived.Shelf.Strconv.Clone
import Derived.Shelf.Strconv.SyntaxError
import Derived.Shelf.LaysC
import Derived.Shelf.Strconv.ToError
import Derived.Shelf.Strconv.Lower
import Derived.Shelf.Strconv.ParseUint10
import Derived.Shelf.Strconv.ParseUint10Empty
import Derived.Shelf.Strconv.ParseUint10Any
import Derived.Shelf.Strconv.ParseInt10
import Derived.Shelf.Strconv.AtoiLong
import Derived.Shelf.Strconv.AtoiInnerAll
import Derived.Shelf.Strconv.RangeError
import Derived.Shelf.Strconv.ToErrorRange
import Derived.Shelf.Strconv.AtoiAll
import Derived.Shelf.Strconv.ErrVarAll
import Derived.Shelf.Strings.Search1
import Derived.Shelf.Strings.Search2
import Derived.Shelf.Strings.Search3
import Derived.Shelf.Strings.Cut
import Derived.Shelf.Strings.Count
import Derived.Shelf.Strings.Shaped
import Derived.Shelf.Strings.Prefix
import Derived.Shelf.Strings.Split
import Derived.Shelf.Strings.SplitShaped
import Derived.Shelf.Unicode.Decode
import Derived.Shelf.Strings.RuneCount
import Derived.Shelf.Strings.Explode
import Derived.Shelf.Unicode.DecodeSlow
import Derived.Shelf.Unicode.DecodeAny
import Derived.WalkKit
import Derived.BigCall
namespace Go.Proofs.YtmdolfannbbipaaDoor
open Go Go.RowKit Go.Ev Go.Proofs
set_option linter.unusedVariables false

def T0 : Tab := [(3, ⟨1, 8, (.int .i64), [.v (.int .i64 0)]⟩),
  (4, ⟨1, 1, .bool, [.v (.bool false)]⟩),
  (5, ⟨1, 1, (.int .u8), [.v (.int .u8 0)]⟩),
  (9, ⟨1, 16, .string, [.v (.string ByteArray.empty)]⟩),
  (22, ⟨1, 24, (.slice 5), [.nil 1]⟩),
  (23, ⟨1, 24, (.slice 76), [.nil 4]⟩),
  (25, ⟨1, 24, (.slice 3), [.nil 1]⟩),
  (29, ⟨1, 8, (.int .i64), [.v (.int .i64 0)]⟩),
  (38, ⟨1, 24, (.slice 9), [.nil 1]⟩),
  (43, ⟨1, 8, (.pointer 92), [.v (.pointer none)]⟩),
  (76, ⟨4, 32, (.struct [(0, 3), (1, 3), (2, 3), (3, 3)]), [.v (.int .i64 0), .v (.int .i64 0), .v (.int .i64 0), .v (.int .i64 0)]⟩),
  (78, ⟨64, 64, (.array 64 4), [.v (.bool false), .v (.bool false), .v (.bool false), .v (.bool false), .v (.bool false), .v (.bool false), .v (.bool false), .v (.bool false), .v (.bool false), .v (.bool false), .v (.bool false), .v (.bool false), .v (.bool false), .v (.bool false), .v (.bool false), .v (.bool false), .v (.bool false), .v (.bool false), .v (.bool false), .v (.bool false), .v (.bool false), .v (.bool false), .v (.bool false), .v (.bool false), .v (.bool false), .v (.bool false), .v (.bool false), .v (.bool false), .v (.bool false), .v (.bool false), .v (.bool false), .v (.bool false), .v (.bool false), .v (.bool false), .v (.bool false), .v (.bool false), .v (.bool false), .v (.bool false), .v (.bool false), .v (.bool false), .v (.bool false), .v (.bool false), .v (.bool false), .v (.bool false), .v (.bool false), .v (.bool false), .v (.bool false), .v (.bool false), .v (.bool false), .v (.bool false), .v (.bool false), .v (.bool false), .v (.bool false), .v (.bool false), .v (.bool false), .v (.bool false), .v (.bool false), .v (.bool false), .v (.bool false), .v (.bool false), .v (.bool false), .v (.bool false), .v (.bool false), .v (.bool false)]⟩),
  (83, ⟨0, 0, (.struct []), []⟩),
  (85, ⟨1, 8, (.pointer 87), [.v (.pointer none)]⟩),
  (87, ⟨2, 40, (.struct [(0, 9), (1, 23)]), [.v (.string ByteArray.empty), .nil 4]⟩),
  (92, ⟨2, 32, (.struct [(0, 22), (1, 3)]), [.nil 1, .v (.int .i64 0)]⟩)]
theorem tab : TabOk Tryd.prog T0 := tabOk_of (by kernel_rfl)
theorem env : Env Tryd.prog T0 := ⟨tab, by kernel_rfl⟩

def e_Codes (x : T_Codes) : List C := [.lst 1 x.l_.length (encF (eI .u8) 0 x.l_), .v (.int .i64 x.at_)]
def e_RuleNode (x : T_RuleNode) : List C := [.v (.int .i64 x.Kind), .v (.int .i64 x.Cond), .v (.int .i64 x.Left), .v (.int .i64 x.Right)]
theorem sc_RuleNode : ∀ x : T_RuleNode, ∀ c ∈ e_RuleNode x, scalarC c := by
  intro x c hc
  simp only [e_RuleNode, List.mem_cons, List.not_mem_nil, or_false] at hc
  rcases hc with rfl | rfl | rfl | rfl <;> trivial
def e_reader (x : T_reader) : List C := [.v (.string x.text_), .lst 4 x.nodes_.length (encF e_RuleNode d_RuleNode x.nodes_)]
def ax_draw_New (a0 : (List Int)) : List X := [.c (.lst 1 a0.length (encF (eI .u8) 0 a0))]
def rx_draw_New (r : T_Codes) : X := .cell [.c (.lst 1 r.l_.length (encF (eI .u8) 0 r.l_)), .c (.v (.int .i64 r.at_))]
def px_draw_New (r : T_Codes) : List (List X) := []
def ax_draw_Codes_Next (a0 : T_Codes) (a1 : Int) : List X := [.cell [.c (.lst 1 a0.l_.length (encF (eI .u8) 0 a0.l_)), .c (.v (.int .i64 a0.at_))], .c (.v (.int .i64 a1))]
def rx_draw_Codes_Next (r : (Int × T_Codes)) : X := .c (.v (.int .i64 r.1))
def px_draw_Codes_Next (r : (Int × T_Codes)) : List (List X) := [[.c (.lst 1 r.2.l_.length (encF (eI .u8) 0 r.2.l_)), .c (.v (.int .i64 r.2.at_))]]
def ax_draw_Codes_One (a0 : T_Codes) (a1 : Int) : List X := [.cell [.c (.lst 1 a0.l_.length (encF (eI .u8) 0 a0.l_)), .c (.v (.int .i64 a0.at_))], .c (.v (.int .i64 a1))]
def rx_draw_Codes_One (r : (Bool × T_Codes)) : X := .c (.v (.bool r.1))
def px_draw_Codes_One (r : (Bool × T_Codes)) : List (List X) := [[.c (.lst 1 r.2.l_.length (encF (eI .u8) 0 r.2.l_)), .c (.v (.int .i64 r.2.at_))]]
def ax_draw_Codes_Range (a0 : T_Codes) (a1 : Int) (a2 : Int) : List X := [.cell [.c (.lst 1 a0.l_.length (encF (eI .u8) 0 a0.l_)), .c (.v (.int .i64 a0.at_))], .c (.v (.int .i64 a1)), .c (.v (.int .i64 a2))]
def rx_draw_Codes_Range (r : (Int × T_Codes)) : X := .c (.v (.int .i64 r.1))
def px_draw_Codes_Range (r : (Int × T_Codes)) : List (List X) := [[.c (.lst 1 r.2.l_.length (encF (eI .u8) 0 r.2.l_)), .c (.v (.int .i64 r.2.at_))]]
def ax_draw_Codes_Rule (a0 : T_Codes) (a1 : Int) (a2 : Int) : List X := [.cell [.c (.lst 1 a0.l_.length (encF (eI .u8) 0 a0.l_)), .c (.v (.int .i64 a0.at_))], .c (.v (.int .i64 a1)), .c (.v (.int .i64 a2))]
def rx_draw_Codes_Rule (r : ((List T_RuleNode) × T_Codes)) : X := .own 4 r.1.length (encF e_RuleNode d_RuleNode r.1)
def px_draw_Codes_Rule (r : ((List T_RuleNode) × T_Codes)) : List (List X) := [[.c (.lst 1 r.2.l_.length (encF (eI .u8) 0 r.2.l_)), .c (.v (.int .i64 r.2.at_))]]
def ax_draw_Codes_Truth (a0 : T_Codes) : List X := [.cell [.c (.lst 1 a0.l_.length (encF (eI .u8) 0 a0.l_)), .c (.v (.int .i64 a0.at_))]]
def rx_draw_Codes_Truth (r : (Int × T_Codes)) : X := .c (.v (.int .i64 r.1))
def px_draw_Codes_Truth (r : (Int × T_Codes)) : List (List X) := [[.c (.lst 1 r.2.l_.length (encF (eI .u8) 0 r.2.l_)), .c (.v (.int .i64 r.2.at_))]]
def ax_law19_values (a0 : (List Int)) : List X := [.c (.lst 1 a0.length (encF (eI .u8) 0 a0))]
def rx_law19_values (r : (List Int)) : X := .own 1 r.length (encF (eI .i64) 0 r)
def px_law19_values (r : (List Int)) : List (List X) := []
theorem flat_law19_values (r : (List Int)) : flatX (rx_law19_values r) ∧ flatXss (px_law19_values r) := ⟨(flat_enc (scI _) _ _), flss0⟩
def ax_rule_part (a0 : (List T_RuleNode)) (a1 : Int) : List X := [.c (.lst 4 a0.length (encF e_RuleNode d_RuleNode a0)), .c (.v (.int .i64 a1))]
def rx_rule_part (r : (Int × Int × Bool)) : X := .tup [.c (.v (.int .i64 r.1)), .c (.v (.int .i64 r.2.1)), .c (.v (.bool r.2.2))]
def px_rule_part (r : (Int × Int × Bool)) : List (List X) := []
theorem flat_rule_part (r : (Int × Int × Bool)) : flatX (rx_rule_part r) ∧ flatXss (px_rule_part r) := ⟨(flt (flv _) (flt (flv _) (flt (flv _) flt0))), flss0⟩
def ax_rule_right (a0 : (List T_RuleNode)) : List X := [.c (.lst 4 a0.length (encF e_RuleNode d_RuleNode a0))]
def rx_rule_right (r : Bool) : X := .c (.v (.bool r))
def px_rule_right (r : Bool) : List (List X) := []
theorem flat_rule_right (r : Bool) : flatX (rx_rule_right r) ∧ flatXss (px_rule_right r) := ⟨(flv _), flss0⟩
def ax_strconv_Itoa (a0 : Int) : List X := [.c (.v (.int .i64 a0))]
def rx_strconv_Itoa (r : ByteArray) : X := .c (.v (.string r))
def px_strconv_Itoa (r : ByteArray) : List (List X) := []
theorem flat_strconv_Itoa (r : ByteArray) : flatX (rx_strconv_Itoa r) ∧ flatXss (px_strconv_Itoa r) := ⟨(flv _), flss0⟩
def ax_rule_Print (a0 : (List T_RuleNode)) : List X := [.c (.lst 4 a0.length (encF e_RuleNode d_RuleNode a0))]
def rx_rule_Print (r : (ByteArray × Int)) : X := .tup [.c (.v (.string r.1)), .c (.v (.int .i64 r.2))]
def px_rule_Print (r : (ByteArray × Int)) : List (List X) := []
theorem flat_rule_Print (r : (ByteArray × Int)) : flatX (rx_rule_Print r) ∧ flatXss (px_rule_Print r) := ⟨(flt (flv _) (flt (flv _) flt0)), flss0⟩
def ax_rule_reader_need (a0 : T_reader) (a1 : Bool) : List X := [.cell [.c (.v (.string a0.text_)), .own 4 a0.nodes_.length (encF e_RuleNode d_RuleNode a0.nodes_)], .c (.v (.bool a1))]
def rx_rule_reader_need (r : T_reader) : X := .tup []
def px_rule_reader_need (r : T_reader) : List (List X) := [[.c (.v (.string r.text_)), .own 4 r.nodes_.length (encF e_RuleNode d_RuleNode r.nodes_)]]
theorem flat_rule_reader_need (r : T_reader) : flatX (rx_rule_reader_need r) ∧ flatXss (px_rule_reader_need r) := ⟨flt0, (flss (fls (flv _) (fls (flat_enc sc_RuleNode _ _) fls0)) flss0)⟩
def ax_strings_CutPrefix (a0 : ByteArray) (a1 : ByteArray) : List X := [.c (.v (.string a0)), .c (.v (.string a1))]
def rx_strings_CutPrefix (r : (ByteArray × Bool)) : X := .tup [.c (.v (.string r.1)), .c (.v (.bool r.2))]
def px_strings_CutPrefix (r : (ByteArray × Bool)) : List (List X) := []
theorem flat_strings_CutPrefix (r : (ByteArray × Bool)) : flatX (rx_strings_CutPrefix r) ∧ flatXss (px_strings_CutPrefix r) := ⟨(flt (flv _) (flt (flv _) flt0)), flss0⟩
def ax_rule_reader_take (a0 : T_reader) (a1 : ByteArray) : List X := [.cell [.c (.v (.string a0.text_)), .own 4 a0.nodes_.length (encF e_RuleNode d_RuleNode a0.nodes_)], .c (.v (.string a1))]
def rx_rule_reader_take (r : (Bool × T_reader)) : X := .c (.v (.bool r.1))
def px_rule_reader_take (r : (Bool × T_reader)) : List (List X) := [[.c (.v (.string r.2.text_)), .own 4 r.2.nodes_.length (encF e_RuleNode d_RuleNode r.2.nodes_)]]
theorem flat_rule_reader_take (r : (Bool × T_reader)) : flatX (rx_rule_reader_take r) ∧ flatXss (px_rule_reader_take r) := ⟨(flv _), (flss (fls (flv _) (fls (flat_enc sc_RuleNode _ _) fls0)) flss0)⟩
def ax_rule_reader_add (a0 : T_reader) (a1 : T_RuleNode) : List X := [.cell [.c (.v (.string a0.text_)), .own 4 a0.nodes_.length (encF e_RuleNode d_RuleNode a0.nodes_)], .agg [.c (.v (.int .i64 a1.Kind)), .c (.v (.int .i64 a1.Cond)), .c (.v (.int .i64 a1.Left)), .c (.v (.int .i64 a1.Right))]]
def rx_rule_reader_add (r : (Int × T_reader)) : X := .c (.v (.int .i64 r.1))
def px_rule_reader_add (r : (Int × T_reader)) : List (List X) := [[.c (.v (.string r.2.text_)), .own 4 r.2.nodes_.length (encF e_RuleNode d_RuleNode r.2.nodes_)]]
theorem flat_rule_reader_add (r : (Int × T_reader)) : flatX (rx_rule_reader_add r) ∧ flatXss (px_rule_reader_add r) := ⟨(flv _), (flss (fls (flv _) (fls (flat_enc sc_RuleNode _ _) fls0)) flss0)⟩
def ax_strconv_Atoi (a0 : ByteArray) : List X := [.c (.v (.string a0))]
def rx_strconv_Atoi (r : (Int × Bool)) : X := .tup [.c (.v (.int .i64 r.1)), .c (eE r.2)]
def px_strconv_Atoi (r : (Int × Bool)) : List (List X) := []
def ax_rule_reader_read (a0 : T_reader) (a1 : Int) : List X := [.cell [.c (.v (.string a0.text_)), .own 4 a0.nodes_.length (encF e_RuleNode d_RuleNode a0.nodes_)], .c (.v (.int .i64 a1))]
def rx_rule_reader_read (r : (Int × T_reader)) : X := .c (.v (.int .i64 r.1))
def px_rule_reader_read (r : (Int × T_reader)) : List (List X) := [[.c (.v (.string r.2.text_)), .own 4 r.2.nodes_.length (encF e_RuleNode d_RuleNode r.2.nodes_)]]
theorem flat_rule_reader_read (r : (Int × T_reader)) : flatX (rx_rule_reader_read r) ∧ flatXss (px_rule_reader_read r) := ⟨(flv _), (flss (fls (flv _) (fls (flat_enc sc_RuleNode _ _) fls0)) flss0)⟩
def ax_rule_Parse (a0 : ByteArray) : List X := [.c (.v (.string a0))]
def rx_rule_Parse (r : ((List T_RuleNode) × Int)) : X := .tup [.own 4 r.1.length (encF e_RuleNode d_RuleNode r.1), .c (.v (.int .i64 r.2))]
def px_rule_Parse (r : ((List T_RuleNode) × Int)) : List (List X) := []
theorem flat_rule_Parse (r : ((List T_RuleNode) × Int)) : flatX (rx_rule_Parse r) ∧ flatXss (px_rule_Parse r) := ⟨(flt (flat_enc sc_RuleNode _ _) (flt (flv _) flt0)), flss0⟩
def ax_rule_Eval (a0 : (List T_RuleNode)) (a1 : (List Int)) : List X := [.c (.lst 4 a0.length (encF e_RuleNode d_RuleNode a0)), .c (.lst 1 a1.length (encF (eI .i64) 0 a1))]
def rx_rule_Eval (r : Int) : X := .c (.v (.int .i64 r))
def px_rule_Eval (r : Int) : List (List X) := []
theorem flat_rule_Eval (r : Int) : flatX (rx_rule_Eval r) ∧ flatXss (px_rule_Eval r) := ⟨(flv _), flss0⟩
def ax_rule_Check (a0 : (List T_RuleNode)) (a1 : Int) : List X := [.c (.lst 4 a0.length (encF e_RuleNode d_RuleNode a0)), .c (.v (.int .i64 a1))]
def rx_rule_Check (r : Int) : X := .c (.v (.int .i64 r))
def px_rule_Check (r : Int) : List (List X) := []
theorem flat_rule_Check (r : Int) : flatX (rx_rule_Check r) ∧ flatXss (px_rule_Check r) := ⟨(flv _), flss0⟩
def ax_rule_Uses (a0 : (List T_RuleNode)) : List X := [.c (.lst 4 a0.length (encF e_RuleNode d_RuleNode a0))]
def rx_rule_Uses (r : (List Int)) : X := .own 1 r.length (encF (eI .i64) 0 r)
def px_rule_Uses (r : (List Int)) : List (List X) := []
theorem flat_rule_Uses (r : (List Int)) : flatX (rx_rule_Uses r) ∧ flatXss (px_rule_Uses r) := ⟨(flat_enc (scI _) _ _), flss0⟩
def ax_ref01_Ints (a0 : (List Int)) (a1 : (List Int)) : List X := [.c (.lst 1 a0.length (encF (eI .i64) 0 a0)), .c (.lst 1 a1.length (encF (eI .i64) 0 a1))]
def rx_ref01_Ints (r : Bool) : X := .c (.v (.bool r))
def px_ref01_Ints (r : Bool) : List (List X) := []
theorem flat_ref01_Ints (r : Bool) : flatX (rx_ref01_Ints r) ∧ flatXss (px_ref01_Ints r) := ⟨(flv _), flss0⟩
def rx_law19_awake (r : Bool) : X := .c (.v (.bool r))
def px_law19_awake (r : Bool) : List (List X) := []
theorem flat_law19_awake (r : Bool) : flatX (rx_law19_awake r) ∧ flatXss (px_law19_awake r) := ⟨(flv _), flss0⟩
def ax_law19_RuleLaws (a0 : (List Int)) (a1 : (List Int)) : List X := [.c (.lst 1 a0.length (encF (eI .u8) 0 a0)), .c (.lst 1 a1.length (encF (eI .u8) 0 a1))]
def rx_law19_RuleLaws (r : Bool) : X := .c (.v (.bool r))
def px_law19_RuleLaws (r : Bool) : List (List X) := []
theorem flat_law19_RuleLaws (r : Bool) : flatX (rx_law19_RuleLaws r) ∧ flatXss (px_law19_RuleLaws r) := ⟨(flv _), flss0⟩
end Go.Proofs.YtmdolfannbbipaaDoor
namespace Go.Proofs.YtmdolfannbbipaaDoor
open Go Go.RowKit Go.Ev Go.Proofs
set_option linter.unusedVariables false

set_option maxRecDepth 100000
theorem ok_rule_part : ∀ (K : Nat) (a0 : (List T_RuleNode)) (a1 : Int) (r : (Int × Int × Bool)) (h : rule_part K a0 a1 = some r), FnOk Tryd.prog 73 (ax_rule_part a0 a1) (rx_rule_part r) (px_rule_part r) := by
  intro K
  induction K with
  | zero => intro a0 a1 r h; cases h
  | succ K hrec =>
    intro a0 a1 r h
    replace h : rule_part_F K (rule_part K) a0 a1 = some r := h
    generalize rule_part K = rec_ at h hrec
    refine ⟨⟨Tryd.f73, Tryd.func73, by kernel_rfl, by kernel_rfl⟩, ?_⟩
    unfold rule_part_F at h
    refine fn_ok env Tryd.func73 rfl ⟨122, [(0, .c (.lst 4 a0.length (encF e_RuleNode d_RuleNode a0))), (1, .c (.v (.int .i64 a1)))], [], []⟩ [] (by kernel_rfl) fun X => ?_
    refine tri_reg env [] 1 1024 [.keep [0, 1] [] []] ⟨122, [(0, .c (.lst 4 a0.length (encF e_RuleNode d_RuleNode a0))), (1, .c (.v (.int .i64 a1)))], [], []⟩ [] (by kernel_rfl) trivial ?_
    refine tri_seq ?_
    refine tri_reg env [] 2 1024 [.keep [0, 1, 17] [] []] ⟨122, [(0, .c (.lst 4 a0.length (encF e_RuleNode d_RuleNode a0))), (1, .c (.v (.int .i64 a1))), (17, .c (.v (.bool (decide (a1 < 0)))))], [], []⟩ [True] (by kernel_rfl) ⟨trivial, trivial⟩ ?_
    refine tri_cond (decide (a1 < 0)) (by kernel_rfl) (fun e1 => ?_) (fun e1 => ?_)
    · replace h := cnd_t h e1
      refine tri_reg env [] 3 1024 [.keep [4, 5, 6] [] []] ⟨122, [(4, .c (.v (.int .i64 0))), (5, .c (.v (.int .i64 0))), (6, .c (.v (.bool false)))], [], []⟩ [] (by kernel_rfl) trivial ?_
      refine tri_ret ?_
      refine thenR ?_
      rw [some_inv h]
      exact ⟨[], by kernel_rfl, trivial⟩
    · replace h := cnd_f h e1
      refine tri_skip ?_
      refine thenN ?_
      obtain ⟨q2, h⟩ := ck_inv h
      refine tri_reg env [] 4 1024 [.keep [0, 1, 7] [(4004, 0)] []] ⟨122, [(0, .c (.lst 4 a0.length (encF e_RuleNode d_RuleNode a0))), (1, .c (.v (.int .i64 a1))), (7, .c (.pvar (4004, 0) 0))], [((4004, 0), (e_RuleNode (a0.getD a1.toNat d_RuleNode)))], []⟩ [(0 ≤ a1 ∧ a1 < ((a0.length : Nat) : Int))] (by kernel_rfl) ⟨q2, trivial⟩ ?_
      refine tri_seq ?_
      refine tri_reg env [] 5 1024 [.keep [0, 1, 7, 23] [(4004, 0)] []] ⟨122, [(0, .c (.lst 4 a0.length (encF e_RuleNode d_RuleNode a0))), (1, .c (.v (.int .i64 a1))), (7, .c (.pvar (4004, 0) 0)), (23, .c (.v (.int .i64 (a0.getD a1.toNat d_RuleNode).Kind)))], [((4004, 0), (e_RuleNode (a0.getD a1.toNat d_RuleNode)))], []⟩ [] (by kernel_rfl) trivial ?_
      refine tri_block ?_
      refine tri_reg env [] 6 1024 [.keep [0, 1, 7, 23, 24] [(4004, 0)] []] ⟨122, [(0, .c (.lst 4 a0.length (encF e_RuleNode d_RuleNode a0))), (1, .c (.v (.int .i64 a1))), (7, .c (.pvar (4004, 0) 0)), (23, .c (.v (.int .i64 (a0.getD a1.toNat d_RuleNode).Kind))), (24, .c (.v (.bool ((a0.getD a1.toNat d_RuleNode).Kind == 1))))], [((4004, 0), (e_RuleNode (a0.getD a1.toNat d_RuleNode)))], []⟩ [True] (by kernel_rfl) ⟨trivial, trivial⟩ ?_
      refine tri_cond ((a0.getD a1.toNat d_RuleNode).Kind == 1) (by kernel_rfl) (fun e3 => ?_) (fun e3 => ?_)
      · replace h := cnd_t h e3
        refine cnd_split h (fun e4 h => ?_) (fun e4 h => ?_)
        · refine cnd_split h (fun e5 h => ?_) (fun e5 h => ?_)
          · refine cnd_split h (fun e6 h => ?_) (fun e6 h => ?_)
            · refine tri_reg env [(4, .b true), (8, .b true), (9, .b true), (13, .b true), (14, .b true), (18, .b true)] 7 1024 [.keep [4, 5, 6] [] []] ⟨122, [(4, .c (.v (.int .i64 a1))), (5, .c (.v (.int .i64 1))), (6, .c (.v (.bool (decide ((a0.getD a1.toNat d_RuleNode).Cond < 64)))))], [], []⟩ [True, (((a0.getD a1.toNat d_RuleNode).Left == 0) = true), (((a0.getD a1.toNat d_RuleNode).Left == 0) = true), (((a0.getD a1.toNat d_RuleNode).Left == 0) = true), True, (((a0.getD a1.toNat d_RuleNode).Left == 0) = true), (((a0.getD a1.toNat d_RuleNode).Right == 0) = true), (((a0.getD a1.toNat d_RuleNode).Right == 0) = true), (((a0.getD a1.toNat d_RuleNode).Right == 0) = true), True, (((a0.getD a1.toNat d_RuleNode).Right == 0) = true), ((decide ((a0.getD a1.toNat d_RuleNode).Cond ≥ 0)) = true), ((decide ((a0.getD a1.toNat d_RuleNode).Cond ≥ 0)) = true), ((decide ((a0.getD a1.toNat d_RuleNode).Cond ≥ 0)) = true), True, ((decide ((a0.getD a1.toNat d_RuleNode).Cond ≥ 0)) = true)] (by kernel_rfl) ⟨trivial, e4, e4, e4, trivial, e4, e5, e5, e5, trivial, e5, e6, e6, e6, trivial, e6, trivial⟩ ?_
              refine tri_ret ?_
              refine inBR ?_
              refine thenR ?_
              rw [some_inv h]
              exact ⟨[], by kernel_rfl, trivial⟩
            · refine tri_reg env [(4, .b true), (8, .b true), (9, .b true), (13, .b true), (14, .b false), (18, .b false)] 7 1024 [.keep [4, 5, 6] [] []] ⟨122, [(4, .c (.v (.int .i64 a1))), (5, .c (.v (.int .i64 1))), (6, .c (.v (.bool false)))], [], []⟩ [True, (((a0.getD a1.toNat d_RuleNode).Left == 0) = true), (((a0.getD a1.toNat d_RuleNode).Left == 0) = true), (((a0.getD a1.toNat d_RuleNode).Left == 0) = true), True, (((a0.getD a1.toNat d_RuleNode).Left == 0) = true), (((a0.getD a1.toNat d_RuleNode).Right == 0) = true), (((a0.getD a1.toNat d_RuleNode).Right == 0) = true), (((a0.getD a1.toNat d_RuleNode).Right == 0) = true), True, (((a0.getD a1.toNat d_RuleNode).Right == 0) = true), ((decide ((a0.getD a1.toNat d_RuleNode).Cond ≥ 0)) = false), ((decide ((a0.getD a1.toNat d_RuleNode).Cond ≥ 0)) = false), ((decide ((a0.getD a1.toNat d_RuleNode).Cond ≥ 0)) = false), ((decide ((a0.getD a1.toNat d_RuleNode).Cond ≥ 0)) = false)] (by kernel_rfl) ⟨trivial, e4, e4, e4, trivial, e4, e5, e5, e5, trivial, e5, e6, e6, e6, e6, trivial⟩ ?_
              refine tri_ret ?_
              refine inBR ?_
              refine thenR ?_
              rw [some_inv h]
              exact ⟨[], by kernel_rfl, trivial⟩
          · refine tri_reg env [(4, .b true), (8, .b true), (9, .b false), (13, .b false), (14, .b false), (18, .b false)] 7 1024 [.keep [4, 5, 6] [] []] ⟨122, [(4, .c (.v (.int .i64 a1))), (5, .c (.v (.int .i64 1))), (6, .c (.v (.bool false)))], [], []⟩ [True, (((a0.getD a1.toNat d_RuleNode).Left == 0) = true), (((a0.getD a1.toNat d_RuleNode).Left == 0) = true), (((a0.getD a1.toNat d_RuleNode).Left == 0) = true), True, (((a0.getD a1.toNat d_RuleNode).Left == 0) = true), (((a0.getD a1.toNat d_RuleNode).Right == 0) = false), (((a0.getD a1.toNat d_RuleNode).Right == 0) = false), (((a0.getD a1.toNat d_RuleNode).Right == 0) = false), (((a0.getD a1.toNat d_RuleNode).Right == 0) = false), (false = false), (false = false), (false = false), (false = false)] (by kernel_rfl) ⟨trivial, e4, e4, e4, trivial, e4, e5, e5, e5, e5, rfl, rfl, rfl, rfl, trivial⟩ ?_
            refine tri_ret ?_
            refine inBR ?_
            refine thenR ?_
            rw [some_inv h]
            exact ⟨[], by kernel_rfl, trivial⟩
        · refine tri_reg env [(4, .b false), (8, .b false), (9, .b false), (13, .b false), (14, .b false), (18, .b false)] 7 1024 [.keep [4, 5, 6] [] []] ⟨122, [(4, .c (.v (.int .i64 a1))), (5, .c (.v (.int .i64 1))), (6, .c (.v (.bool false)))], [], []⟩ [True, (((a0.getD a1.toNat d_RuleNode).Left == 0) = false), (((a0.getD a1.toNat d_RuleNode).Left == 0) = false), (((a0.getD a1.toNat d_RuleNode).Left == 0) = false), (((a0.getD a1.toNat d_RuleNode).Left == 0) = false), (false = false), (false = false), (false = false), (false = false), (false = false), (false = false), (false = false), (false = false)] (by kernel_rfl) ⟨trivial, e4, e4, e4, e4, rfl, rfl, rfl, rfl, rfl, rfl, rfl, rfl, trivial⟩ ?_
          refine tri_ret ?_
          refine inBR ?_
          refine thenR ?_
          rw [some_inv h]
          exact ⟨[], by kernel_rfl, trivial⟩
      · replace h := cnd_f h e3
        refine tri_reg env [] 8 1024 [.keep [0, 1, 7, 23, 45] [(4004, 0)] []] ⟨122, [(0, .c (.lst 4 a0.length (encF e_RuleNode d_RuleNode a0))), (1, .c (.v (.int .i64 a1))), (7, .c (.pvar (4004, 0) 0)), (23, .c (.v (.int .i64 (a0.getD a1.toNat d_RuleNode).Kind))), (45, .c (.v (.bool ((a0.getD a1.toNat d_RuleNode).Kind == 2))))], [((4004, 0), (e_RuleNode (a0.getD a1.toNat d_RuleNode)))], []⟩ [True] (by kernel_rfl) ⟨trivial, trivial⟩ ?_
        refine tri_cond ((a0.getD a1.toNat d_RuleNode).Kind == 2) (by kernel_rfl) (fun e7 => ?_) (fun e7 => ?_)
        · replace h := cnd_t h e7
          obtain ⟨y8, c9, h⟩ := bnd_inv h
          refine tri_reg env [(3, .call ⟨(ax_rule_part a0 (IntKind.wrap .i64 (a1 - 1))), [false, false], rx_rule_part y8, px_rule_part y8, true⟩)] 9 1024 [.keep [1, 7, 8, 9, 10] [(4004, 0)] []] ⟨122, [(1, .c (.v (.int .i64 a1))), (7, .c (.pvar (4004, 0) 0)), (8, .c (.v (.int .i64 y8.1))), (9, .c (.v (.int .i64 y8.2.1))), (10, .c (.v (.bool y8.2.2)))], [((4004, 0), (e_RuleNode (a0.getD a1.toNat d_RuleNode)))], []⟩ [True, (EqXs (ax_rule_part a0 (IntKind.wrap .i64 (a1 - 1))) (ax_rule_part a0 (IntKind.wrap .i64 (a1 - 1)))), (FnOk Tryd.prog 73 (ax_rule_part a0 (IntKind.wrap .i64 (a1 - 1))) (rx_rule_part y8) (px_rule_part y8))] (by kernel_rfl) ⟨trivial, (eqs (eqr _) (eqs (eqr _) eqs0)), (hrec a0 (IntKind.wrap .i64 (a1 - 1)) y8 c9), trivial⟩ ?_
          refine cnd_split h (fun e10 h => ?_) (fun e10 h => ?_)
          · refine cnd_split h (fun e11 h => ?_) (fun e11 h => ?_)
            · refine cnd_split h (fun e12 h => ?_) (fun e12 h => ?_)
              · refine tri_reg env [(4, .b true), (8, .b true), (9, .b true), (13, .b true), (14, .b true), (20, .b true)] 10 1024 [.keep [4, 5, 6] [] []] ⟨122, [(4, .c (.v (.int .i64 y8.1))), (5, .c (.v (.int .i64 (IntKind.wrap .i64 (y8.2.1 + 1))))), (6, .c (.v (.bool ((a0.getD a1.toNat d_RuleNode).Left == (IntKind.wrap .i64 (a1 - 1))))))], [], []⟩ [True, (y8.2.2 = true), (y8.2.2 = true), (y8.2.2 = true), True, (y8.2.2 = true), (((a0.getD a1.toNat d_RuleNode).Cond == 0) = true), (((a0.getD a1.toNat d_RuleNode).Cond == 0) = true), (((a0.getD a1.toNat d_RuleNode).Cond == 0) = true), True, (((a0.getD a1.toNat d_RuleNode).Cond == 0) = true), (((a0.getD a1.toNat d_RuleNode).Right == 0) = true), (((a0.getD a1.toNat d_RuleNode).Right == 0) = true), (((a0.getD a1.toNat d_RuleNode).Right == 0) = true), (((a0.getD a1.toNat d_RuleNode).Right == 0) = true), True, (((a0.getD a1.toNat d_RuleNode).Right == 0) = true), True, (((a0.getD a1.toNat d_RuleNode).Right == 0) = true)] (by kernel_rfl) ⟨trivial, e10, e10, e10, trivial, e10, e11, e11, e11, trivial, e11, e12, e12, e12, e12, trivial, e12, trivial, e12, trivial⟩ ?_
                refine tri_ret ?_
                refine inBR ?_
                refine thenR ?_
                rw [some_inv h]
                exact ⟨[], by kernel_rfl, trivial⟩
              · refine tri_reg env [(4, .b true), (8, .b true), (9, .b true), (13, .b true), (14, .b false), (20, .b false)] 10 1024 [.keep [4, 5, 6] [] []] ⟨122, [(4, .c (.v (.int .i64 y8.1))), (5, .c (.v (.int .i64 (IntKind.wrap .i64 (y8.2.1 + 1))))), (6, .c (.v (.bool false)))], [], []⟩ [True, (y8.2.2 = true), (y8.2.2 = true), (y8.2.2 = true), True, (y8.2.2 = true), (((a0.getD a1.toNat d_RuleNode).Cond == 0) = true), (((a0.getD a1.toNat d_RuleNode).Cond == 0) = true), (((a0.getD a1.toNat d_RuleNode).Cond == 0) = true), True, (((a0.getD a1.toNat d_RuleNode).Cond == 0) = true), (((a0.getD a1.toNat d_RuleNode).Right == 0) = false), (((a0.getD a1.toNat d_RuleNode).Right == 0) = false), (((a0.getD a1.toNat d_RuleNode).Right == 0) = false), (((a0.getD a1.toNat d_RuleNode).Right == 0) = false), (((a0.getD a1.toNat d_RuleNode).Right == 0) = false), (((a0.getD a1.toNat d_RuleNode).Right == 0) = false)] (by kernel_rfl) ⟨trivial, e10, e10, e10, trivial, e10, e11, e11, e11, trivial, e11, e12, e12, e12, e12, e12, e12, trivial⟩ ?_
                refine tri_ret ?_
                refine inBR ?_
                refine thenR ?_
                rw [some_inv h]
                exact ⟨[], by kernel_rfl, trivial⟩
            · refine tri_reg env [(4, .b true), (8, .b true), (9, .b false), (13, .b false), (14, .b false), (20, .b false)] 10 1024 [.keep [4, 5, 6] [] []] ⟨122, [(4, .c (.v (.int .i64 y8.1))), (5, .c (.v (.int .i64 (IntKind.wrap .i64 (y8.2.1 + 1))))), (6, .c (.v (.bool false)))], [], []⟩ [True, (y8.2.2 = true), (y8.2.2 = true), (y8.2.2 = true), True, (y8.2.2 = true), (((a0.getD a1.toNat d_RuleNode).Cond == 0) = false), (((a0.getD a1.toNat d_RuleNode).Cond == 0) = false), (((a0.getD a1.toNat d_RuleNode).Cond == 0) = false), (((a0.getD a1.toNat d_RuleNode).Cond == 0) = false), (false = false), (false = false), (false = false), (false = false), (false = false), (false = false)] (by kernel_rfl) ⟨trivial, e10, e10, e10, trivial, e10, e11, e11, e11, e11, rfl, rfl, rfl, rfl, rfl, rfl, trivial⟩ ?_
              refine tri_ret ?_
              refine inBR ?_
              refine thenR ?_
              rw [some_inv h]
              exact ⟨[], by kernel_rfl, trivial⟩
          · refine tri_reg env [(4, .b false), (8, .b false), (9, .b false), (13, .b false), (14, .b false), (20, .b false)] 10 1024 [.keep [4, 5, 6] [] []] ⟨122, [(4, .c (.v (.int .i64 y8.1))), (5, .c (.v (.int .i64 (IntKind.wrap .i64 (y8.2.1 + 1))))), (6, .c (.v (.bool false)))], [], []⟩ [True, (y8.2.2 = false), (y8.2.2 = false), (y8.2.2 = false), (y8.2.2 = false), (false = false), (false = false), (false = false), (false = false), (false = false), (false = false), (false = false), (false = false), (false = false), (false = false)] (by kernel_rfl) ⟨trivial, e10, e10, e10, e10, rfl, rfl, rfl, rfl, rfl, rfl, rfl, rfl, rfl, rfl, trivial⟩ ?_
            refine tri_ret ?_
            refine inBR ?_
            refine thenR ?_
            rw [some_inv h]
            exact ⟨[], by kernel_rfl, trivial⟩
        · replace h := cnd_f h e7
          refine tri_joinC (fun (v1 : Bool) => ⟨122, [(0, .c (.lst 4 a0.length (encF e_RuleNode d_RuleNode a0))), (1, .c (.v (.int .i64 a1))), (7, .c (.pvar (4004, 0) 0)), (76, .c (.v (.bool v1)))], [((4004, 0), (e_RuleNode (a0.getD a1.toNat d_RuleNode)))], []⟩) h (fun v1 h => ?_) (fun j1 h => ?_)
          · refine tri_cond v1 (by kernel_rfl) (fun e13 => ?_) (fun e13 => ?_)
            · replace h := cnd_t h e13
              obtain ⟨y14, c15, h⟩ := bnd_inv h
              refine tri_reg env [(3, .call ⟨(ax_rule_part a0 (IntKind.wrap .i64 (a1 - 1))), [false, false], rx_rule_part y14, px_rule_part y14, true⟩)] 13 1024 [.keep [0, 1, 7, 11, 12, 13] [(4004, 0)] []] ⟨122, [(0, .c (.lst 4 a0.length (encF e_RuleNode d_RuleNode a0))), (1, .c (.v (.int .i64 a1))), (7, .c (.pvar (4004, 0) 0)), (11, .c (.v (.int .i64 y14.1))), (12, .c (.v (.int .i64 y14.2.1))), (13, .c (.v (.bool y14.2.2)))], [((4004, 0), (e_RuleNode (a0.getD a1.toNat d_RuleNode)))], []⟩ [True, (EqXs (ax_rule_part a0 (IntKind.wrap .i64 (a1 - 1))) (ax_rule_part a0 (IntKind.wrap .i64 (a1 - 1)))), (FnOk Tryd.prog 73 (ax_rule_part a0 (IntKind.wrap .i64 (a1 - 1))) (rx_rule_part y14) (px_rule_part y14))] (by kernel_rfl) ⟨trivial, (eqs (eqr _) (eqs (eqr _) eqs0)), (hrec a0 (IntKind.wrap .i64 (a1 - 1)) y14 c15), trivial⟩ ?_
              refine tri_seq ?_
              refine cnd_split h (fun e16 h => ?_) (fun e16 h => ?_)
              · refine tri_reg env [(2, .b true), (6, .b true), (7, .b true), (13, .b true), (14, .b true), (20, .b true)] 14 1024 [.keep [0, 11, 12, 107] [] []] ⟨122, [(0, .c (.lst 4 a0.length (encF e_RuleNode d_RuleNode a0))), (11, .c (.v (.int .i64 y14.1))), (12, .c (.v (.int .i64 y14.2.1))), (107, .c (.v (.bool true)))], [], []⟩ [((!y14.2.2) = true), ((!y14.2.2) = true), ((!y14.2.2) = true), ((!y14.2.2) = true), (true = true), (true = true), (true = true), (true = true), (true = true), (true = true), (true = true), (true = true), (true = true), (true = true), (true = true), (true = true)] (by kernel_rfl) ⟨e16, e16, e16, e16, rfl, rfl, rfl, rfl, rfl, rfl, rfl, rfl, rfl, rfl, rfl, rfl, trivial⟩ ?_
                refine tri_cond true (by kernel_rfl) (fun _ => ?_) (fun e => by cases e)
                refine tri_reg env [] 15 1024 [.keep [4, 5, 6] [] []] ⟨122, [(4, .c (.v (.int .i64 0))), (5, .c (.v (.int .i64 0))), (6, .c (.v (.bool false)))], [], []⟩ [] (by kernel_rfl) trivial ?_
                refine tri_ret ?_
                refine thenR ?_
                refine inBR ?_
                refine thenR ?_
                rw [some_inv h]
                exact ⟨[], by kernel_rfl, trivial⟩
              · refine cnd_split h (fun e18 h => ?_) (fun e18 h => ?_)
                · refine tri_reg env [(2, .b false), (6, .b false), (7, .b true), (13, .b true), (14, .b true), (20, .b true)] 14 1024 [.keep [0, 11, 12, 107] [] []] ⟨122, [(0, .c (.lst 4 a0.length (encF e_RuleNode d_RuleNode a0))), (11, .c (.v (.int .i64 y14.1))), (12, .c (.v (.int .i64 y14.2.1))), (107, .c (.v (.bool true)))], [], []⟩ [((!y14.2.2) = false), ((!y14.2.2) = false), ((!y14.2.2) = false), True, ((!y14.2.2) = false), (((a0.getD a1.toNat d_RuleNode).Cond != 0) = true), (((a0.getD a1.toNat d_RuleNode).Cond != 0) = true), (((a0.getD a1.toNat d_RuleNode).Cond != 0) = true), (((a0.getD a1.toNat d_RuleNode).Cond != 0) = true), (((a0.getD a1.toNat d_RuleNode).Cond != 0) = true), (((a0.getD a1.toNat d_RuleNode).Cond != 0) = true), (true = true), (true = true), (true = true), (true = true), (true = true), (true = true)] (by kernel_rfl) ⟨e16, e16, e16, trivial, e16, e18, e18, e18, e18, e18, e18, rfl, rfl, rfl, rfl, rfl, rfl, trivial⟩ ?_
                  refine tri_cond true (by kernel_rfl) (fun _ => ?_) (fun e => by cases e)
                  refine tri_reg env [] 15 1024 [.keep [4, 5, 6] [] []] ⟨122, [(4, .c (.v (.int .i64 0))), (5, .c (.v (.int .i64 0))), (6, .c (.v (.bool false)))], [], []⟩ [] (by kernel_rfl) trivial ?_
                  refine tri_ret ?_
                  refine thenR ?_
                  refine inBR ?_
                  refine thenR ?_
                  rw [some_inv h]
                  exact ⟨[], by kernel_rfl, trivial⟩
                · refine cnd_split h (fun e20 h => ?_) (fun e20 h => ?_)
                  · refine tri_reg env [(2, .b false), (6, .b false), (7, .b false), (13, .b false), (14, .b true), (20, .b true)] 14 1024 [.keep [0, 11, 12, 107] [] []] ⟨122, [(0, .c (.lst 4 a0.length (encF e_RuleNode d_RuleNode a0))), (11, .c (.v (.int .i64 y14.1))), (12, .c (.v (.int .i64 y14.2.1))), (107, .c (.v (.bool true)))], [], []⟩ [((!y14.2.2) = false), ((!y14.2.2) = false), ((!y14.2.2) = false), True, ((!y14.2.2) = false), (((a0.getD a1.toNat d_RuleNode).Cond != 0) = false), (((a0.getD a1.toNat d_RuleNode).Cond != 0) = false), (((a0.getD a1.toNat d_RuleNode).Cond != 0) = false), (((a0.getD a1.toNat d_RuleNode).Cond != 0) = false), True, (((a0.getD a1.toNat d_RuleNode).Cond != 0) = false), True, (((a0.getD a1.toNat d_RuleNode).Cond != 0) = false), (((a0.getD a1.toNat d_RuleNode).Right != (IntKind.wrap .i64 (a1 - 1))) = true), (((a0.getD a1.toNat d_RuleNode).Right != (IntKind.wrap .i64 (a1 - 1))) = true), (((a0.getD a1.toNat d_RuleNode).Right != (IntKind.wrap .i64 (a1 - 1))) = true), (((a0.getD a1.toNat d_RuleNode).Right != (IntKind.wrap .i64 (a1 - 1))) = true), (((a0.getD a1.toNat d_RuleNode).Right != (IntKind.wrap .i64 (a1 - 1))) = true), (((a0.getD a1.toNat d_RuleNode).Right != (IntKind.wrap .i64 (a1 - 1))) = true)] (by kernel_rfl) ⟨e16, e16, e16, trivial, e16, e18, e18, e18, e18, trivial, e18, trivial, e18, e20, e20, e20, e20, e20, e20, trivial⟩ ?_
                    refine tri_cond true (by kernel_rfl) (fun _ => ?_) (fun e => by cases e)
                    refine tri_reg env [] 15 1024 [.keep [4, 5, 6] [] []] ⟨122, [(4, .c (.v (.int .i64 0))), (5, .c (.v (.int .i64 0))), (6, .c (.v (.bool false)))], [], []⟩ [] (by kernel_rfl) trivial ?_
                    refine tri_ret ?_
                    refine thenR ?_
                    refine inBR ?_
                    refine thenR ?_
                    rw [some_inv h]
                    exact ⟨[], by kernel_rfl, trivial⟩
                  · refine tri_reg env [(2, .b false), (6, .b false), (7, .b false), (13, .b false), (14, .b false), (20, .b false)] 14 1024 [.keep [0, 11, 12, 107] [] []] ⟨122, [(0, .c (.lst 4 a0.length (encF e_RuleNode d_RuleNode a0))), (11, .c (.v (.int .i64 y14.1))), (12, .c (.v (.int .i64 y14.2.1))), (107, .c (.v (.bool ((a0.getD a1.toNat d_RuleNode).Left != (IntKind.wrap .i64 (y14.1 - 1))))))], [], []⟩ [((!y14.2.2) = false), ((!y14.2.2) = false), ((!y14.2.2) = false), True, ((!y14.2.2) = false), (((a0.getD a1.toNat d_RuleNode).Cond != 0) = false), (((a0.getD a1.toNat d_RuleNode).Cond != 0) = false), (((a0.getD a1.toNat d_RuleNode).Cond != 0) = false), (((a0.getD a1.toNat d_RuleNode).Cond != 0) = false), True, (((a0.getD a1.toNat d_RuleNode).Cond != 0) = false), True, (((a0.getD a1.toNat d_RuleNode).Cond != 0) = false), (((a0.getD a1.toNat d_RuleNode).Right != (IntKind.wrap .i64 (a1 - 1))) = false), (((a0.getD a1.toNat d_RuleNode).Right != (IntKind.wrap .i64 (a1 - 1))) = false), (((a0.getD a1.toNat d_RuleNode).Right != (IntKind.wrap .i64 (a1 - 1))) = false), (((a0.getD a1.toNat d_RuleNode).Right != (IntKind.wrap .i64 (a1 - 1))) = false), True, (((a0.getD a1.toNat d_RuleNode).Right != (IntKind.wrap .i64 (a1 - 1))) = false), True, (((a0.getD a1.toNat d_RuleNode).Right != (IntKind.wrap .i64 (a1 - 1))) = false)] (by kernel_rfl) ⟨e16, e16, e16, trivial, e16, e18, e18, e18, e18, trivial, e18, trivial, e18, e20, e20, e20, e20, trivial, e20, trivial, e20, trivial⟩ ?_
                    refine tri_cond ((a0.getD a1.toNat d_RuleNode).Left != (IntKind.wrap .i64 (y14.1 - 1))) (by kernel_rfl) (fun e22 => ?_) (fun e22 => ?_)
                    · replace h := cnd_t h e22
                      refine tri_reg env [] 15 1024 [.keep [4, 5, 6] [] []] ⟨122, [(4, .c (.v (.int .i64 0))), (5, .c (.v (.int .i64 0))), (6, .c (.v (.bool false)))], [], []⟩ [] (by kernel_rfl) trivial ?_
                      refine tri_ret ?_
                      refine thenR ?_
                      refine inBR ?_
                      refine thenR ?_
                      rw [some_inv h]
                      exact ⟨[], by kernel_rfl, trivial⟩
                    · replace h := cnd_f h e22
                      refine tri_skip ?_
                      refine thenN ?_
                      obtain ⟨y23, c24, h⟩ := bnd_inv h
                      refine tri_reg env [(3, .call ⟨(ax_rule_part a0 (IntKind.wrap .i64 (y14.1 - 1))), [false, false], rx_rule_part y23, px_rule_part y23, true⟩)] 16 1024 [.keep [12, 13, 14, 15] [] []] ⟨122, [(12, .c (.v (.int .i64 y14.2.1))), (13, .c (.v (.bool y23.2.2))), (14, .c (.v (.int .i64 y23.1))), (15, .c (.v (.int .i64 y23.2.1)))], [], []⟩ [True, (EqXs (ax_rule_part a0 (IntKind.wrap .i64 (y14.1 - 1))) (ax_rule_part a0 (IntKind.wrap .i64 (y14.1 - 1)))), (FnOk Tryd.prog 73 (ax_rule_part a0 (IntKind.wrap .i64 (y14.1 - 1))) (rx_rule_part y23) (px_rule_part y23))] (by kernel_rfl) ⟨trivial, (eqs (eqr _) (eqs (eqr _) eqs0)), (hrec a0 (IntKind.wrap .i64 (y14.1 - 1)) y23 c24), trivial⟩ ?_
                      refine tri_reg env [] 17 1024 [.keep [4, 5, 6] [] []] ⟨122, [(4, .c (.v (.int .i64 y23.1))), (5, .c (.v (.int .i64 (IntKind.wrap .i64 ((if y23.2.1 < y14.2.1 then y14.2.1 else y23.2.1) + 1))))), (6, .c (.v (.bool y23.2.2)))], [], []⟩ [True] (by kernel_rfl) ⟨trivial, trivial⟩ ?_
                      refine tri_ret ?_
                      refine inBR ?_
                      refine thenR ?_
                      rw [some_inv h]
                      exact ⟨[], by kernel_rfl, trivial⟩
            · replace h := cnd_f h e13
              refine tri_skip ?_
              refine inBN ?_
              refine thenN ?_
              refine tri_reg env [] 18 1024 [.keep [4, 5, 6] [] []] ⟨122, [(4, .c (.v (.int .i64 0))), (5, .c (.v (.int .i64 0))), (6, .c (.v (.bool false)))], [], []⟩ [] (by kernel_rfl) trivial ?_
              refine tri_ret ?_
              rw [some_inv h]
              exact ⟨[], by kernel_rfl, trivial⟩
          · refine tri_reg env [] 11 1024 [.keep [0, 1, 7, 23, 76] [(4004, 0)] []] ⟨122, [(0, .c (.lst 4 a0.length (encF e_RuleNode d_RuleNode a0))), (1, .c (.v (.int .i64 a1))), (7, .c (.pvar (4004, 0) 0)), (23, .c (.v (.int .i64 (a0.getD a1.toNat d_RuleNode).Kind))), (76, .c (.v (.bool ((a0.getD a1.toNat d_RuleNode).Kind == 3))))], [((4004, 0), (e_RuleNode (a0.getD a1.toNat d_RuleNode)))], []⟩ [True] (by kernel_rfl) ⟨trivial, trivial⟩ ?_
            refine tri_cond ((a0.getD a1.toNat d_RuleNode).Kind == 3) (by kernel_rfl) (fun e25 => ?_) (fun e25 => ?_)
            · replace h := cnd_t h e25
              refine tri_tell [.keep [0, 1, 7, 76] [(4004, 0)] []] ⟨122, [(0, .c (.lst 4 a0.length (encF e_RuleNode d_RuleNode a0))), (1, .c (.v (.int .i64 a1))), (7, .c (.pvar (4004, 0) 0)), (76, .c (.v (.bool ((a0.getD a1.toNat d_RuleNode).Kind == 3))))], [((4004, 0), (e_RuleNode (a0.getD a1.toNat d_RuleNode)))], []⟩ [] (by kernel_rfl) trivial ?_
              refine tri_skip ?_
              exact thenJ ((a0.getD a1.toNat d_RuleNode).Kind == 3) h (by kernel_rfl)
            · replace h := cnd_f h e25
              refine tri_reg_end env [] 12 1024 [.keep [0, 1, 7, 76] [(4004, 0)] []] ⟨122, [(0, .c (.lst 4 a0.length (encF e_RuleNode d_RuleNode a0))), (1, .c (.v (.int .i64 a1))), (7, .c (.pvar (4004, 0) 0)), (76, .c (.v (.bool ((a0.getD a1.toNat d_RuleNode).Kind == 4))))], [((4004, 0), (e_RuleNode (a0.getD a1.toNat d_RuleNode)))], []⟩ [True] (by kernel_rfl) ⟨trivial, trivial⟩ ?_
              exact thenJ ((a0.getD a1.toNat d_RuleNode).Kind == 4) h (by kernel_rfl)
end Go.Proofs.YtmdolfannbbipaaDoor
namespace Go.Proofs.YtmdolfannbbipaaDoor
open Go Go.RowKit Go.Ev Go.Proofs
set_option linter.unusedVariables false

set_option maxRecDepth 100000
theorem ok_rule_right (K : Nat) (a0 : (List T_RuleNode)) (r : Bool) (h : rule_right K a0 = some r) : FnOk Tryd.prog 47 (ax_rule_right a0) (rx_rule_right r) (px_rule_right r) := by
  refine ⟨⟨Tryd.f47, Tryd.func47, by kernel_rfl, by kernel_rfl⟩, ?_⟩
  unfold rule_right at h
  refine fn_ok env Tryd.func47 rfl ⟨32, [(0, .c (.lst 4 a0.length (encF e_RuleNode d_RuleNode a0)))], [], []⟩ [] (by kernel_rfl) fun X => ?_
  refine tri_reg env [] 1 1024 [.keep [0] [] []] ⟨32, [(0, .c (.lst 4 a0.length (encF e_RuleNode d_RuleNode a0)))], [], []⟩ [] (by kernel_rfl) trivial ?_
  refine tri_seq ?_
  refine cnd_split h (fun e1 h => ?_) (fun e1 h => ?_)
  · refine tri_reg env [(3, .b true), (7, .b true)] 2 1024 [.keep [0, 13] [] []] ⟨32, [(0, .c (.lst 4 a0.length (encF e_RuleNode d_RuleNode a0))), (13, .c (.v (.bool true)))], [], []⟩ [True, ((decide (((a0.length : Nat) : Int) < 1)) = true), ((decide (((a0.length : Nat) : Int) < 1)) = true), ((decide (((a0.length : Nat) : Int) < 1)) = true), ((decide (((a0.length : Nat) : Int) < 1)) = true)] (by kernel_rfl) ⟨trivial, e1, e1, e1, e1, trivial⟩ ?_
    refine tri_cond true (by kernel_rfl) (fun _ => ?_) (fun e => by cases e)
    refine tri_reg env [] 3 1024 [.keep [2] [] []] ⟨32, [(2, .c (.v (.bool false)))], [], []⟩ [] (by kernel_rfl) trivial ?_
    refine tri_ret ?_
    refine thenR ?_
    rw [some_inv h]
    exact ⟨[], by kernel_rfl, trivial⟩
  · refine tri_reg env [(3, .b false), (7, .b false)] 2 1024 [.keep [0, 13] [] []] ⟨32, [(0, .c (.lst 4 a0.length (encF e_RuleNode d_RuleNode a0))), (13, .c (.v (.bool (decide (((a0.length : Nat) : Int) > 64)))))], [], []⟩ [True, ((decide (((a0.length : Nat) : Int) < 1)) = false), ((decide (((a0.length : Nat) : Int) < 1)) = false), ((decide (((a0.length : Nat) : Int) < 1)) = false), True, ((decide (((a0.length : Nat) : Int) < 1)) = false)] (by kernel_rfl) ⟨trivial, e1, e1, e1, trivial, e1, trivial⟩ ?_
    refine tri_cond (decide (((a0.length : Nat) : Int) > 64)) (by kernel_rfl) (fun e3 => ?_) (fun e3 => ?_)
    · replace h := cnd_t h e3
      refine tri_reg env [] 3 1024 [.keep [2] [] []] ⟨32, [(2, .c (.v (.bool false)))], [], []⟩ [] (by kernel_rfl) trivial ?_
      refine tri_ret ?_
      refine thenR ?_
      rw [some_inv h]
      exact ⟨[], by kernel_rfl, trivial⟩
    · replace h := cnd_f h e3
      refine tri_skip ?_
      refine thenN ?_
      obtain ⟨y4, c5, h⟩ := bnd_inv h
      refine tri_reg env [(4, .call ⟨(ax_rule_part a0 (IntKind.wrap .i64 (((a0.length : Nat) : Int) - 1))), [false, false], rx_rule_part y4, px_rule_part y4, true⟩)] 4 1024 [.keep [3, 4, 5] [] []] ⟨32, [(3, .c (.v (.int .i64 y4.1))), (4, .c (.v (.int .i64 y4.2.1))), (5, .c (.v (.bool y4.2.2)))], [], []⟩ [True, (EqXs (ax_rule_part a0 (IntKind.wrap .i64 (((a0.length : Nat) : Int) - 1))) (ax_rule_part a0 (IntKind.wrap .i64 (((a0.length : Nat) : Int) - 1)))), (FnOk Tryd.prog 73 (ax_rule_part a0 (IntKind.wrap .i64 (((a0.length : Nat) : Int) - 1))) (rx_rule_part y4) (px_rule_part y4))] (by kernel_rfl) ⟨trivial, (eqs (eqr _) (eqs (eqr _) eqs0)), (ok_rule_part K a0 (IntKind.wrap .i64 (((a0.length : Nat) : Int) - 1)) y4 c5), trivial⟩ ?_
      refine cnd_split h (fun e6 h => ?_) (fun e6 h => ?_)
      · refine cnd_split h (fun e7 h => ?_) (fun e7 h => ?_)
        · refine tri_reg env [(1, .b true), (4, .b true), (5, .b true), (8, .b true)] 5 1024 [.keep [2] [] []] ⟨32, [(2, .c (.v (.bool (decide (y4.2.1 ≤ 16)))))], [], []⟩ [(y4.2.2 = true), (y4.2.2 = true), True, (y4.2.2 = true), ((y4.1 == 0) = true), ((y4.1 == 0) = true), True, ((y4.1 == 0) = true)] (by kernel_rfl) ⟨e6, e6, trivial, e6, e7, e7, trivial, e7, trivial⟩ ?_
          refine tri_ret ?_
          rw [some_inv h]
          exact ⟨[], by kernel_rfl, trivial⟩
        · refine tri_reg env [(1, .b true), (4, .b true), (5, .b false), (8, .b false)] 5 1024 [.keep [2] [] []] ⟨32, [(2, .c (.v (.bool false)))], [], []⟩ [(y4.2.2 = true), (y4.2.2 = true), True, (y4.2.2 = true), ((y4.1 == 0) = false), ((y4.1 == 0) = false), ((y4.1 == 0) = false)] (by kernel_rfl) ⟨e6, e6, trivial, e6, e7, e7, e7, trivial⟩ ?_
          refine tri_ret ?_
          rw [some_inv h]
          exact ⟨[], by kernel_rfl, trivial⟩
      · refine tri_reg env [(1, .b false), (4, .b false), (5, .b false), (8, .b false)] 5 1024 [.keep [2] [] []] ⟨32, [(2, .c (.v (.bool false)))], [], []⟩ [(y4.2.2 = false), (y4.2.2 = false), (y4.2.2 = false), (false = false), (false = false), (false = false)] (by kernel_rfl) ⟨e6, e6, e6, rfl, rfl, rfl, trivial⟩ ?_
        refine tri_ret ?_
        rw [some_inv h]
        exact ⟨[], by kernel_rfl, trivial⟩
end Go.Proofs.YtmdolfannbbipaaDoor
namespace Go.Proofs
open Go.Shelf
def Tryd.lays103_ren : Go.Shelf.Ren := ⟨fun | 103 => 93 | 210 => 110 | 206 => 102 | n => n, fun | 9 => 9 | 4 => 4 | 24 => 105 | 3 => 3 | n => n, fun | n => n⟩
theorem Tryd.lays103 : Go.Proofs.Lays.n103 Tryd.prog Tryd.lays103_ren := {
  mixed := by kernel_rfl
  f103 := Tryd.func93.trans (congrArg some (by kernel_rfl))
  f206 := Tryd.func102.trans (congrArg some (by kernel_rfl))
  f210 := Tryd.func110.trans (congrArg some (by kernel_rfl))
  t3 := Tryd.underlying3
  a3 := Tryd.isAgg3
  z3 := Tryd.sizeOf3
  v3 := Tryd.zeroValue3
  t4 := Tryd.underlying4
  a4 := Tryd.isAgg4
  z4 := Tryd.sizeOf4
  v4 := Tryd.zeroValue4
  t9 := Tryd.underlying9
  a9 := Tryd.isAgg9
  z9 := Tryd.sizeOf9
  v9 := Tryd.zeroValue9
  t24 := Tryd.underlying105
  a24 := Tryd.isAgg105
  z24 := Tryd.sizeOf105
  v24 := Tryd.zeroValue105 }
open Go.RowKit in
theorem Tryd.strings_CutPrefix (s p : ByteArray) (w : World) :
    Calls Tryd.prog 93 #[.string s, .string p] w fun e w' => e = .returned (.tuple #[.string ⟨(Lib.trimPrefix s.data.toList p.data.toList).toArray⟩, .bool (Lib.hasPrefix s.data.toList p.data.toList)]) ∧ w' = w := Any.strings_CutPrefix Tryd.lays103 s p w
def Tryd.laysM171_ren : Go.Shelf.Ren := ⟨fun | 171 => 50 | 243 => 75 | 246 => 92 | 283 => 106 | 284 => 107 | 285 => 108 | 286 => 109 | 129 => 127 | 317 => 126 | 318 => 128 | 319 => 129 | 320 => 130 | 337 => 137 | 338 => 138 | n => n, fun | 3 => 3 | 9 => 9 | 2 => 2 | 4 => 4 | 171 => 150 | 0 => 0 | 53 => 47 | 37 => 22 | 5 => 5 | 173 => 153 | 212 => 166 | 51 => 167 | 20 => 20 | 213 => 168 | 46 => 48 | 232 => 187 | 233 => 188 | n => n, fun | 17 => 1 | 18 => 6 | 19 => 7 | n => n⟩
theorem Tryd.laysM171 : Go.Proofs.LaysM.n171 Tryd.prog Tryd.laysM171_ren := {
  mixed := by kernel_rfl
  f129 := Tryd.func127.trans (congrArg some (by kernel_rfl))
  f171 := Tryd.func50.trans (congrArg some (by kernel_rfl))
  f243 := Tryd.func75.trans (congrArg some (by kernel_rfl))
  f246 := Tryd.func92.trans (congrArg some (by kernel_rfl))
  f283 := Tryd.func106.trans (congrArg some (by kernel_rfl))
  f284 := Tryd.func107.trans (congrArg some (by kernel_rfl))
  f285 := Tryd.func108.trans (congrArg some (by kernel_rfl))
  f286 := Tryd.func109.trans (congrArg some (by kernel_rfl))
  f317 := Tryd.func126.trans (congrArg some (by kernel_rfl))
  f318 := Tryd.func128.trans (congrArg some (by kernel_rfl))
  f319 := Tryd.func129.trans (congrArg some (by kernel_rfl))
  f320 := Tryd.func130.trans (congrArg some (by kernel_rfl))
  f337 := Tryd.func137.trans (congrArg some (by kernel_rfl))
  f338 := Tryd.func138.trans (congrArg some (by kernel_rfl))
  t0 := Tryd.underlying0
  a0 := Tryd.isAgg0
  z0 := Tryd.sizeOf0
  v0 := Tryd.zeroValue0
  t2 := Tryd.underlying2
  a2 := Tryd.isAgg2
  z2 := Tryd.sizeOf2
  v2 := Tryd.zeroValue2
  t3 := Tryd.underlying3
  a3 := Tryd.isAgg3
  z3 := Tryd.sizeOf3
  v3 := Tryd.zeroValue3
  t4 := Tryd.underlying4
  a4 := Tryd.isAgg4
  z4 := Tryd.sizeOf4
  v4 := Tryd.zeroValue4
  t5 := Tryd.underlying5
  a5 := Tryd.isAgg5
  z5 := Tryd.sizeOf5
  v5 := Tryd.zeroValue5
  t9 := Tryd.underlying9
  a9 := Tryd.isAgg9
  z9 := Tryd.sizeOf9
  v9 := Tryd.zeroValue9
  t20 := Tryd.underlying20
  a20 := Tryd.isAgg20
  z20 := Tryd.sizeOf20
  v20 := Tryd.zeroValue20
  t37 := Tryd.underlying22
  a37 := Tryd.isAgg22
  z37 := Tryd.sizeOf22
  v37 := Tryd.zeroValue22
  t46 := Tryd.underlying48
  a46 := Tryd.isAgg48
  z46 := Tryd.sizeOf48
  v46 := Tryd.zeroValue48
  t51 := Tryd.underlying167
  a51 := Tryd.isAgg167
  z51 := Tryd.sizeOf167
  v51 := Tryd.zeroValue167
  t53 := Tryd.underlying47
  a53 := Tryd.isAgg47
  z53 := Tryd.sizeOf47
  v53 := Tryd.zeroValue47
  t171 := Tryd.underlying150
  a171 := Tryd.isAgg150
  z171 := Tryd.sizeOf150
  v171 := Tryd.zeroValue150
  t173 := Tryd.underlying153
  a173 := Tryd.isAgg153
  z173 := Tryd.sizeOf153
  v173 := Tryd.zeroValue153
  t212 := Tryd.underlying166
  a212 := Tryd.isAgg166
  z212 := Tryd.sizeOf166
  v212 := Tryd.zeroValue166
  t213 := Tryd.underlying168
  a213 := Tryd.isAgg168
  z213 := Tryd.sizeOf168
  t232 := Tryd.underlying187
  a232 := Tryd.isAgg187
  z232 := Tryd.sizeOf187
  v232 := Tryd.zeroValue187
  t233 := Tryd.underlying188
  a233 := Tryd.isAgg188
  z233 := Tryd.sizeOf188
  v233 := Tryd.zeroValue188
  g17 := by kernel_rfl
  g18 := by kernel_rfl
  g19 := by kernel_rfl
  i0 := by kernel_rfl
  i2 := by kernel_rfl
  i3 := by kernel_rfl
  i4 := by kernel_rfl
  i5 := by kernel_rfl
  i9 := by kernel_rfl
  i20 := by kernel_rfl
  i37 := by kernel_rfl
  i46 := by kernel_rfl
  i51 := by kernel_rfl
  i53 := by kernel_rfl
  i171 := by kernel_rfl
  i173 := by kernel_rfl
  i212 := by kernel_rfl
  i232 := by kernel_rfl
  i233 := by kernel_rfl
  m17 := by kernel_rfl
  m18 := by kernel_rfl
  m19 := by kernel_rfl }
open Go.RowKit Go.Sort Go.Lib in
theorem Tryd.strconv_Itoa (n : Int) (h0 : -9223372036854775808 ≤ n) (h1 : n ≤ 9223372036854775807) (w : World) (htab : Lib.TabIs Tryd.prog w "internal/strconv.uint64pow10" .u64 Lib.pow10Tab) :
    Calls Tryd.prog 50 #[.int .i64 n] w fun e w' => e = .returned (.string ⟨(Lib.itoa n).toArray⟩) ∧ ∃ k os, w' = grow (w.drewN k) os := Any.strconv_Itoa Tryd.laysM171 n h0 h1 w htab
def Tryd.laysC172_ren : Go.Shelf.Ren := ⟨fun | 172 => 78 | 244 => 94 | 245 => 95 | 247 => 111 | 279 => 112 | 280 => 113 | 281 => 114 | 282 => 115 | 287 => 131 | 316 => 132 | 171 => 50 | 205 => 133 | 321 => 139 | 322 => 140 | 243 => 75 | 246 => 92 | 283 => 106 | 284 => 107 | 285 => 108 | 286 => 109 | 129 => 127 | 317 => 126 | 318 => 128 | 319 => 129 | 320 => 130 | 337 => 137 | 338 => 138 | n => n, fun | 9 => 9 | 3 => 3 | 75 => 108 | 76 => 109 | 4 => 4 | 5 => 5 | 167 => 155 | 37 => 22 | 0 => 0 | 85 => 156 | 2 => 2 | 168 => 158 | 53 => 47 | 175 => 170 | 46 => 48 | 210 => 174 | 127 => 132 | 145 => 182 | 143 => 180 | 21 => 21 | 171 => 150 | 173 => 153 | 212 => 166 | 51 => 167 | 20 => 20 | 213 => 168 | 232 => 187 | 233 => 188 | 80 => 112 | n => n, fun | 15 => 2 | 16 => 3 | 17 => 1 | 18 => 6 | 19 => 7 | n => n⟩
theorem Tryd.laysC172 : Go.Proofs.LaysC.n172 Tryd.prog Tryd.laysC172_ren := {
  mixed := by kernel_rfl
  f129 := Tryd.func127.trans (congrArg some (by kernel_rfl))
  f171 := Tryd.func50.trans (congrArg some (by kernel_rfl))
  f172 := Tryd.func78.trans (congrArg some (by kernel_rfl))
  f205 := Tryd.func133.trans (congrArg some (by kernel_rfl))
  f243 := Tryd.func75.trans (congrArg some (by kernel_rfl))
  f244 := Tryd.func94.trans (congrArg some (by kernel_rfl))
  f245 := Tryd.func95.trans (congrArg some (by kernel_rfl))
  f246 := Tryd.func92.trans (congrArg some (by kernel_rfl))
  f247 := Tryd.func111.trans (congrArg some (by kernel_rfl))
  f279 := Tryd.func112.trans (congrArg some (by kernel_rfl))
  f280 := Tryd.func113.trans (congrArg some (by kernel_rfl))
  f281 := Tryd.func114.trans (congrArg some (by kernel_rfl))
  f282 := Tryd.func115.trans (congrArg some (by kernel_rfl))
  f283 := Tryd.func106.trans (congrArg some (by kernel_rfl))
  f284 := Tryd.func107.trans (congrArg some (by kernel_rfl))
  f285 := Tryd.func108.trans (congrArg some (by kernel_rfl))
  f286 := Tryd.func109.trans (congrArg some (by kernel_rfl))
  f287 := Tryd.func131.trans (congrArg some (by kernel_rfl))
  f316 := Tryd.func132.trans (congrArg some (by kernel_rfl))
  f317 := Tryd.func126.trans (congrArg some (by kernel_rfl))
  f318 := Tryd.func128.trans (congrArg some (by kernel_rfl))
  f319 := Tryd.func129.trans (congrArg some (by kernel_rfl))
  f320 := Tryd.func130.trans (congrArg some (by kernel_rfl))
  f321 := Tryd.func139.trans (congrArg some (by kernel_rfl))
  f322 := Tryd.func140.trans (congrArg some (by kernel_rfl))
  f337 := Tryd.func137.trans (congrArg some (by kernel_rfl))
  f338 := Tryd.func138.trans (congrArg some (by kernel_rfl))
  t0 := Tryd.underlying0
  a0 := Tryd.isAgg0
  z0 := Tryd.sizeOf0
  v0 := Tryd.zeroValue0
  t2 := Tryd.underlying2
  a2 := Tryd.isAgg2
  z2 := Tryd.sizeOf2
  v2 := Tryd.zeroValue2
  t3 := Tryd.underlying3
  a3 := Tryd.isAgg3
  z3 := Tryd.sizeOf3
  v3 := Tryd.zeroValue3
  t4 := Tryd.underlying4
  a4 := Tryd.isAgg4
  z4 := Tryd.sizeOf4
  v4 := Tryd.zeroValue4
  t5 := Tryd.underlying5
  a5 := Tryd.isAgg5
  z5 := Tryd.sizeOf5
  v5 := Tryd.zeroValue5
  t9 := Tryd.underlying9
  a9 := Tryd.isAgg9
  z9 := Tryd.sizeOf9
  v9 := Tryd.zeroValue9
  t20 := Tryd.underlying20
  a20 := Tryd.isAgg20
  z20 := Tryd.sizeOf20
  v20 := Tryd.zeroValue20
  t21 := Tryd.underlying21
  a21 := Tryd.isAgg21
  z21 := Tryd.sizeOf21
  v21 := Tryd.zeroValue21
  t37 := Tryd.underlying22
  a37 := Tryd.isAgg22
  z37 := Tryd.sizeOf22
  v37 := Tryd.zeroValue22
  t46 := Tryd.underlying48
  a46 := Tryd.isAgg48
  z46 := Tryd.sizeOf48
  v46 := Tryd.zeroValue48
  t51 := Tryd.underlying167
  a51 := Tryd.isAgg167
  z51 := Tryd.sizeOf167
  v51 := Tryd.zeroValue167
  t53 := Tryd.underlying47
  a53 := Tryd.isAgg47
  z53 := Tryd.sizeOf47
  v53 := Tryd.zeroValue47
  t75 := Tryd.underlying108
  a75 := Tryd.isAgg108
  z75 := Tryd.sizeOf108
  v75 := Tryd.zeroValue108
  t76 := Tryd.underlying109
  a76 := Tryd.isAgg109
  z76 := Tryd.sizeOf109
  v76 := Tryd.zeroValue109
  t85 := Tryd.underlying156
  a85 := Tryd.isAgg156
  z85 := Tryd.sizeOf156
  v85 := Tryd.zeroValue156
  t127 := Tryd.underlying132
  a127 := Tryd.isAgg132
  z127 := Tryd.sizeOf132
  v127 := Tryd.zeroValue132
  t143 := Tryd.underlying180
  a143 := Tryd.isAgg180
  z143 := Tryd.sizeOf180
  v143 := Tryd.zeroValue180
  t145 := Tryd.underlying182
  a145 := Tryd.isAgg182
  z145 := Tryd.sizeOf182
  v145 := Tryd.zeroValue182
  t167 := Tryd.underlying155
  a167 := Tryd.isAgg155
  z167 := Tryd.sizeOf155
  v167 := Tryd.zeroValue155
  t168 := Tryd.underlying158
  a168 := Tryd.isAgg158
  z168 := Tryd.sizeOf158
  v168 := Tryd.zeroValue158
  t171 := Tryd.underlying150
  a171 := Tryd.isAgg150
  z171 := Tryd.sizeOf150
  v171 := Tryd.zeroValue150
  t173 := Tryd.underlying153
  a173 := Tryd.isAgg153
  z173 := Tryd.sizeOf153
  v173 := Tryd.zeroValue153
  t175 := Tryd.underlying170
  a175 := Tryd.isAgg170
  z175 := Tryd.sizeOf170
  v175 := Tryd.zeroValue170
  t210 := Tryd.underlying174
  a210 := Tryd.isAgg174
  z210 := Tryd.sizeOf174
  v210 := Tryd.zeroValue174
  t212 := Tryd.underlying166
  a212 := Tryd.isAgg166
  z212 := Tryd.sizeOf166
  v212 := Tryd.zeroValue166
  t213 := Tryd.underlying168
  a213 := Tryd.isAgg168
  z213 := Tryd.sizeOf168
  t232 := Tryd.underlying187
  a232 := Tryd.isAgg187
  z232 := Tryd.sizeOf187
  v232 := Tryd.zeroValue187
  t233 := Tryd.underlying188
  a233 := Tryd.isAgg188
  z233 := Tryd.sizeOf188
  v233 := Tryd.zeroValue188
  g15 := by kernel_rfl
  g16 := by kernel_rfl
  g17 := by kernel_rfl
  g18 := by kernel_rfl
  g19 := by kernel_rfl
  t80 := Tryd.underlying112
  a80 := Tryd.isAgg112
  z80 := Tryd.sizeOf112
  v80 := Tryd.zeroValue112
  i0 := by kernel_rfl
  i2 := by kernel_rfl
  i3 := by kernel_rfl
  i4 := by kernel_rfl
  i5 := by kernel_rfl
  i9 := by kernel_rfl
  i20 := by kernel_rfl
  i21 := by kernel_rfl
  i37 := by kernel_rfl
  i46 := by kernel_rfl
  i51 := by kernel_rfl
  i53 := by kernel_rfl
  i75 := by kernel_rfl
  i76 := by kernel_rfl
  i80 := by kernel_rfl
  i85 := by kernel_rfl
  i127 := by kernel_rfl
  i143 := by kernel_rfl
  i145 := by kernel_rfl
  i167 := by kernel_rfl
  i168 := by kernel_rfl
  i171 := by kernel_rfl
  i173 := by kernel_rfl
  i175 := by kernel_rfl
  i210 := by kernel_rfl
  i212 := by kernel_rfl
  i232 := by kernel_rfl
  i233 := by kernel_rfl
  m15 := by kernel_rfl
  m16 := by kernel_rfl
  m17 := by kernel_rfl
  m18 := by kernel_rfl
  m19 := by kernel_rfl
  c0 := by kernel_rfl
  c2 := by kernel_rfl
  c3 := by kernel_rfl
  c4 := by kernel_rfl
  c5 := by kernel_rfl
  c9 := by kernel_rfl
  c20 := by kernel_rfl
  c21 := by kernel_rfl
  c37 := by kernel_rfl
  c46 := by kernel_rfl
  c51 := by kernel_rfl
  c53 := by kernel_rfl
  c75 := by kernel_rfl
  c76 := by kernel_rfl
  c80 := by kernel_rfl
  c85 := by kernel_rfl
  c127 := by kernel_rfl
  c143 := by kernel_rfl
  c145 := by kernel_rfl
  c167 := by kernel_rfl
  c168 := by kernel_rfl
  c171 := by kernel_rfl
  c173 := by kernel_rfl
  c175 := by kernel_rfl
  c210 := by kernel_rfl
  c212 := by kernel_rfl
  c213 := by kernel_rfl
  c232 := by kernel_rfl
  c233 := by kernel_rfl }
open Go.RowKit in
theorem Tryd.strconv_Atoi_ok (s : ByteArray) (hmax : s.size ≤ 9223372036854775806) (v : Int) (h : Lib.atoiAll s.data.toList = .ok v) (w : World) :
    Calls Tryd.prog 78 #[.string s] w fun e w' => e = .returned (.tuple #[.int .i64 v, .nilIface]) ∧ (w' = w ∨ ∃ t, w' = Lib.bytesWorld w 5 t) := Any.strconv_Atoi_ok Tryd.laysC172 s hmax v h w
open Go.RowKit in
theorem Tryd.strconv_Atoi_synt_var (s : ByteArray) (hlim : s.size ≤ 281474976710656) (h1 : ∀ v, Lib.atoiAll s.data.toList ≠ .ok v) (h2 : Lib.atoiAll s.data.toList ≠ .range) (tp : TypeId) (p : Value) (w : World) (hvar : w.var? Tryd.prog "strconv.ErrSyntax" = some #[.iface tp p]) :
    Calls Tryd.prog 78 #[.string s] w fun e w' => ∃ N, e = .returned (.tuple #[.int .i64 0, .iface 158 (.pointer (some ⟨N, 0, none⟩))]) ∧ w.heap.size ≤ N ∧ w'.heap[N]? = some (.cells #[.string ⟨#[65, 116, 111, 105]⟩, .string s, .iface tp p] 174 (0, 0)) ∧ Below w.heap.size w w' := by
  cases hc : Lib.atoiAll s.data.toList with
  | ok v => exact absurd hc (h1 v)
  | range => exact absurd hc h2
  | _ => exact Any.strconv_Atoi_syntax_var Tryd.laysC172 s hlim hc tp p w hvar
open Go.RowKit in
theorem Tryd.strconv_Atoi_range_var (s : ByteArray) (hlim : s.size ≤ 281474976710656) (h : Lib.atoiAll s.data.toList = .range) (tp : TypeId) (p : Value) (w : World) (hvar : w.var? Tryd.prog "strconv.ErrRange" = some #[.iface tp p]) :
    Calls Tryd.prog 78 #[.string s] w fun e w' => ∃ N, e = .returned (.tuple #[.int .i64 (Lib.atoiSat s.data.toList), .iface 158 (.pointer (some ⟨N, 0, none⟩))]) ∧ w.heap.size ≤ N ∧ w'.heap[N]? = some (.cells #[.string ⟨#[65, 116, 111, 105]⟩, .string s, .iface tp p] 174 (0, 0)) ∧ Below w.heap.size w w' := Any.strconv_Atoi_range_var Tryd.laysC172 s hlim h tp p w hvar
end Go.Proofs
namespace Go.Proofs.YtmdolfannbbipaaDoor
open Go Go.RowKit Go.Ev Go.Proofs
set_option linter.unusedVariables false

theorem rx1 {w0 : World} {I0 : Nat → Prop} {x : Value} {vs : List Value} {fp : List Nat} (h : RXl w0 I0 [.c (.v x)] vs fp) : vs = [x] ∧ fp = [] := by
  match vs, h with
  | [u], ⟨f1, f2, e, ⟨h1, h2⟩, h3⟩ =>
    have h3 : f2 = [] := h3
    subst h1; subst h3
    exact ⟨by rw [h2.vInv], e⟩
  | u :: v :: r, ⟨f1, f2, e, _, h3⟩ => exact h3.elim
theorem rx2 {w0 : World} {I0 : Nat → Prop} {x y : Value} {vs : List Value} {fp : List Nat} (h : RXl w0 I0 [.c (.v x), .c (.v y)] vs fp) : vs = [x, y] ∧ fp = [] := by
  match vs, h with
  | u :: r, ⟨f1, f2, e, ⟨h1, h2⟩, h3⟩ =>
    obtain ⟨q1, q2⟩ := rx1 h3
    subst h1; subst q2; subst q1
    exact ⟨by rw [h2.vInv], e⟩
/-- A function of single values. -/
theorem plain_ok {P : Program} {f : FuncId} {args : List X} {res : X} (vs0 : List Value) (hargs : ∀ w0 I0 vs fp, RXl w0 I0 args vs fp → vs = vs0 ∧ fp = []) (hnp : ptrBlocks args vs0 = []) (hpo : ∀ w', Pouts w' (fun _ => False) args vs0 [] [])
    (hc : ∀ w0, GL w0 → Calls P f vs0.toArray w0 fun e w' => ∃ v, e = .returned v ∧ RXr w' (fun _ => False) res v [] ∧ Below w0.heap.size w0 w') : Ok P f args res [] := by
  intro w0 I0 vs fp hI0 hx hn hfp hgl
  obtain ⟨e, rfl⟩ := hargs _ _ _ _ hx
  obtain rfl : vs = vs0.toArray := by rw [← e]
  refine (hc w0 hgl.1).mono ?_
  rintro e w' ⟨v, rfl, hr, hb⟩
  obtain ⟨b1, b2, b3, b4, b5⟩ := hb
  refine ⟨v, rfl, fun _ => False, [], [], fun b h => h.elim, hr, hpo w', by simp, by simp, ?_, ⟨hgl, b1, b2, b3, b4, fun k hk _ => b5 k hk⟩⟩
  rw [hnp]
  simp
theorem below_self (w : World) : Below w.heap.size w w := ⟨rfl, rfl, rfl, Nat.le_refl _, fun _ _ => rfl⟩
theorem below_grew (w : World) (k : Nat) (os : Array Obj) : Below w.heap.size w (Sort.grow (w.drewN k) os) := by
  refine ⟨rfl, rfl, rfl, ?_, fun i hi => ?_⟩
  · show w.heap.size ≤ (w.heap ++ os).size
    simp
  · show (w.heap ++ os)[i]? = w.heap[i]?
    rw [Array.getElem?_append_left hi]
theorem ok_strings_CutPrefix (K : Nat) (a0 a1 : ByteArray) (r : ByteArray × Bool) (h : strings_CutPrefix K a0 a1 = some r) : FnOk Tryd.prog 93 (ax_strings_CutPrefix a0 a1) (rx_strings_CutPrefix r) (px_strings_CutPrefix r) := by
  refine ⟨⟨Tryd.f93, Tryd.func93, by kernel_rfl, by kernel_rfl⟩, ?_⟩
  obtain rfl := Option.some.inj h
  refine plain_ok [.string a0, .string a1] (fun _ _ _ _ h => rx2 h) rfl (fun _ => rfl) fun w0 hg => ?_
  refine (Tryd.strings_CutPrefix a0 a1 w0).mono ?_
  rintro e w' ⟨rfl, rfl⟩
  exact ⟨_, rfl, ⟨_, rfl, [], [], rfl, ⟨rfl, Rimm.v _ rfl⟩, [], [], rfl, ⟨rfl, Rimm.v _ rfl⟩, rfl⟩, below_self _⟩
theorem ok_strconv_Itoa (K : Nat) (a0 : Int) (r : ByteArray) (h : strconv_Itoa K a0 = some r) : FnOk Tryd.prog 50 (ax_strconv_Itoa a0) (rx_strconv_Itoa r) (px_strconv_Itoa r) := by
  refine ⟨⟨Tryd.f50, Tryd.func50, by kernel_rfl, by kernel_rfl⟩, ?_⟩
  obtain ⟨hb, h⟩ := ck_inv h
  obtain rfl := Option.some.inj h
  refine plain_ok [.int .i64 a0] (fun _ _ _ _ h => rx1 h) rfl (fun _ => rfl) fun w0 hg => ?_
  refine (Tryd.strconv_Itoa a0 hb.1 hb.2 w0 hg.1).mono ?_
  rintro e w' ⟨rfl, k, os, rfl⟩
  exact ⟨_, rfl, ⟨rfl, Rimm.v _ rfl⟩, below_grew _ _ _⟩
theorem ok_strconv_Atoi (K : Nat) (a0 : ByteArray) (r : Int × Bool) (h : strconv_Atoi K a0 = some r) : FnOk Tryd.prog 78 (ax_strconv_Atoi a0) (rx_strconv_Atoi r) (px_strconv_Atoi r) := by
  refine ⟨⟨Tryd.f78, Tryd.func78, by kernel_rfl, by kernel_rfl⟩, ?_⟩
  obtain ⟨hb, h⟩ := ck_inv h
  refine plain_ok [.string a0] (fun _ _ _ _ h => rx1 h) rfl (fun _ => rfl) fun w0 hg => ?_
  obtain ⟨_, ⟨t2, p2, h2⟩, t3, p3, h3⟩ := hg
  cases hc : Lib.atoiAll a0.data.toList with
  | ok v =>
    rw [hc] at h
    obtain rfl := Option.some.inj h
    refine (Tryd.strconv_Atoi_ok a0 (by omega) v hc w0).mono ?_
    rintro e w' ⟨rfl, hw⟩
    refine ⟨_, rfl, ⟨_, rfl, [], [], rfl, ⟨rfl, Rimm.v _ rfl⟩, [], [], rfl, ⟨rfl, Rimm.errN⟩, rfl⟩, ?_⟩
    rcases hw with rfl | ⟨t, rfl⟩
    · exact below_self _
    · exact Lib.bytesWorld_below _ _ _
  | range =>
    rw [hc] at h
    obtain rfl := Option.some.inj h
    refine (Tryd.strconv_Atoi_range_var a0 (by omega) hc t3 p3 w0 h3).mono ?_
    rintro e w' ⟨N, rfl, _, _, hbl⟩
    exact ⟨_, rfl, ⟨_, rfl, [], [], rfl, ⟨rfl, Rimm.v _ rfl⟩, [], [], rfl, ⟨rfl, Rimm.err _ _⟩, rfl⟩, hbl⟩
  | _ =>
    rw [hc] at h
    obtain rfl := Option.some.inj h
    refine (Tryd.strconv_Atoi_synt_var a0 (by omega) (fun v e => by rw [hc] at e; cases e) (fun e => by rw [hc] at e; cases e) t2 p2 w0 h2).mono ?_
    rintro e w' ⟨N, rfl, _, _, hbl⟩
    exact ⟨_, rfl, ⟨_, rfl, [], [], rfl, ⟨rfl, Rimm.v _ rfl⟩, [], [], rfl, ⟨rfl, Rimm.err _ _⟩, rfl⟩, hbl⟩

theorem need_panics (p : Value) (w : World) : Calls Tryd.prog 54 #[p, .bool false] w fun e w' => e = .panicked [{ v := .iface 83 (.agg #[]), recovered := false }] ∧ w' = w := by
  have hp : ∀ (u : TypeId) (x : Value) (w : World), (Instr.panic (.iface u x)).run Tryd.prog w = .halt (.panic (.iface u x)) w := fun _ _ _ => rfl
  go_enter Tryd.func54, Tryd.ntmps54
  go_wp2
  exact ⟨rfl, rfl, rfl⟩
theorem bad_rule_reader_need (K : Nat) (a0 : T_reader) (a1 : Bool) (h : rule_reader_need K a0 a1 = some none) : FnBad Tryd.prog 54 (.iface 83 (.agg #[])) (ax_rule_reader_need a0 a1) := by
  refine ⟨⟨Tryd.f54, Tryd.func54, by kernel_rfl, by kernel_rfl⟩, ?_⟩
  have ha : a1 = false := by
    cases a1 with
    | false => rfl
    | true => cases h
  subst ha
  intro w0 I0 vs fp hI0 hx hn hfp hgl
  obtain ⟨l⟩ := vs
  match l, hx with
  | u :: r, ⟨f1, f2, e, _, h3⟩ =>
    obtain ⟨q1, q2⟩ := rx1 h3
    subst q1
    refine (need_panics u w0).mono ?_
    rintro e w' ⟨rfl, rfl⟩
    exact ⟨rfl, .refl hgl⟩
end Go.Proofs.YtmdolfannbbipaaDoor
namespace Go.Proofs.YtmdolfannbbipaaDoor
open Go Go.RowKit Go.Ev Go.Proofs
set_option linter.unusedVariables false

set_option maxRecDepth 100000
theorem ok_rule_Print (K : Nat) (a0 : (List T_RuleNode)) (r : (ByteArray × Int)) (h : rule_Print K a0 = some r) : FnOk Tryd.prog 23 (ax_rule_Print a0) (rx_rule_Print r) (px_rule_Print r) := by
  refine ⟨⟨Tryd.f23, Tryd.func23, by kernel_rfl, by kernel_rfl⟩, ?_⟩
  unfold rule_Print at h
  refine fn_ok env Tryd.func23 rfl ⟨85, [(0, .c (.lst 4 a0.length (encF e_RuleNode d_RuleNode a0)))], [], []⟩ [] (by kernel_rfl) fun X => ?_
  refine tri_reg env [] 1 1024 [.keep [0] [] []] ⟨85, [(0, .c (.lst 4 a0.length (encF e_RuleNode d_RuleNode a0)))], [], []⟩ [] (by kernel_rfl) trivial ?_
  refine tri_seq ?_
  obtain ⟨y1, c2, h⟩ := bnd_inv h
  refine tri_reg env [(1, .call ⟨(ax_rule_right a0), [false], rx_rule_right y1, px_rule_right y1, true⟩)] 2 1024 [.keep [0, 9] [] []] ⟨85, [(0, .c (.lst 4 a0.length (encF e_RuleNode d_RuleNode a0))), (9, .c (.v (.bool (!y1))))], [], []⟩ [(EqXs (ax_rule_right a0) (ax_rule_right a0)), (FnOk Tryd.prog 47 (ax_rule_right a0) (rx_rule_right y1) (px_rule_right y1))] (by kernel_rfl) ⟨(eqs (eqr _) eqs0), (ok_rule_right K a0 y1 c2), trivial⟩ ?_
  refine tri_cond (!y1) (by kernel_rfl) (fun e3 => ?_) (fun e3 => ?_)
  · replace h := cnd_t h e3
    refine tri_reg env [] 3 1024 [.keep [2, 3] [] []] ⟨85, [(2, .c (.v (.string (sB [])))), (3, .c (.v (.int .i64 18)))], [], []⟩ [] (by kernel_rfl) trivial ?_
    refine tri_ret ?_
    refine thenR ?_
    rw [some_inv h]
    exact ⟨[], by kernel_rfl, trivial⟩
  · replace h := cnd_f h e3
    refine tri_skip ?_
    refine thenN ?_
    obtain ⟨q4, h⟩ := ck_inv h
    refine tri_reg env [] 4 1024 [.arr (4002, 0) ((List.replicate a0.length (ByteArray.empty : ByteArray)).length) (encF eS ByteArray.empty (List.replicate a0.length (ByteArray.empty : ByteArray))), .slot 4 (.c (.ref (4002, 0) ((List.replicate a0.length (ByteArray.empty : ByteArray)).length))), .keep [0, 4] [] [(4002, 0)]] ⟨85, [(0, .c (.lst 4 a0.length (encF e_RuleNode d_RuleNode a0))), (4, .c (.ref (4002, 0) ((List.replicate a0.length (ByteArray.empty : ByteArray)).length)))], [], [((4002, 0), some ⟨false, 1, ((List.replicate a0.length (ByteArray.empty : ByteArray)).length), encF eS ByteArray.empty (List.replicate a0.length (ByteArray.empty : ByteArray))⟩)]⟩ [(0 ≤ ((a0.length : Nat) : Int)), (0 ≤ ((a0.length : Nat) : Int)), (a0.length = a0.length), (a0.length * 16 ≤ LIMIT ∧ a0.length < 2 ^ 63), (a0.length = (List.replicate a0.length (ByteArray.empty : ByteArray)).length ∧ ∀ i, i < (List.replicate a0.length (ByteArray.empty : ByteArray)).length → (fun _ => [.v (.string ByteArray.empty)]) i = (encF eS ByteArray.empty (List.replicate a0.length (ByteArray.empty : ByteArray))) i), (TellS (.c (.ref (4002, 0) a0.length)) (.c (.ref (4002, 0) ((List.replicate a0.length (ByteArray.empty : ByteArray)).length))))] (by kernel_rfl) ⟨(Int.natCast_nonneg _), (Int.natCast_nonneg _), rfl, q4, (Tells.arr (Tells.repl (e := eS) (d := ByteArray.empty) a0.length (x := ByteArray.empty) rfl)), (TellC.ref (Tells.len (e := eS) (d := ByteArray.empty) (n := a0.length) (g := (fun _ => [.v (.string ByteArray.empty)])) (L := (List.replicate a0.length (ByteArray.empty : ByteArray))) (Tells.repl (e := eS) (d := ByteArray.empty) a0.length (x := ByteArray.empty) rfl))), trivial⟩ ?_
    refine tri_joinC (fun (v3 : (List ByteArray)) => ⟨85, [(4, .c (.ref (700003, 0) v3.length))], [], [((700003, 0), some ⟨false, 1, v3.length, encF eS ByteArray.empty v3⟩)]⟩) h (fun v3 h => ?_) (fun j3 h => ?_)
    · obtain ⟨q5, h⟩ := ck_inv h
      refine tri_reg env [] 17 1024 [.keep [2, 3] [] []] ⟨85, [(2, .c (.v (.string (v3.getD ((IntKind.wrap .i64 (((v3.length : Nat) : Int) - 1)).toNat) ByteArray.empty)))), (3, .c (.v (.int .i64 0)))], [], []⟩ [True, (0 ≤ (IntKind.wrap .i64 (((v3.length : Nat) : Int) - 1)) ∧ (IntKind.wrap .i64 (((v3.length : Nat) : Int) - 1)) < ((v3.length : Nat) : Int)), ((IntKind.wrap .i64 (((v3.length : Nat) : Int) - 1)).toNat < v3.length)] (by kernel_rfl) ⟨trivial, q5, (inr' q5), trivial⟩ ?_
      refine tri_ret ?_
      rw [some_inv h]
      exact ⟨[], by kernel_rfl, trivial⟩
    · refine tri_reg env [] 5 1024 [.keep [4, 13, 14, 15] [] [(4002, 0)]] ⟨85, [(4, .c (.ref (4002, 0) ((List.replicate a0.length (ByteArray.empty : ByteArray)).length))), (13, .c (.lst 4 a0.length (encF e_RuleNode d_RuleNode a0))), (14, .c (.v (.int .i64 ((a0.length : Nat) : Int)))), (15, .c (.v (.int .i64 0)))], [], [((4002, 0), some ⟨false, 1, ((List.replicate a0.length (ByteArray.empty : ByteArray)).length), encF eS ByteArray.empty (List.replicate a0.length (ByteArray.empty : ByteArray))⟩)]⟩ [] (by kernel_rfl) trivial ?_
      refine tri_block ?_
      refine tri_tell [.keep [4, 13, 14, 15] [] [(4002, 0)], .ren (4002, 0) (700001, 0)] ⟨85, [(4, .c (.ref (700001, 0) ((List.replicate a0.length (ByteArray.empty : ByteArray)).length))), (13, .c (.lst 4 a0.length (encF e_RuleNode d_RuleNode a0))), (14, .c (.v (.int .i64 ((a0.length : Nat) : Int)))), (15, .c (.v (.int .i64 0)))], [], [((700001, 0), some ⟨false, 1, ((List.replicate a0.length (ByteArray.empty : ByteArray)).length), encF eS ByteArray.empty (List.replicate a0.length (ByteArray.empty : ByteArray))⟩)]⟩ [] (by kernel_rfl) trivial ?_
      refine tri_loopK (fun (v1 : (Int × (List ByteArray))) => ⟨85, [(4, .c (.ref (700001, 0) v1.2.length)), (13, .c (.lst 4 a0.length (encF e_RuleNode d_RuleNode a0))), (14, .c (.v (.int .i64 ((a0.length : Nat) : Int)))), (15, .c (.v (.int .i64 v1.1)))], [], [((700001, 0), some ⟨false, 1, v1.2.length, encF eS ByteArray.empty v1.2⟩)]⟩) (v := (0, (List.replicate a0.length (ByteArray.empty : ByteArray)))) h (fun self1 v1 h => ?_) (by kernel_rfl)
      unfold rule_Print_b1 at h
      refine tri_reg env [] 6 1024 [.keep [4, 13, 14, 15, 16] [] [(700001, 0)]] ⟨85, [(4, .c (.ref (700001, 0) v1.2.length)), (13, .c (.lst 4 a0.length (encF e_RuleNode d_RuleNode a0))), (14, .c (.v (.int .i64 ((a0.length : Nat) : Int)))), (15, .c (.v (.int .i64 v1.1))), (16, .c (.v (.bool (decide (v1.1 < ((a0.length : Nat) : Int))))))], [], [((700001, 0), some ⟨false, 1, v1.2.length, encF eS ByteArray.empty v1.2⟩)]⟩ [True] (by kernel_rfl) ⟨trivial, trivial⟩ ?_
      refine tri_seq ?_
      refine tri_cond (decide (v1.1 < ((a0.length : Nat) : Int))) (by kernel_rfl) (fun e6 => ?_) (fun e6 => ?_)
      · replace h := cnd_t h e6
        refine tri_skip ?_
        refine thenN ?_
        refine tri_joinC (fun (v2 : (List ByteArray)) => ⟨85, [(4, .c (.ref (700002, 0) v2.length)), (13, .c (.lst 4 a0.length (encF e_RuleNode d_RuleNode a0))), (14, .c (.v (.int .i64 ((a0.length : Nat) : Int)))), (15, .c (.v (.int .i64 v1.1)))], [], [((700002, 0), some ⟨false, 1, v2.length, encF eS ByteArray.empty v2⟩)]⟩) h (fun v2 h => ?_) (fun j2 h => ?_)
        · refine tri_reg_end env [] 16 1024 [.keep [4, 13, 14, 15] [] [(700002, 0)], .keep [4, 13, 14, 15] [] [(700002, 0)], .ren (700002, 0) (700001, 0)] ⟨85, [(4, .c (.ref (700001, 0) v2.length)), (13, .c (.lst 4 a0.length (encF e_RuleNode d_RuleNode a0))), (14, .c (.v (.int .i64 ((a0.length : Nat) : Int)))), (15, .c (.v (.int .i64 (IntKind.wrap .i64 (v1.1 + 1)))))], [], [((700001, 0), some ⟨false, 1, v2.length, encF eS ByteArray.empty v2⟩)]⟩ [True] (by kernel_rfl) ⟨trivial, trivial⟩ ?_
          exact thenJ ((IntKind.wrap .i64 (v1.1 + 1)), v2) h (by kernel_rfl)
        · refine tri_block ?_
          obtain ⟨q7, h⟩ := ck_inv h
          refine tri_reg env [] 7 1024 [.keep [4, 5, 6, 13, 14, 15] [(7003, 0)] [(700001, 0)]] ⟨85, [(4, .c (.ref (700001, 0) v1.2.length)), (5, .c (.v (.int .i64 v1.1))), (6, .c (.pvar (7003, 0) 0)), (13, .c (.lst 4 a0.length (encF e_RuleNode d_RuleNode a0))), (14, .c (.v (.int .i64 ((a0.length : Nat) : Int)))), (15, .c (.v (.int .i64 v1.1)))], [((7003, 0), (e_RuleNode (a0.getD v1.1.toNat d_RuleNode)))], [((700001, 0), some ⟨false, 1, v1.2.length, encF eS ByteArray.empty v1.2⟩)]⟩ [(0 ≤ v1.1 ∧ v1.1 < ((a0.length : Nat) : Int))] (by kernel_rfl) ⟨q7, trivial⟩ ?_
          refine tri_reg env [] 8 1024 [.keep [4, 5, 6, 13, 14, 15, 21] [(7003, 0)] [(700001, 0)]] ⟨85, [(4, .c (.ref (700001, 0) v1.2.length)), (5, .c (.v (.int .i64 v1.1))), (6, .c (.pvar (7003, 0) 0)), (13, .c (.lst 4 a0.length (encF e_RuleNode d_RuleNode a0))), (14, .c (.v (.int .i64 ((a0.length : Nat) : Int)))), (15, .c (.v (.int .i64 v1.1))), (21, .c (.v (.int .i64 (a0.getD v1.1.toNat d_RuleNode).Kind)))], [((7003, 0), (e_RuleNode (a0.getD v1.1.toNat d_RuleNode)))], [((700001, 0), some ⟨false, 1, v1.2.length, encF eS ByteArray.empty v1.2⟩)]⟩ [] (by kernel_rfl) trivial ?_
          refine tri_block ?_
          refine tri_reg env [] 10 1024 [.keep [4, 5, 6, 13, 14, 15, 21, 39] [(7003, 0)] [(700001, 0)]] ⟨85, [(4, .c (.ref (700001, 0) v1.2.length)), (5, .c (.v (.int .i64 v1.1))), (6, .c (.pvar (7003, 0) 0)), (13, .c (.lst 4 a0.length (encF e_RuleNode d_RuleNode a0))), (14, .c (.v (.int .i64 ((a0.length : Nat) : Int)))), (15, .c (.v (.int .i64 v1.1))), (21, .c (.v (.int .i64 (a0.getD v1.1.toNat d_RuleNode).Kind))), (39, .c (.v (.bool ((a0.getD v1.1.toNat d_RuleNode).Kind == 1))))], [((7003, 0), (e_RuleNode (a0.getD v1.1.toNat d_RuleNode)))], [((700001, 0), some ⟨false, 1, v1.2.length, encF eS ByteArray.empty v1.2⟩)]⟩ [True] (by kernel_rfl) ⟨trivial, trivial⟩ ?_
          refine tri_cond ((a0.getD v1.1.toNat d_RuleNode).Kind == 1) (by kernel_rfl) (fun e8 => ?_) (fun e8 => ?_)
          · replace h := cnd_t h e8
            obtain ⟨y9, c10, h⟩ := bnd_inv h
            obtain ⟨q11, h⟩ := ck_inv h
            obtain ⟨q12, h⟩ := ck_inv h
            refine tri_reg_end env [(4, .call ⟨(ax_strconv_Itoa ((a0.getD v1.1.toNat d_RuleNode).Cond)), [false], rx_strconv_Itoa y9, px_strconv_Itoa y9, true⟩)] 11 1024 [.arr (700001, 0) ((v1.2.set v1.1.toNat ((sB [99]) ++ y9)).length) (encF eS ByteArray.empty (v1.2.set v1.1.toNat ((sB [99]) ++ y9))), .slot 4 (.c (.ref (700001, 0) ((v1.2.set v1.1.toNat ((sB [99]) ++ y9)).length))), .keep [4, 13, 14, 15] [] [(700001, 0)], .keep [4, 13, 14, 15] [] [(700001, 0)], .ren (700001, 0) (700002, 0)] ⟨85, [(4, .c (.ref (700002, 0) ((v1.2.set v1.1.toNat ((sB [99]) ++ y9)).length))), (13, .c (.lst 4 a0.length (encF e_RuleNode d_RuleNode a0))), (14, .c (.v (.int .i64 ((a0.length : Nat) : Int)))), (15, .c (.v (.int .i64 v1.1)))], [], [((700002, 0), some ⟨false, 1, ((v1.2.set v1.1.toNat ((sB [99]) ++ y9)).length), encF eS ByteArray.empty (v1.2.set v1.1.toNat ((sB [99]) ++ y9))⟩)]⟩ [(EqXs (ax_strconv_Itoa ((a0.getD v1.1.toNat d_RuleNode).Cond)) (ax_strconv_Itoa ((a0.getD v1.1.toNat d_RuleNode).Cond))), (FnOk Tryd.prog 50 (ax_strconv_Itoa ((a0.getD v1.1.toNat d_RuleNode).Cond)) (rx_strconv_Itoa y9) (px_strconv_Itoa y9)), ((sB [99]).size + y9.size ≤ 2 ^ 62), (0 ≤ v1.1 ∧ v1.1 < ((v1.2.length : Nat) : Int)), (v1.1.toNat < v1.2.length), (v1.2.length = (v1.2.set v1.1.toNat ((sB [99]) ++ y9)).length ∧ ∀ i, i < (v1.2.set v1.1.toNat ((sB [99]) ++ y9)).length → (putG (encF eS ByteArray.empty v1.2) v1.1.toNat 0 [.v (.string ((sB [99]) ++ y9))]) i = (encF eS ByteArray.empty (v1.2.set v1.1.toNat ((sB [99]) ++ y9))) i), (TellS (.c (.ref (700001, 0) v1.2.length)) (.c (.ref (700001, 0) ((v1.2.set v1.1.toNat ((sB [99]) ++ y9)).length))))] (by kernel_rfl) ⟨(eqs (eqr _) eqs0), (ok_strconv_Itoa K ((a0.getD v1.1.toNat d_RuleNode).Cond) y9 c10), q11, q12, (inr' q12), (Tells.arr (Tells.set (Tells.rfl' (e := eS) (d := ByteArray.empty) (L := v1.2)) v1.1.toNat 0 [.v (.string ((sB [99]) ++ y9))] ((sB [99]) ++ y9) (inr' q12) rfl)), (TellC.ref (Tells.len (e := eS) (d := ByteArray.empty) (n := v1.2.length) (g := (putG (encF eS ByteArray.empty v1.2) v1.1.toNat 0 [.v (.string ((sB [99]) ++ y9))])) (L := (v1.2.set v1.1.toNat ((sB [99]) ++ y9))) (Tells.set (Tells.rfl' (e := eS) (d := ByteArray.empty) (L := v1.2)) v1.1.toNat 0 [.v (.string ((sB [99]) ++ y9))] ((sB [99]) ++ y9) (inr' q12) rfl))), trivial⟩ ?_
            refine inBN ?_
            refine inBN ?_
            exact thenJ (v1.2.set v1.1.toNat ((sB [99]) ++ y9)) h (by kernel_rfl)
          · replace h := cnd_f h e8
            refine tri_reg env [] 12 1024 [.keep [4, 5, 6, 13, 14, 15, 21, 48] [(7003, 0)] [(700001, 0)]] ⟨85, [(4, .c (.ref (700001, 0) v1.2.length)), (5, .c (.v (.int .i64 v1.1))), (6, .c (.pvar (7003, 0) 0)), (13, .c (.lst 4 a0.length (encF e_RuleNode d_RuleNode a0))), (14, .c (.v (.int .i64 ((a0.length : Nat) : Int)))), (15, .c (.v (.int .i64 v1.1))), (21, .c (.v (.int .i64 (a0.getD v1.1.toNat d_RuleNode).Kind))), (48, .c (.v (.bool ((a0.getD v1.1.toNat d_RuleNode).Kind == 2))))], [((7003, 0), (e_RuleNode (a0.getD v1.1.toNat d_RuleNode)))], [((700001, 0), some ⟨false, 1, v1.2.length, encF eS ByteArray.empty v1.2⟩)]⟩ [True] (by kernel_rfl) ⟨trivial, trivial⟩ ?_
            refine tri_cond ((a0.getD v1.1.toNat d_RuleNode).Kind == 2) (by kernel_rfl) (fun e13 => ?_) (fun e13 => ?_)
            · replace h := cnd_t h e13
              obtain ⟨q14, h⟩ := ck_inv h
              obtain ⟨q15, h⟩ := ck_inv h
              obtain ⟨q16, h⟩ := ck_inv h
              refine tri_reg_end env [] 13 1024 [.arr (700001, 0) ((v1.2.set v1.1.toNat ((sB [33]) ++ (v1.2.getD (((a0.getD v1.1.toNat d_RuleNode).Left).toNat) ByteArray.empty))).length) (encF eS ByteArray.empty (v1.2.set v1.1.toNat ((sB [33]) ++ (v1.2.getD (((a0.getD v1.1.toNat d_RuleNode).Left).toNat) ByteArray.empty)))), .slot 4 (.c (.ref (700001, 0) ((v1.2.set v1.1.toNat ((sB [33]) ++ (v1.2.getD (((a0.getD v1.1.toNat d_RuleNode).Left).toNat) ByteArray.empty))).length))), .keep [4, 13, 14, 15] [] [(700001, 0)], .keep [4, 13, 14, 15] [] [(700001, 0)], .ren (700001, 0) (700002, 0)] ⟨85, [(4, .c (.ref (700002, 0) ((v1.2.set v1.1.toNat ((sB [33]) ++ (v1.2.getD (((a0.getD v1.1.toNat d_RuleNode).Left).toNat) ByteArray.empty))).length))), (13, .c (.lst 4 a0.length (encF e_RuleNode d_RuleNode a0))), (14, .c (.v (.int .i64 ((a0.length : Nat) : Int)))), (15, .c (.v (.int .i64 v1.1)))], [], [((700002, 0), some ⟨false, 1, ((v1.2.set v1.1.toNat ((sB [33]) ++ (v1.2.getD (((a0.getD v1.1.toNat d_RuleNode).Left).toNat) ByteArray.empty))).length), encF eS ByteArray.empty (v1.2.set v1.1.toNat ((sB [33]) ++ (v1.2.getD (((a0.getD v1.1.toNat d_RuleNode).Left).toNat) ByteArray.empty)))⟩)]⟩ [(0 ≤ (a0.getD v1.1.toNat d_RuleNode).Left ∧ (a0.getD v1.1.toNat d_RuleNode).Left < ((v1.2.length : Nat) : Int)), (((a0.getD v1.1.toNat d_RuleNode).Left).toNat < v1.2.length), ((sB [33]).size + (v1.2.getD (((a0.getD v1.1.toNat d_RuleNode).Left).toNat) ByteArray.empty).size ≤ 2 ^ 62), (0 ≤ v1.1 ∧ v1.1 < ((v1.2.length : Nat) : Int)), (v1.1.toNat < v1.2.length), (v1.2.length = (v1.2.set v1.1.toNat ((sB [33]) ++ (v1.2.getD (((a0.getD v1.1.toNat d_RuleNode).Left).toNat) ByteArray.empty))).length ∧ ∀ i, i < (v1.2.set v1.1.toNat ((sB [33]) ++ (v1.2.getD (((a0.getD v1.1.toNat d_RuleNode).Left).toNat) ByteArray.empty))).length → (putG (encF eS ByteArray.empty v1.2) v1.1.toNat 0 [.v (.string ((sB [33]) ++ (v1.2.getD (((a0.getD v1.1.toNat d_RuleNode).Left).toNat) ByteArray.empty)))]) i = (encF eS ByteArray.empty (v1.2.set v1.1.toNat ((sB [33]) ++ (v1.2.getD (((a0.getD v1.1.toNat d_RuleNode).Left).toNat) ByteArray.empty)))) i), (TellS (.c (.ref (700001, 0) v1.2.length)) (.c (.ref (700001, 0) ((v1.2.set v1.1.toNat ((sB [33]) ++ (v1.2.getD (((a0.getD v1.1.toNat d_RuleNode).Left).toNat) ByteArray.empty))).length))))] (by kernel_rfl) ⟨q14, (inr' q14), q15, q16, (inr' q16), (Tells.arr (Tells.set (Tells.rfl' (e := eS) (d := ByteArray.empty) (L := v1.2)) v1.1.toNat 0 [.v (.string ((sB [33]) ++ (v1.2.getD (((a0.getD v1.1.toNat d_RuleNode).Left).toNat) ByteArray.empty)))] ((sB [33]) ++ (v1.2.getD (((a0.getD v1.1.toNat d_RuleNode).Left).toNat) ByteArray.empty)) (inr' q16) rfl)), (TellC.ref (Tells.len (e := eS) (d := ByteArray.empty) (n := v1.2.length) (g := (putG (encF eS ByteArray.empty v1.2) v1.1.toNat 0 [.v (.string ((sB [33]) ++ (v1.2.getD (((a0.getD v1.1.toNat d_RuleNode).Left).toNat) ByteArray.empty)))])) (L := (v1.2.set v1.1.toNat ((sB [33]) ++ (v1.2.getD (((a0.getD v1.1.toNat d_RuleNode).Left).toNat) ByteArray.empty)))) (Tells.set (Tells.rfl' (e := eS) (d := ByteArray.empty) (L := v1.2)) v1.1.toNat 0 [.v (.string ((sB [33]) ++ (v1.2.getD (((a0.getD v1.1.toNat d_RuleNode).Left).toNat) ByteArray.empty)))] ((sB [33]) ++ (v1.2.getD (((a0.getD v1.1.toNat d_RuleNode).Left).toNat) ByteArray.empty)) (inr' q16) rfl))), trivial⟩ ?_
              refine inBN ?_
              refine inBN ?_
              exact thenJ (v1.2.set v1.1.toNat ((sB [33]) ++ (v1.2.getD (((a0.getD v1.1.toNat d_RuleNode).Left).toNat) ByteArray.empty))) h (by kernel_rfl)
            · replace h := cnd_f h e13
              refine tri_reg env [] 14 1024 [.keep [4, 5, 6, 13, 14, 15, 59] [(7003, 0)] [(700001, 0)]] ⟨85, [(4, .c (.ref (700001, 0) v1.2.length)), (5, .c (.v (.int .i64 v1.1))), (6, .c (.pvar (7003, 0) 0)), (13, .c (.lst 4 a0.length (encF e_RuleNode d_RuleNode a0))), (14, .c (.v (.int .i64 ((a0.length : Nat) : Int)))), (15, .c (.v (.int .i64 v1.1))), (59, .c (.v (.bool ((a0.getD v1.1.toNat d_RuleNode).Kind == 3))))], [((7003, 0), (e_RuleNode (a0.getD v1.1.toNat d_RuleNode)))], [((700001, 0), some ⟨false, 1, v1.2.length, encF eS ByteArray.empty v1.2⟩)]⟩ [True] (by kernel_rfl) ⟨trivial, trivial⟩ ?_
              refine tri_cond ((a0.getD v1.1.toNat d_RuleNode).Kind == 3) (by kernel_rfl) (fun e17 => ?_) (fun e17 => ?_)
              · replace h := cnd_t h e17
                obtain ⟨q18, h⟩ := ck_inv h
                obtain ⟨q19, h⟩ := ck_inv h
                obtain ⟨q20, h⟩ := ck_inv h
                obtain ⟨q21, h⟩ := ck_inv h
                obtain ⟨q22, h⟩ := ck_inv h
                obtain ⟨q23, h⟩ := ck_inv h
                obtain ⟨q24, h⟩ := ck_inv h
                refine tri_reg_end env [] 15 1024 [.arr (700001, 0) ((v1.2.set v1.1.toNat (((((sB [40]) ++ (v1.2.getD (((a0.getD v1.1.toNat d_RuleNode).Left).toNat) ByteArray.empty)) ++ (sB [32, 38, 32])) ++ (v1.2.getD (((a0.getD v1.1.toNat d_RuleNode).Right).toNat) ByteArray.empty)) ++ (sB [41]))).length) (encF eS ByteArray.empty (v1.2.set v1.1.toNat (((((sB [40]) ++ (v1.2.getD (((a0.getD v1.1.toNat d_RuleNode).Left).toNat) ByteArray.empty)) ++ (sB [32, 38, 32])) ++ (v1.2.getD (((a0.getD v1.1.toNat d_RuleNode).Right).toNat) ByteArray.empty)) ++ (sB [41])))), .slot 4 (.c (.ref (700001, 0) ((v1.2.set v1.1.toNat (((((sB [40]) ++ (v1.2.getD (((a0.getD v1.1.toNat d_RuleNode).Left).toNat) ByteArray.empty)) ++ (sB [32, 38, 32])) ++ (v1.2.getD (((a0.getD v1.1.toNat d_RuleNode).Right).toNat) ByteArray.empty)) ++ (sB [41]))).length))), .keep [4, 13, 14, 15] [] [(700001, 0)], .keep [4, 13, 14, 15] [] [(700001, 0)], .ren (700001, 0) (700002, 0)] ⟨85, [(4, .c (.ref (700002, 0) ((v1.2.set v1.1.toNat (((((sB [40]) ++ (v1.2.getD (((a0.getD v1.1.toNat d_RuleNode).Left).toNat) ByteArray.empty)) ++ (sB [32, 38, 32])) ++ (v1.2.getD (((a0.getD v1.1.toNat d_RuleNode).Right).toNat) ByteArray.empty)) ++ (sB [41]))).length))), (13, .c (.lst 4 a0.length (encF e_RuleNode d_RuleNode a0))), (14, .c (.v (.int .i64 ((a0.length : Nat) : Int)))), (15, .c (.v (.int .i64 v1.1)))], [], [((700002, 0), some ⟨false, 1, ((v1.2.set v1.1.toNat (((((sB [40]) ++ (v1.2.getD (((a0.getD v1.1.toNat d_RuleNode).Left).toNat) ByteArray.empty)) ++ (sB [32, 38, 32])) ++ (v1.2.getD (((a0.getD v1.1.toNat d_RuleNode).Right).toNat) ByteArray.empty)) ++ (sB [41]))).length), encF eS ByteArray.empty (v1.2.set v1.1.toNat (((((sB [40]) ++ (v1.2.getD (((a0.getD v1.1.toNat d_RuleNode).Left).toNat) ByteArray.empty)) ++ (sB [32, 38, 32])) ++ (v1.2.getD (((a0.getD v1.1.toNat d_RuleNode).Right).toNat) ByteArray.empty)) ++ (sB [41])))⟩)]⟩ [(0 ≤ (a0.getD v1.1.toNat d_RuleNode).Left ∧ (a0.getD v1.1.toNat d_RuleNode).Left < ((v1.2.length : Nat) : Int)), (((a0.getD v1.1.toNat d_RuleNode).Left).toNat < v1.2.length), ((sB [40]).size + (v1.2.getD (((a0.getD v1.1.toNat d_RuleNode).Left).toNat) ByteArray.empty).size ≤ 2 ^ 62), (((sB [40]) ++ (v1.2.getD (((a0.getD v1.1.toNat d_RuleNode).Left).toNat) ByteArray.empty)).size + (sB [32, 38, 32]).size ≤ 2 ^ 62), (0 ≤ (a0.getD v1.1.toNat d_RuleNode).Right ∧ (a0.getD v1.1.toNat d_RuleNode).Right < ((v1.2.length : Nat) : Int)), (((a0.getD v1.1.toNat d_RuleNode).Right).toNat < v1.2.length), ((((sB [40]) ++ (v1.2.getD (((a0.getD v1.1.toNat d_RuleNode).Left).toNat) ByteArray.empty)) ++ (sB [32, 38, 32])).size + (v1.2.getD (((a0.getD v1.1.toNat d_RuleNode).Right).toNat) ByteArray.empty).size ≤ 2 ^ 62), (((((sB [40]) ++ (v1.2.getD (((a0.getD v1.1.toNat d_RuleNode).Left).toNat) ByteArray.empty)) ++ (sB [32, 38, 32])) ++ (v1.2.getD (((a0.getD v1.1.toNat d_RuleNode).Right).toNat) ByteArray.empty)).size + (sB [41]).size ≤ 2 ^ 62), (0 ≤ v1.1 ∧ v1.1 < ((v1.2.length : Nat) : Int)), (v1.1.toNat < v1.2.length), (v1.2.length = (v1.2.set v1.1.toNat (((((sB [40]) ++ (v1.2.getD (((a0.getD v1.1.toNat d_RuleNode).Left).toNat) ByteArray.empty)) ++ (sB [32, 38, 32])) ++ (v1.2.getD (((a0.getD v1.1.toNat d_RuleNode).Right).toNat) ByteArray.empty)) ++ (sB [41]))).length ∧ ∀ i, i < (v1.2.set v1.1.toNat (((((sB [40]) ++ (v1.2.getD (((a0.getD v1.1.toNat d_RuleNode).Left).toNat) ByteArray.empty)) ++ (sB [32, 38, 32])) ++ (v1.2.getD (((a0.getD v1.1.toNat d_RuleNode).Right).toNat) ByteArray.empty)) ++ (sB [41]))).length → (putG (encF eS ByteArray.empty v1.2) v1.1.toNat 0 [.v (.string (((((sB [40]) ++ (v1.2.getD (((a0.getD v1.1.toNat d_RuleNode).Left).toNat) ByteArray.empty)) ++ (sB [32, 38, 32])) ++ (v1.2.getD (((a0.getD v1.1.toNat d_RuleNode).Right).toNat) ByteArray.empty)) ++ (sB [41])))]) i = (encF eS ByteArray.empty (v1.2.set v1.1.toNat (((((sB [40]) ++ (v1.2.getD (((a0.getD v1.1.toNat d_RuleNode).Left).toNat) ByteArray.empty)) ++ (sB [32, 38, 32])) ++ (v1.2.getD (((a0.getD v1.1.toNat d_RuleNode).Right).toNat) ByteArray.empty)) ++ (sB [41])))) i), (TellS (.c (.ref (700001, 0) v1.2.length)) (.c (.ref (700001, 0) ((v1.2.set v1.1.toNat (((((sB [40]) ++ (v1.2.getD (((a0.getD v1.1.toNat d_RuleNode).Left).toNat) ByteArray.empty)) ++ (sB [32, 38, 32])) ++ (v1.2.getD (((a0.getD v1.1.toNat d_RuleNode).Right).toNat) ByteArray.empty)) ++ (sB [41]))).length))))] (by kernel_rfl) ⟨q18, (inr' q18), q19, q20, q21, (inr' q21), q22, q23, q24, (inr' q24), (Tells.arr (Tells.set (Tells.rfl' (e := eS) (d := ByteArray.empty) (L := v1.2)) v1.1.toNat 0 [.v (.string (((((sB [40]) ++ (v1.2.getD (((a0.getD v1.1.toNat d_RuleNode).Left).toNat) ByteArray.empty)) ++ (sB [32, 38, 32])) ++ (v1.2.getD (((a0.getD v1.1.toNat d_RuleNode).Right).toNat) ByteArray.empty)) ++ (sB [41])))] (((((sB [40]) ++ (v1.2.getD (((a0.getD v1.1.toNat d_RuleNode).Left).toNat) ByteArray.empty)) ++ (sB [32, 38, 32])) ++ (v1.2.getD (((a0.getD v1.1.toNat d_RuleNode).Right).toNat) ByteArray.empty)) ++ (sB [41])) (inr' q24) rfl)), (TellC.ref (Tells.len (e := eS) (d := ByteArray.empty) (n := v1.2.length) (g := (putG (encF eS ByteArray.empty v1.2) v1.1.toNat 0 [.v (.string (((((sB [40]) ++ (v1.2.getD (((a0.getD v1.1.toNat d_RuleNode).Left).toNat) ByteArray.empty)) ++ (sB [32, 38, 32])) ++ (v1.2.getD (((a0.getD v1.1.toNat d_RuleNode).Right).toNat) ByteArray.empty)) ++ (sB [41])))])) (L := (v1.2.set v1.1.toNat (((((sB [40]) ++ (v1.2.getD (((a0.getD v1.1.toNat d_RuleNode).Left).toNat) ByteArray.empty)) ++ (sB [32, 38, 32])) ++ (v1.2.getD (((a0.getD v1.1.toNat d_RuleNode).Right).toNat) ByteArray.empty)) ++ (sB [41])))) (Tells.set (Tells.rfl' (e := eS) (d := ByteArray.empty) (L := v1.2)) v1.1.toNat 0 [.v (.string (((((sB [40]) ++ (v1.2.getD (((a0.getD v1.1.toNat d_RuleNode).Left).toNat) ByteArray.empty)) ++ (sB [32, 38, 32])) ++ (v1.2.getD (((a0.getD v1.1.toNat d_RuleNode).Right).toNat) ByteArray.empty)) ++ (sB [41])))] (((((sB [40]) ++ (v1.2.getD (((a0.getD v1.1.toNat d_RuleNode).Left).toNat) ByteArray.empty)) ++ (sB [32, 38, 32])) ++ (v1.2.getD (((a0.getD v1.1.toNat d_RuleNode).Right).toNat) ByteArray.empty)) ++ (sB [41])) (inr' q24) rfl))), trivial⟩ ?_
                refine inBN ?_
                refine inBN ?_
                exact thenJ (v1.2.set v1.1.toNat (((((sB [40]) ++ (v1.2.getD (((a0.getD v1.1.toNat d_RuleNode).Left).toNat) ByteArray.empty)) ++ (sB [32, 38, 32])) ++ (v1.2.getD (((a0.getD v1.1.toNat d_RuleNode).Right).toNat) ByteArray.empty)) ++ (sB [41]))) h (by kernel_rfl)
              · replace h := cnd_f h e17
                obtain ⟨q25, h⟩ := ck_inv h
                obtain ⟨q26, h⟩ := ck_inv h
                obtain ⟨q27, h⟩ := ck_inv h
                obtain ⟨q28, h⟩ := ck_inv h
                obtain ⟨q29, h⟩ := ck_inv h
                obtain ⟨q30, h⟩ := ck_inv h
                obtain ⟨q31, h⟩ := ck_inv h
                refine tri_reg_end env [] 9 1024 [.arr (700001, 0) ((v1.2.set v1.1.toNat (((((sB [40]) ++ (v1.2.getD (((a0.getD v1.1.toNat d_RuleNode).Left).toNat) ByteArray.empty)) ++ (sB [32, 124, 32])) ++ (v1.2.getD (((a0.getD v1.1.toNat d_RuleNode).Right).toNat) ByteArray.empty)) ++ (sB [41]))).length) (encF eS ByteArray.empty (v1.2.set v1.1.toNat (((((sB [40]) ++ (v1.2.getD (((a0.getD v1.1.toNat d_RuleNode).Left).toNat) ByteArray.empty)) ++ (sB [32, 124, 32])) ++ (v1.2.getD (((a0.getD v1.1.toNat d_RuleNode).Right).toNat) ByteArray.empty)) ++ (sB [41])))), .slot 4 (.c (.ref (700001, 0) ((v1.2.set v1.1.toNat (((((sB [40]) ++ (v1.2.getD (((a0.getD v1.1.toNat d_RuleNode).Left).toNat) ByteArray.empty)) ++ (sB [32, 124, 32])) ++ (v1.2.getD (((a0.getD v1.1.toNat d_RuleNode).Right).toNat) ByteArray.empty)) ++ (sB [41]))).length))), .keep [4, 13, 14, 15] [] [(700001, 0)], .keep [4, 13, 14, 15] [] [(700001, 0)], .ren (700001, 0) (700002, 0)] ⟨85, [(4, .c (.ref (700002, 0) ((v1.2.set v1.1.toNat (((((sB [40]) ++ (v1.2.getD (((a0.getD v1.1.toNat d_RuleNode).Left).toNat) ByteArray.empty)) ++ (sB [32, 124, 32])) ++ (v1.2.getD (((a0.getD v1.1.toNat d_RuleNode).Right).toNat) ByteArray.empty)) ++ (sB [41]))).length))), (13, .c (.lst 4 a0.length (encF e_RuleNode d_RuleNode a0))), (14, .c (.v (.int .i64 ((a0.length : Nat) : Int)))), (15, .c (.v (.int .i64 v1.1)))], [], [((700002, 0), some ⟨false, 1, ((v1.2.set v1.1.toNat (((((sB [40]) ++ (v1.2.getD (((a0.getD v1.1.toNat d_RuleNode).Left).toNat) ByteArray.empty)) ++ (sB [32, 124, 32])) ++ (v1.2.getD (((a0.getD v1.1.toNat d_RuleNode).Right).toNat) ByteArray.empty)) ++ (sB [41]))).length), encF eS ByteArray.empty (v1.2.set v1.1.toNat (((((sB [40]) ++ (v1.2.getD (((a0.getD v1.1.toNat d_RuleNode).Left).toNat) ByteArray.empty)) ++ (sB [32, 124, 32])) ++ (v1.2.getD (((a0.getD v1.1.toNat d_RuleNode).Right).toNat) ByteArray.empty)) ++ (sB [41])))⟩)]⟩ [(0 ≤ (a0.getD v1.1.toNat d_RuleNode).Left ∧ (a0.getD v1.1.toNat d_RuleNode).Left < ((v1.2.length : Nat) : Int)), (((a0.getD v1.1.toNat d_RuleNode).Left).toNat < v1.2.length), ((sB [40]).size + (v1.2.getD (((a0.getD v1.1.toNat d_RuleNode).Left).toNat) ByteArray.empty).size ≤ 2 ^ 62), (((sB [40]) ++ (v1.2.getD (((a0.getD v1.1.toNat d_RuleNode).Left).toNat) ByteArray.empty)).size + (sB [32, 124, 32]).size ≤ 2 ^ 62), (0 ≤ (a0.getD v1.1.toNat d_RuleNode).Right ∧ (a0.getD v1.1.toNat d_RuleNode).Right < ((v1.2.length : Nat) : Int)), (((a0.getD v1.1.toNat d_RuleNode).Right).toNat < v1.2.length), ((((sB [40]) ++ (v1.2.getD (((a0.getD v1.1.toNat d_RuleNode).Left).toNat) ByteArray.empty)) ++ (sB [32, 124, 32])).size + (v1.2.getD (((a0.getD v1.1.toNat d_RuleNode).Right).toNat) ByteArray.empty).size ≤ 2 ^ 62), (((((sB [40]) ++ (v1.2.getD (((a0.getD v1.1.toNat d_RuleNode).Left).toNat) ByteArray.empty)) ++ (sB [32, 124, 32])) ++ (v1.2.getD (((a0.getD v1.1.toNat d_RuleNode).Right).toNat) ByteArray.empty)).size + (sB [41]).size ≤ 2 ^ 62), (0 ≤ v1.1 ∧ v1.1 < ((v1.2.length : Nat) : Int)), (v1.1.toNat < v1.2.length), (v1.2.length = (v1.2.set v1.1.toNat (((((sB [40]) ++ (v1.2.getD (((a0.getD v1.1.toNat d_RuleNode).Left).toNat) ByteArray.empty)) ++ (sB [32, 124, 32])) ++ (v1.2.getD (((a0.getD v1.1.toNat d_RuleNode).Right).toNat) ByteArray.empty)) ++ (sB [41]))).length ∧ ∀ i, i < (v1.2.set v1.1.toNat (((((sB [40]) ++ (v1.2.getD (((a0.getD v1.1.toNat d_RuleNode).Left).toNat) ByteArray.empty)) ++ (sB [32, 124, 32])) ++ (v1.2.getD (((a0.getD v1.1.toNat d_RuleNode).Right).toNat) ByteArray.empty)) ++ (sB [41]))).length → (putG (encF eS ByteArray.empty v1.2) v1.1.toNat 0 [.v (.string (((((sB [40]) ++ (v1.2.getD (((a0.getD v1.1.toNat d_RuleNode).Left).toNat) ByteArray.empty)) ++ (sB [32, 124, 32])) ++ (v1.2.getD (((a0.getD v1.1.toNat d_RuleNode).Right).toNat) ByteArray.empty)) ++ (sB [41])))]) i = (encF eS ByteArray.empty (v1.2.set v1.1.toNat (((((sB [40]) ++ (v1.2.getD (((a0.getD v1.1.toNat d_RuleNode).Left).toNat) ByteArray.empty)) ++ (sB [32, 124, 32])) ++ (v1.2.getD (((a0.getD v1.1.toNat d_RuleNode).Right).toNat) ByteArray.empty)) ++ (sB [41])))) i), (TellS (.c (.ref (700001, 0) v1.2.length)) (.c (.ref (700001, 0) ((v1.2.set v1.1.toNat (((((sB [40]) ++ (v1.2.getD (((a0.getD v1.1.toNat d_RuleNode).Left).toNat) ByteArray.empty)) ++ (sB [32, 124, 32])) ++ (v1.2.getD (((a0.getD v1.1.toNat d_RuleNode).Right).toNat) ByteArray.empty)) ++ (sB [41]))).length))))] (by kernel_rfl) ⟨q25, (inr' q25), q26, q27, q28, (inr' q28), q29, q30, q31, (inr' q31), (Tells.arr (Tells.set (Tells.rfl' (e := eS) (d := ByteArray.empty) (L := v1.2)) v1.1.toNat 0 [.v (.string (((((sB [40]) ++ (v1.2.getD (((a0.getD v1.1.toNat d_RuleNode).Left).toNat) ByteArray.empty)) ++ (sB [32, 124, 32])) ++ (v1.2.getD (((a0.getD v1.1.toNat d_RuleNode).Right).toNat) ByteArray.empty)) ++ (sB [41])))] (((((sB [40]) ++ (v1.2.getD (((a0.getD v1.1.toNat d_RuleNode).Left).toNat) ByteArray.empty)) ++ (sB [32, 124, 32])) ++ (v1.2.getD (((a0.getD v1.1.toNat d_RuleNode).Right).toNat) ByteArray.empty)) ++ (sB [41])) (inr' q31) rfl)), (TellC.ref (Tells.len (e := eS) (d := ByteArray.empty) (n := v1.2.length) (g := (putG (encF eS ByteArray.empty v1.2) v1.1.toNat 0 [.v (.string (((((sB [40]) ++ (v1.2.getD (((a0.getD v1.1.toNat d_RuleNode).Left).toNat) ByteArray.empty)) ++ (sB [32, 124, 32])) ++ (v1.2.getD (((a0.getD v1.1.toNat d_RuleNode).Right).toNat) ByteArray.empty)) ++ (sB [41])))])) (L := (v1.2.set v1.1.toNat (((((sB [40]) ++ (v1.2.getD (((a0.getD v1.1.toNat d_RuleNode).Left).toNat) ByteArray.empty)) ++ (sB [32, 124, 32])) ++ (v1.2.getD (((a0.getD v1.1.toNat d_RuleNode).Right).toNat) ByteArray.empty)) ++ (sB [41])))) (Tells.set (Tells.rfl' (e := eS) (d := ByteArray.empty) (L := v1.2)) v1.1.toNat 0 [.v (.string (((((sB [40]) ++ (v1.2.getD (((a0.getD v1.1.toNat d_RuleNode).Left).toNat) ByteArray.empty)) ++ (sB [32, 124, 32])) ++ (v1.2.getD (((a0.getD v1.1.toNat d_RuleNode).Right).toNat) ByteArray.empty)) ++ (sB [41])))] (((((sB [40]) ++ (v1.2.getD (((a0.getD v1.1.toNat d_RuleNode).Left).toNat) ByteArray.empty)) ++ (sB [32, 124, 32])) ++ (v1.2.getD (((a0.getD v1.1.toNat d_RuleNode).Right).toNat) ByteArray.empty)) ++ (sB [41])) (inr' q31) rfl))), trivial⟩ ?_
                refine inBN ?_
                refine inBN ?_
                exact thenJ (v1.2.set v1.1.toNat (((((sB [40]) ++ (v1.2.getD (((a0.getD v1.1.toNat d_RuleNode).Left).toNat) ByteArray.empty)) ++ (sB [32, 124, 32])) ++ (v1.2.getD (((a0.getD v1.1.toNat d_RuleNode).Right).toNat) ByteArray.empty)) ++ (sB [41]))) h (by kernel_rfl)
      · replace h := cnd_f h e6
        refine tri_tell [.keep [4] [] [(700001, 0)], .ren (700001, 0) (700003, 0)] ⟨85, [(4, .c (.ref (700003, 0) v1.2.length))], [], [((700003, 0), some ⟨false, 1, v1.2.length, encF eS ByteArray.empty v1.2⟩)]⟩ [] (by kernel_rfl) trivial ?_
        refine tri_exit ?_
        refine thenE ?_
        refine thenE ?_
        refine inBX ?_
        exact thenJ v1.2 h (by kernel_rfl)
end Go.Proofs.YtmdolfannbbipaaDoor
namespace Go.Proofs.YtmdolfannbbipaaDoor
open Go Go.RowKit Go.Ev Go.Proofs
set_option linter.unusedVariables false

set_option maxRecDepth 100000
theorem ok_rule_Eval (K : Nat) (a0 : (List T_RuleNode)) (a1 : (List Int)) (r : Int) (h : rule_Eval K a0 a1 = some r) : FnOk Tryd.prog 21 (ax_rule_Eval a0 a1) (rx_rule_Eval r) (px_rule_Eval r) := by
  refine ⟨⟨Tryd.f21, Tryd.func21, by kernel_rfl, by kernel_rfl⟩, ?_⟩
  unfold rule_Eval at h
  refine fn_ok env Tryd.func21 rfl ⟨102, [(0, .c (.lst 4 a0.length (encF e_RuleNode d_RuleNode a0))), (1, .c (.lst 1 a1.length (encF (eI .i64) 0 a1)))], [], []⟩ [] (by kernel_rfl) fun X => ?_
  refine tri_reg env [] 1 1024 [.keep [0, 1] [] []] ⟨102, [(0, .c (.lst 4 a0.length (encF e_RuleNode d_RuleNode a0))), (1, .c (.lst 1 a1.length (encF (eI .i64) 0 a1)))], [], []⟩ [] (by kernel_rfl) trivial ?_
  refine tri_seq ?_
  obtain ⟨y1, c2, h⟩ := bnd_inv h
  refine tri_reg env [(1, .call ⟨(ax_rule_right a0), [false], rx_rule_right y1, px_rule_right y1, true⟩)] 2 1024 [.keep [0, 1, 10] [] []] ⟨102, [(0, .c (.lst 4 a0.length (encF e_RuleNode d_RuleNode a0))), (1, .c (.lst 1 a1.length (encF (eI .i64) 0 a1))), (10, .c (.v (.bool (!y1))))], [], []⟩ [(EqXs (ax_rule_right a0) (ax_rule_right a0)), (FnOk Tryd.prog 47 (ax_rule_right a0) (rx_rule_right y1) (px_rule_right y1))] (by kernel_rfl) ⟨(eqs (eqr _) eqs0), (ok_rule_right K a0 y1 c2), trivial⟩ ?_
  refine tri_cond (!y1) (by kernel_rfl) (fun e3 => ?_) (fun e3 => ?_)
  · replace h := cnd_t h e3
    refine tri_reg env [] 3 1024 [.keep [4] [] []] ⟨102, [(4, .c (.v (.int .i64 0)))], [], []⟩ [] (by kernel_rfl) trivial ?_
    refine tri_ret ?_
    refine thenR ?_
    rw [some_inv h]
    exact ⟨[], by kernel_rfl, trivial⟩
  · replace h := cnd_f h e3
    refine tri_skip ?_
    refine thenN ?_
    obtain ⟨q4, h⟩ := ck_inv h
    refine tri_reg env [] 4 1024 [.arr (4002, 0) ((List.replicate a0.length (0 : Int)).length) (encF (eI .i64) 0 (List.replicate a0.length (0 : Int))), .slot 5 (.c (.ref (4002, 0) ((List.replicate a0.length (0 : Int)).length))), .keep [0, 1, 5] [] [(4002, 0)]] ⟨102, [(0, .c (.lst 4 a0.length (encF e_RuleNode d_RuleNode a0))), (1, .c (.lst 1 a1.length (encF (eI .i64) 0 a1))), (5, .c (.ref (4002, 0) ((List.replicate a0.length (0 : Int)).length)))], [], [((4002, 0), some ⟨false, 1, ((List.replicate a0.length (0 : Int)).length), encF (eI .i64) 0 (List.replicate a0.length (0 : Int))⟩)]⟩ [(0 ≤ ((a0.length : Nat) : Int)), (0 ≤ ((a0.length : Nat) : Int)), (a0.length = a0.length), (a0.length * 8 ≤ LIMIT ∧ a0.length < 2 ^ 63), (a0.length = (List.replicate a0.length (0 : Int)).length ∧ ∀ i, i < (List.replicate a0.length (0 : Int)).length → (fun _ => [.v (.int .i64 0)]) i = (encF (eI .i64) 0 (List.replicate a0.length (0 : Int))) i), (TellS (.c (.ref (4002, 0) a0.length)) (.c (.ref (4002, 0) ((List.replicate a0.length (0 : Int)).length))))] (by kernel_rfl) ⟨(Int.natCast_nonneg _), (Int.natCast_nonneg _), rfl, q4, (Tells.arr (Tells.repl (e := (eI .i64)) (d := 0) a0.length (x := 0) rfl)), (TellC.ref (Tells.len (e := (eI .i64)) (d := 0) (n := a0.length) (g := (fun _ => [.v (.int .i64 0)])) (L := (List.replicate a0.length (0 : Int))) (Tells.repl (e := (eI .i64)) (d := 0) a0.length (x := 0) rfl))), trivial⟩ ?_
    refine tri_joinC (fun (v3 : (List Int)) => ⟨102, [(5, .c (.ref (700003, 0) v3.length))], [], [((700003, 0), some ⟨false, 1, v3.length, encF (eI .i64) 0 v3⟩)]⟩) h (fun v3 h => ?_) (fun j3 h => ?_)
    · obtain ⟨q5, h⟩ := ck_inv h
      refine tri_reg env [] 18 1024 [.keep [4] [] []] ⟨102, [(4, .c (.v (.int .i64 (v3.getD ((IntKind.wrap .i64 (((v3.length : Nat) : Int) - 1)).toNat) 0))))], [], []⟩ [True, (0 ≤ (IntKind.wrap .i64 (((v3.length : Nat) : Int) - 1)) ∧ (IntKind.wrap .i64 (((v3.length : Nat) : Int) - 1)) < ((v3.length : Nat) : Int)), ((IntKind.wrap .i64 (((v3.length : Nat) : Int) - 1)).toNat < v3.length)] (by kernel_rfl) ⟨trivial, q5, (inr' q5), trivial⟩ ?_
      refine tri_ret ?_
      rw [some_inv h]
      exact ⟨[], by kernel_rfl, trivial⟩
    · refine tri_reg env [] 5 1024 [.keep [1, 5, 14, 15, 16] [] [(4002, 0)]] ⟨102, [(1, .c (.lst 1 a1.length (encF (eI .i64) 0 a1))), (5, .c (.ref (4002, 0) ((List.replicate a0.length (0 : Int)).length))), (14, .c (.lst 4 a0.length (encF e_RuleNode d_RuleNode a0))), (15, .c (.v (.int .i64 ((a0.length : Nat) : Int)))), (16, .c (.v (.int .i64 0)))], [], [((4002, 0), some ⟨false, 1, ((List.replicate a0.length (0 : Int)).length), encF (eI .i64) 0 (List.replicate a0.length (0 : Int))⟩)]⟩ [] (by kernel_rfl) trivial ?_
      refine tri_block ?_
      refine tri_tell [.keep [1, 5, 14, 15, 16] [] [(4002, 0)], .ren (4002, 0) (700001, 0)] ⟨102, [(1, .c (.lst 1 a1.length (encF (eI .i64) 0 a1))), (5, .c (.ref (700001, 0) ((List.replicate a0.length (0 : Int)).length))), (14, .c (.lst 4 a0.length (encF e_RuleNode d_RuleNode a0))), (15, .c (.v (.int .i64 ((a0.length : Nat) : Int)))), (16, .c (.v (.int .i64 0)))], [], [((700001, 0), some ⟨false, 1, ((List.replicate a0.length (0 : Int)).length), encF (eI .i64) 0 (List.replicate a0.length (0 : Int))⟩)]⟩ [] (by kernel_rfl) trivial ?_
      refine tri_loopK (fun (v1 : (Int × (List Int))) => ⟨102, [(1, .c (.lst 1 a1.length (encF (eI .i64) 0 a1))), (5, .c (.ref (700001, 0) v1.2.length)), (14, .c (.lst 4 a0.length (encF e_RuleNode d_RuleNode a0))), (15, .c (.v (.int .i64 ((a0.length : Nat) : Int)))), (16, .c (.v (.int .i64 v1.1)))], [], [((700001, 0), some ⟨false, 1, v1.2.length, encF (eI .i64) 0 v1.2⟩)]⟩) (v := (0, (List.replicate a0.length (0 : Int)))) h (fun self1 v1 h => ?_) (by kernel_rfl)
      unfold rule_Eval_b1 at h
      refine tri_reg env [] 6 1024 [.keep [1, 5, 14, 15, 16, 17] [] [(700001, 0)]] ⟨102, [(1, .c (.lst 1 a1.length (encF (eI .i64) 0 a1))), (5, .c (.ref (700001, 0) v1.2.length)), (14, .c (.lst 4 a0.length (encF e_RuleNode d_RuleNode a0))), (15, .c (.v (.int .i64 ((a0.length : Nat) : Int)))), (16, .c (.v (.int .i64 v1.1))), (17, .c (.v (.bool (decide (v1.1 < ((a0.length : Nat) : Int))))))], [], [((700001, 0), some ⟨false, 1, v1.2.length, encF (eI .i64) 0 v1.2⟩)]⟩ [True] (by kernel_rfl) ⟨trivial, trivial⟩ ?_
      refine tri_seq ?_
      refine tri_cond (decide (v1.1 < ((a0.length : Nat) : Int))) (by kernel_rfl) (fun e6 => ?_) (fun e6 => ?_)
      · replace h := cnd_t h e6
        refine tri_skip ?_
        refine thenN ?_
        refine tri_joinC (fun (v2 : (List Int)) => ⟨102, [(1, .c (.lst 1 a1.length (encF (eI .i64) 0 a1))), (5, .c (.ref (700002, 0) v2.length)), (14, .c (.lst 4 a0.length (encF e_RuleNode d_RuleNode a0))), (15, .c (.v (.int .i64 ((a0.length : Nat) : Int)))), (16, .c (.v (.int .i64 v1.1)))], [], [((700002, 0), some ⟨false, 1, v2.length, encF (eI .i64) 0 v2⟩)]⟩) h (fun v2 h => ?_) (fun j2 h => ?_)
        · refine tri_reg_end env [] 17 1024 [.keep [1, 5, 14, 15, 16] [] [(700002, 0)], .keep [1, 5, 14, 15, 16] [] [(700002, 0)], .ren (700002, 0) (700001, 0)] ⟨102, [(1, .c (.lst 1 a1.length (encF (eI .i64) 0 a1))), (5, .c (.ref (700001, 0) v2.length)), (14, .c (.lst 4 a0.length (encF e_RuleNode d_RuleNode a0))), (15, .c (.v (.int .i64 ((a0.length : Nat) : Int)))), (16, .c (.v (.int .i64 (IntKind.wrap .i64 (v1.1 + 1)))))], [], [((700001, 0), some ⟨false, 1, v2.length, encF (eI .i64) 0 v2⟩)]⟩ [True] (by kernel_rfl) ⟨trivial, trivial⟩ ?_
          exact thenJ ((IntKind.wrap .i64 (v1.1 + 1)), v2) h (by kernel_rfl)
        · refine tri_block ?_
          obtain ⟨q7, h⟩ := ck_inv h
          refine tri_reg env [] 7 1024 [.keep [1, 5, 6, 7, 14, 15, 16] [(7003, 0)] [(700001, 0)]] ⟨102, [(1, .c (.lst 1 a1.length (encF (eI .i64) 0 a1))), (5, .c (.ref (700001, 0) v1.2.length)), (6, .c (.v (.int .i64 v1.1))), (7, .c (.pvar (7003, 0) 0)), (14, .c (.lst 4 a0.length (encF e_RuleNode d_RuleNode a0))), (15, .c (.v (.int .i64 ((a0.length : Nat) : Int)))), (16, .c (.v (.int .i64 v1.1)))], [((7003, 0), (e_RuleNode (a0.getD v1.1.toNat d_RuleNode)))], [((700001, 0), some ⟨false, 1, v1.2.length, encF (eI .i64) 0 v1.2⟩)]⟩ [(0 ≤ v1.1 ∧ v1.1 < ((a0.length : Nat) : Int))] (by kernel_rfl) ⟨q7, trivial⟩ ?_
          refine tri_reg env [] 8 1024 [.keep [1, 5, 6, 7, 14, 15, 16, 22] [(7003, 0)] [(700001, 0)]] ⟨102, [(1, .c (.lst 1 a1.length (encF (eI .i64) 0 a1))), (5, .c (.ref (700001, 0) v1.2.length)), (6, .c (.v (.int .i64 v1.1))), (7, .c (.pvar (7003, 0) 0)), (14, .c (.lst 4 a0.length (encF e_RuleNode d_RuleNode a0))), (15, .c (.v (.int .i64 ((a0.length : Nat) : Int)))), (16, .c (.v (.int .i64 v1.1))), (22, .c (.v (.int .i64 (a0.getD v1.1.toNat d_RuleNode).Kind)))], [((7003, 0), (e_RuleNode (a0.getD v1.1.toNat d_RuleNode)))], [((700001, 0), some ⟨false, 1, v1.2.length, encF (eI .i64) 0 v1.2⟩)]⟩ [] (by kernel_rfl) trivial ?_
          refine tri_block ?_
          refine tri_reg env [] 10 1024 [.keep [1, 5, 6, 7, 14, 15, 16, 22, 37] [(7003, 0)] [(700001, 0)]] ⟨102, [(1, .c (.lst 1 a1.length (encF (eI .i64) 0 a1))), (5, .c (.ref (700001, 0) v1.2.length)), (6, .c (.v (.int .i64 v1.1))), (7, .c (.pvar (7003, 0) 0)), (14, .c (.lst 4 a0.length (encF e_RuleNode d_RuleNode a0))), (15, .c (.v (.int .i64 ((a0.length : Nat) : Int)))), (16, .c (.v (.int .i64 v1.1))), (22, .c (.v (.int .i64 (a0.getD v1.1.toNat d_RuleNode).Kind))), (37, .c (.v (.bool ((a0.getD v1.1.toNat d_RuleNode).Kind == 1))))], [((7003, 0), (e_RuleNode (a0.getD v1.1.toNat d_RuleNode)))], [((700001, 0), some ⟨false, 1, v1.2.length, encF (eI .i64) 0 v1.2⟩)]⟩ [True] (by kernel_rfl) ⟨trivial, trivial⟩ ?_
          refine tri_cond ((a0.getD v1.1.toNat d_RuleNode).Kind == 1) (by kernel_rfl) (fun e8 => ?_) (fun e8 => ?_)
          · replace h := cnd_t h e8
            refine cnd_split h (fun e9 h => ?_) (fun e9 h => ?_)
            · obtain ⟨q10, h⟩ := ck_inv h
              refine cnd_split h (fun e11 h => ?_) (fun e11 h => ?_)
              · refine tri_reg env [(5, .b true), (12, .b true), (13, .b true), (20, .b true)] 11 1024 [.keep [1, 5, 6, 7, 14, 15, 16, 59] [(7003, 0)] [(700001, 0)]] ⟨102, [(1, .c (.lst 1 a1.length (encF (eI .i64) 0 a1))), (5, .c (.ref (700001, 0) v1.2.length)), (6, .c (.v (.int .i64 v1.1))), (7, .c (.pvar (7003, 0) 0)), (14, .c (.lst 4 a0.length (encF e_RuleNode d_RuleNode a0))), (15, .c (.v (.int .i64 ((a0.length : Nat) : Int)))), (16, .c (.v (.int .i64 v1.1))), (59, .c (.v (.bool (decide ((a1.getD (((a0.getD v1.1.toNat d_RuleNode).Cond).toNat) 0) ≤ 1)))))], [((7003, 0), (e_RuleNode (a0.getD v1.1.toNat d_RuleNode)))], [((700001, 0), some ⟨false, 1, v1.2.length, encF (eI .i64) 0 v1.2⟩)]⟩ [True, ((decide ((a0.getD v1.1.toNat d_RuleNode).Cond < ((a1.length : Nat) : Int))) = true), ((decide ((a0.getD v1.1.toNat d_RuleNode).Cond < ((a1.length : Nat) : Int))) = true), ((decide ((a0.getD v1.1.toNat d_RuleNode).Cond < ((a1.length : Nat) : Int))) = true), ((decide ((a0.getD v1.1.toNat d_RuleNode).Cond < ((a1.length : Nat) : Int))) = true), (0 ≤ (a0.getD v1.1.toNat d_RuleNode).Cond ∧ (a0.getD v1.1.toNat d_RuleNode).Cond < ((a1.length : Nat) : Int)), ((decide ((a0.getD v1.1.toNat d_RuleNode).Cond < ((a1.length : Nat) : Int))) = true), ((decide ((a0.getD v1.1.toNat d_RuleNode).Cond < ((a1.length : Nat) : Int))) = true), True, ((decide ((a0.getD v1.1.toNat d_RuleNode).Cond < ((a1.length : Nat) : Int))) = true), ((decide ((a1.getD (((a0.getD v1.1.toNat d_RuleNode).Cond).toNat) 0) ≥ (-1))) = true), ((decide ((a1.getD (((a0.getD v1.1.toNat d_RuleNode).Cond).toNat) 0) ≥ (-1))) = true), ((decide ((a1.getD (((a0.getD v1.1.toNat d_RuleNode).Cond).toNat) 0) ≥ (-1))) = true), ((decide ((a1.getD (((a0.getD v1.1.toNat d_RuleNode).Cond).toNat) 0) ≥ (-1))) = true), (0 ≤ (a0.getD v1.1.toNat d_RuleNode).Cond ∧ (a0.getD v1.1.toNat d_RuleNode).Cond < ((a1.length : Nat) : Int)), ((decide ((a1.getD (((a0.getD v1.1.toNat d_RuleNode).Cond).toNat) 0) ≥ (-1))) = true), ((decide ((a1.getD (((a0.getD v1.1.toNat d_RuleNode).Cond).toNat) 0) ≥ (-1))) = true), True, ((decide ((a1.getD (((a0.getD v1.1.toNat d_RuleNode).Cond).toNat) 0) ≥ (-1))) = true)] (by kernel_rfl) ⟨trivial, e9, e9, e9, e9, q10, e9, e9, trivial, e9, e11, e11, e11, e11, q10, e11, e11, trivial, e11, trivial⟩ ?_
                refine tri_cond (decide ((a1.getD (((a0.getD v1.1.toNat d_RuleNode).Cond).toNat) 0) ≤ 1)) (by kernel_rfl) (fun e12 => ?_) (fun e12 => ?_)
                · replace h := cnd_t h e12
                  obtain ⟨q13, h⟩ := ck_inv h
                  refine tri_reg_end env [] 12 1024 [.arr (700001, 0) ((v1.2.set v1.1.toNat (a1.getD (((a0.getD v1.1.toNat d_RuleNode).Cond).toNat) 0)).length) (encF (eI .i64) 0 (v1.2.set v1.1.toNat (a1.getD (((a0.getD v1.1.toNat d_RuleNode).Cond).toNat) 0))), .slot 5 (.c (.ref (700001, 0) ((v1.2.set v1.1.toNat (a1.getD (((a0.getD v1.1.toNat d_RuleNode).Cond).toNat) 0)).length))), .keep [1, 5, 14, 15, 16] [] [(700001, 0)], .keep [1, 5, 14, 15, 16] [] [(700001, 0)], .ren (700001, 0) (700002, 0)] ⟨102, [(1, .c (.lst 1 a1.length (encF (eI .i64) 0 a1))), (5, .c (.ref (700002, 0) ((v1.2.set v1.1.toNat (a1.getD (((a0.getD v1.1.toNat d_RuleNode).Cond).toNat) 0)).length))), (14, .c (.lst 4 a0.length (encF e_RuleNode d_RuleNode a0))), (15, .c (.v (.int .i64 ((a0.length : Nat) : Int)))), (16, .c (.v (.int .i64 v1.1)))], [], [((700002, 0), some ⟨false, 1, ((v1.2.set v1.1.toNat (a1.getD (((a0.getD v1.1.toNat d_RuleNode).Cond).toNat) 0)).length), encF (eI .i64) 0 (v1.2.set v1.1.toNat (a1.getD (((a0.getD v1.1.toNat d_RuleNode).Cond).toNat) 0))⟩)]⟩ [(0 ≤ (a0.getD v1.1.toNat d_RuleNode).Cond ∧ (a0.getD v1.1.toNat d_RuleNode).Cond < ((a1.length : Nat) : Int)), (0 ≤ v1.1 ∧ v1.1 < ((v1.2.length : Nat) : Int)), (v1.1.toNat < v1.2.length), (v1.2.length = (v1.2.set v1.1.toNat (a1.getD (((a0.getD v1.1.toNat d_RuleNode).Cond).toNat) 0)).length ∧ ∀ i, i < (v1.2.set v1.1.toNat (a1.getD (((a0.getD v1.1.toNat d_RuleNode).Cond).toNat) 0)).length → (putG (encF (eI .i64) 0 v1.2) v1.1.toNat 0 [.v (.int .i64 (a1.getD (((a0.getD v1.1.toNat d_RuleNode).Cond).toNat) 0))]) i = (encF (eI .i64) 0 (v1.2.set v1.1.toNat (a1.getD (((a0.getD v1.1.toNat d_RuleNode).Cond).toNat) 0))) i), (TellS (.c (.ref (700001, 0) v1.2.length)) (.c (.ref (700001, 0) ((v1.2.set v1.1.toNat (a1.getD (((a0.getD v1.1.toNat d_RuleNode).Cond).toNat) 0)).length))))] (by kernel_rfl) ⟨q10, q13, (inr' q13), (Tells.arr (Tells.set (Tells.rfl' (e := (eI .i64)) (d := 0) (L := v1.2)) v1.1.toNat 0 [.v (.int .i64 (a1.getD (((a0.getD v1.1.toNat d_RuleNode).Cond).toNat) 0))] (a1.getD (((a0.getD v1.1.toNat d_RuleNode).Cond).toNat) 0) (inr' q13) rfl)), (TellC.ref (Tells.len (e := (eI .i64)) (d := 0) (n := v1.2.length) (g := (putG (encF (eI .i64) 0 v1.2) v1.1.toNat 0 [.v (.int .i64 (a1.getD (((a0.getD v1.1.toNat d_RuleNode).Cond).toNat) 0))])) (L := (v1.2.set v1.1.toNat (a1.getD (((a0.getD v1.1.toNat d_RuleNode).Cond).toNat) 0))) (Tells.set (Tells.rfl' (e := (eI .i64)) (d := 0) (L := v1.2)) v1.1.toNat 0 [.v (.int .i64 (a1.getD (((a0.getD v1.1.toNat d_RuleNode).Cond).toNat) 0))] (a1.getD (((a0.getD v1.1.toNat d_RuleNode).Cond).toNat) 0) (inr' q13) rfl))), trivial⟩ ?_
                  refine inBN ?_
                  refine inBN ?_
                  exact thenJ (v1.2.set v1.1.toNat (a1.getD (((a0.getD v1.1.toNat d_RuleNode).Cond).toNat) 0)) h (by kernel_rfl)
                · replace h := cnd_f h e12
                  refine tri_tell [.keep [1, 5, 14, 15, 16] [] [(700001, 0)], .ren (700001, 0) (700002, 0)] ⟨102, [(1, .c (.lst 1 a1.length (encF (eI .i64) 0 a1))), (5, .c (.ref (700002, 0) v1.2.length)), (14, .c (.lst 4 a0.length (encF e_RuleNode d_RuleNode a0))), (15, .c (.v (.int .i64 ((a0.length : Nat) : Int)))), (16, .c (.v (.int .i64 v1.1)))], [], [((700002, 0), some ⟨false, 1, v1.2.length, encF (eI .i64) 0 v1.2⟩)]⟩ [] (by kernel_rfl) trivial ?_
                  refine tri_skip ?_
                  refine inBN ?_
                  refine inBN ?_
                  exact thenJ v1.2 h (by kernel_rfl)
              · refine tri_reg env [(5, .b true), (12, .b true), (13, .b false), (20, .b false)] 11 1024 [.keep [1, 5, 6, 7, 14, 15, 16, 59] [(7003, 0)] [(700001, 0)]] ⟨102, [(1, .c (.lst 1 a1.length (encF (eI .i64) 0 a1))), (5, .c (.ref (700001, 0) v1.2.length)), (6, .c (.v (.int .i64 v1.1))), (7, .c (.pvar (7003, 0) 0)), (14, .c (.lst 4 a0.length (encF e_RuleNode d_RuleNode a0))), (15, .c (.v (.int .i64 ((a0.length : Nat) : Int)))), (16, .c (.v (.int .i64 v1.1))), (59, .c (.v (.bool false)))], [((7003, 0), (e_RuleNode (a0.getD v1.1.toNat d_RuleNode)))], [((700001, 0), some ⟨false, 1, v1.2.length, encF (eI .i64) 0 v1.2⟩)]⟩ [True, ((decide ((a0.getD v1.1.toNat d_RuleNode).Cond < ((a1.length : Nat) : Int))) = true), ((decide ((a0.getD v1.1.toNat d_RuleNode).Cond < ((a1.length : Nat) : Int))) = true), ((decide ((a0.getD v1.1.toNat d_RuleNode).Cond < ((a1.length : Nat) : Int))) = true), ((decide ((a0.getD v1.1.toNat d_RuleNode).Cond < ((a1.length : Nat) : Int))) = true), (0 ≤ (a0.getD v1.1.toNat d_RuleNode).Cond ∧ (a0.getD v1.1.toNat d_RuleNode).Cond < ((a1.length : Nat) : Int)), ((decide ((a0.getD v1.1.toNat d_RuleNode).Cond < ((a1.length : Nat) : Int))) = true), ((decide ((a0.getD v1.1.toNat d_RuleNode).Cond < ((a1.length : Nat) : Int))) = true), True, ((decide ((a0.getD v1.1.toNat d_RuleNode).Cond < ((a1.length : Nat) : Int))) = true), ((decide ((a1.getD (((a0.getD v1.1.toNat d_RuleNode).Cond).toNat) 0) ≥ (-1))) = false), ((decide ((a1.getD (((a0.getD v1.1.toNat d_RuleNode).Cond).toNat) 0) ≥ (-1))) = false), ((decide ((a1.getD (((a0.getD v1.1.toNat d_RuleNode).Cond).toNat) 0) ≥ (-1))) = false), ((decide ((a1.getD (((a0.getD v1.1.toNat d_RuleNode).Cond).toNat) 0) ≥ (-1))) = false), ((decide ((a1.getD (((a0.getD v1.1.toNat d_RuleNode).Cond).toNat) 0) ≥ (-1))) = false), ((decide ((a1.getD (((a0.getD v1.1.toNat d_RuleNode).Cond).toNat) 0) ≥ (-1))) = false), ((decide ((a1.getD (((a0.getD v1.1.toNat d_RuleNode).Cond).toNat) 0) ≥ (-1))) = false)] (by kernel_rfl) ⟨trivial, e9, e9, e9, e9, q10, e9, e9, trivial, e9, e11, e11, e11, e11, e11, e11, e11, trivial⟩ ?_
                refine tri_cond false (by kernel_rfl) (fun e => by cases e) (fun _ => ?_)
                refine tri_tell [.keep [1, 5, 14, 15, 16] [] [(700001, 0)], .ren (700001, 0) (700002, 0)] ⟨102, [(1, .c (.lst 1 a1.length (encF (eI .i64) 0 a1))), (5, .c (.ref (700002, 0) v1.2.length)), (14, .c (.lst 4 a0.length (encF e_RuleNode d_RuleNode a0))), (15, .c (.v (.int .i64 ((a0.length : Nat) : Int)))), (16, .c (.v (.int .i64 v1.1)))], [], [((700002, 0), some ⟨false, 1, v1.2.length, encF (eI .i64) 0 v1.2⟩)]⟩ [] (by kernel_rfl) trivial ?_
                refine tri_skip ?_
                refine inBN ?_
                refine inBN ?_
                exact thenJ v1.2 h (by kernel_rfl)
            · refine tri_reg env [(5, .b false), (12, .b false), (13, .b false), (20, .b false)] 11 1024 [.keep [1, 5, 6, 7, 14, 15, 16, 59] [(7003, 0)] [(700001, 0)]] ⟨102, [(1, .c (.lst 1 a1.length (encF (eI .i64) 0 a1))), (5, .c (.ref (700001, 0) v1.2.length)), (6, .c (.v (.int .i64 v1.1))), (7, .c (.pvar (7003, 0) 0)), (14, .c (.lst 4 a0.length (encF e_RuleNode d_RuleNode a0))), (15, .c (.v (.int .i64 ((a0.length : Nat) : Int)))), (16, .c (.v (.int .i64 v1.1))), (59, .c (.v (.bool false)))], [((7003, 0), (e_RuleNode (a0.getD v1.1.toNat d_RuleNode)))], [((700001, 0), some ⟨false, 1, v1.2.length, encF (eI .i64) 0 v1.2⟩)]⟩ [True, ((decide ((a0.getD v1.1.toNat d_RuleNode).Cond < ((a1.length : Nat) : Int))) = false), ((decide ((a0.getD v1.1.toNat d_RuleNode).Cond < ((a1.length : Nat) : Int))) = false), ((decide ((a0.getD v1.1.toNat d_RuleNode).Cond < ((a1.length : Nat) : Int))) = false), ((decide ((a0.getD v1.1.toNat d_RuleNode).Cond < ((a1.length : Nat) : Int))) = false), ((decide ((a0.getD v1.1.toNat d_RuleNode).Cond < ((a1.length : Nat) : Int))) = false), ((decide ((a0.getD v1.1.toNat d_RuleNode).Cond < ((a1.length : Nat) : Int))) = false), ((decide ((a0.getD v1.1.toNat d_RuleNode).Cond < ((a1.length : Nat) : Int))) = false), (false = false), (false = false), (false = false), (false = false), (false = false), (false = false), (false = false)] (by kernel_rfl) ⟨trivial, e9, e9, e9, e9, e9, e9, e9, rfl, rfl, rfl, rfl, rfl, rfl, rfl, trivial⟩ ?_
              refine tri_cond false (by kernel_rfl) (fun e => by cases e) (fun _ => ?_)
              refine tri_tell [.keep [1, 5, 14, 15, 16] [] [(700001, 0)], .ren (700001, 0) (700002, 0)] ⟨102, [(1, .c (.lst 1 a1.length (encF (eI .i64) 0 a1))), (5, .c (.ref (700002, 0) v1.2.length)), (14, .c (.lst 4 a0.length (encF e_RuleNode d_RuleNode a0))), (15, .c (.v (.int .i64 ((a0.length : Nat) : Int)))), (16, .c (.v (.int .i64 v1.1)))], [], [((700002, 0), some ⟨false, 1, v1.2.length, encF (eI .i64) 0 v1.2⟩)]⟩ [] (by kernel_rfl) trivial ?_
              refine tri_skip ?_
              refine inBN ?_
              refine inBN ?_
              exact thenJ v1.2 h (by kernel_rfl)
          · replace h := cnd_f h e8
            refine tri_reg env [] 13 1024 [.keep [1, 5, 6, 7, 14, 15, 16, 22, 68] [(7003, 0)] [(700001, 0)]] ⟨102, [(1, .c (.lst 1 a1.length (encF (eI .i64) 0 a1))), (5, .c (.ref (700001, 0) v1.2.length)), (6, .c (.v (.int .i64 v1.1))), (7, .c (.pvar (7003, 0) 0)), (14, .c (.lst 4 a0.length (encF e_RuleNode d_RuleNode a0))), (15, .c (.v (.int .i64 ((a0.length : Nat) : Int)))), (16, .c (.v (.int .i64 v1.1))), (22, .c (.v (.int .i64 (a0.getD v1.1.toNat d_RuleNode).Kind))), (68, .c (.v (.bool ((a0.getD v1.1.toNat d_RuleNode).Kind == 2))))], [((7003, 0), (e_RuleNode (a0.getD v1.1.toNat d_RuleNode)))], [((700001, 0), some ⟨false, 1, v1.2.length, encF (eI .i64) 0 v1.2⟩)]⟩ [True] (by kernel_rfl) ⟨trivial, trivial⟩ ?_
            refine tri_cond ((a0.getD v1.1.toNat d_RuleNode).Kind == 2) (by kernel_rfl) (fun e16 => ?_) (fun e16 => ?_)
            · replace h := cnd_t h e16
              obtain ⟨q17, h⟩ := ck_inv h
              obtain ⟨q18, h⟩ := ck_inv h
              refine tri_reg_end env [] 14 1024 [.arr (700001, 0) ((v1.2.set v1.1.toNat (IntKind.wrap .i64 (0 - (v1.2.getD (((a0.getD v1.1.toNat d_RuleNode).Left).toNat) 0)))).length) (encF (eI .i64) 0 (v1.2.set v1.1.toNat (IntKind.wrap .i64 (0 - (v1.2.getD (((a0.getD v1.1.toNat d_RuleNode).Left).toNat) 0))))), .slot 5 (.c (.ref (700001, 0) ((v1.2.set v1.1.toNat (IntKind.wrap .i64 (0 - (v1.2.getD (((a0.getD v1.1.toNat d_RuleNode).Left).toNat) 0)))).length))), .keep [1, 5, 14, 15, 16] [] [(700001, 0)], .keep [1, 5, 14, 15, 16] [] [(700001, 0)], .ren (700001, 0) (700002, 0)] ⟨102, [(1, .c (.lst 1 a1.length (encF (eI .i64) 0 a1))), (5, .c (.ref (700002, 0) ((v1.2.set v1.1.toNat (IntKind.wrap .i64 (0 - (v1.2.getD (((a0.getD v1.1.toNat d_RuleNode).Left).toNat) 0)))).length))), (14, .c (.lst 4 a0.length (encF e_RuleNode d_RuleNode a0))), (15, .c (.v (.int .i64 ((a0.length : Nat) : Int)))), (16, .c (.v (.int .i64 v1.1)))], [], [((700002, 0), some ⟨false, 1, ((v1.2.set v1.1.toNat (IntKind.wrap .i64 (0 - (v1.2.getD (((a0.getD v1.1.toNat d_RuleNode).Left).toNat) 0)))).length), encF (eI .i64) 0 (v1.2.set v1.1.toNat (IntKind.wrap .i64 (0 - (v1.2.getD (((a0.getD v1.1.toNat d_RuleNode).Left).toNat) 0))))⟩)]⟩ [(0 ≤ (a0.getD v1.1.toNat d_RuleNode).Left ∧ (a0.getD v1.1.toNat d_RuleNode).Left < ((v1.2.length : Nat) : Int)), (((a0.getD v1.1.toNat d_RuleNode).Left).toNat < v1.2.length), (0 ≤ v1.1 ∧ v1.1 < ((v1.2.length : Nat) : Int)), (v1.1.toNat < v1.2.length), (v1.2.length = (v1.2.set v1.1.toNat (IntKind.wrap .i64 (0 - (v1.2.getD (((a0.getD v1.1.toNat d_RuleNode).Left).toNat) 0)))).length ∧ ∀ i, i < (v1.2.set v1.1.toNat (IntKind.wrap .i64 (0 - (v1.2.getD (((a0.getD v1.1.toNat d_RuleNode).Left).toNat) 0)))).length → (putG (encF (eI .i64) 0 v1.2) v1.1.toNat 0 [.v (.int .i64 (IntKind.wrap .i64 (0 - (v1.2.getD (((a0.getD v1.1.toNat d_RuleNode).Left).toNat) 0))))]) i = (encF (eI .i64) 0 (v1.2.set v1.1.toNat (IntKind.wrap .i64 (0 - (v1.2.getD (((a0.getD v1.1.toNat d_RuleNode).Left).toNat) 0))))) i), (TellS (.c (.ref (700001, 0) v1.2.length)) (.c (.ref (700001, 0) ((v1.2.set v1.1.toNat (IntKind.wrap .i64 (0 - (v1.2.getD (((a0.getD v1.1.toNat d_RuleNode).Left).toNat) 0)))).length))))] (by kernel_rfl) ⟨q17, (inr' q17), q18, (inr' q18), (Tells.arr (Tells.set (Tells.rfl' (e := (eI .i64)) (d := 0) (L := v1.2)) v1.1.toNat 0 [.v (.int .i64 (IntKind.wrap .i64 (0 - (v1.2.getD (((a0.getD v1.1.toNat d_RuleNode).Left).toNat) 0))))] (IntKind.wrap .i64 (0 - (v1.2.getD (((a0.getD v1.1.toNat d_RuleNode).Left).toNat) 0))) (inr' q18) rfl)), (TellC.ref (Tells.len (e := (eI .i64)) (d := 0) (n := v1.2.length) (g := (putG (encF (eI .i64) 0 v1.2) v1.1.toNat 0 [.v (.int .i64 (IntKind.wrap .i64 (0 - (v1.2.getD (((a0.getD v1.1.toNat d_RuleNode).Left).toNat) 0))))])) (L := (v1.2.set v1.1.toNat (IntKind.wrap .i64 (0 - (v1.2.getD (((a0.getD v1.1.toNat d_RuleNode).Left).toNat) 0))))) (Tells.set (Tells.rfl' (e := (eI .i64)) (d := 0) (L := v1.2)) v1.1.toNat 0 [.v (.int .i64 (IntKind.wrap .i64 (0 - (v1.2.getD (((a0.getD v1.1.toNat d_RuleNode).Left).toNat) 0))))] (IntKind.wrap .i64 (0 - (v1.2.getD (((a0.getD v1.1.toNat d_RuleNode).Left).toNat) 0))) (inr' q18) rfl))), trivial⟩ ?_
              refine inBN ?_
              refine inBN ?_
              exact thenJ (v1.2.set v1.1.toNat (IntKind.wrap .i64 (0 - (v1.2.getD (((a0.getD v1.1.toNat d_RuleNode).Left).toNat) 0)))) h (by kernel_rfl)
            · replace h := cnd_f h e16
              refine tri_reg env [] 15 1024 [.keep [1, 5, 6, 7, 14, 15, 16, 79] [(7003, 0)] [(700001, 0)]] ⟨102, [(1, .c (.lst 1 a1.length (encF (eI .i64) 0 a1))), (5, .c (.ref (700001, 0) v1.2.length)), (6, .c (.v (.int .i64 v1.1))), (7, .c (.pvar (7003, 0) 0)), (14, .c (.lst 4 a0.length (encF e_RuleNode d_RuleNode a0))), (15, .c (.v (.int .i64 ((a0.length : Nat) : Int)))), (16, .c (.v (.int .i64 v1.1))), (79, .c (.v (.bool ((a0.getD v1.1.toNat d_RuleNode).Kind == 3))))], [((7003, 0), (e_RuleNode (a0.getD v1.1.toNat d_RuleNode)))], [((700001, 0), some ⟨false, 1, v1.2.length, encF (eI .i64) 0 v1.2⟩)]⟩ [True] (by kernel_rfl) ⟨trivial, trivial⟩ ?_
              refine tri_cond ((a0.getD v1.1.toNat d_RuleNode).Kind == 3) (by kernel_rfl) (fun e19 => ?_) (fun e19 => ?_)
              · replace h := cnd_t h e19
                obtain ⟨q20, h⟩ := ck_inv h
                obtain ⟨q21, h⟩ := ck_inv h
                obtain ⟨q22, h⟩ := ck_inv h
                refine tri_reg_end env [] 16 1024 [.arr (700001, 0) ((v1.2.set v1.1.toNat (if (v1.2.getD (((a0.getD v1.1.toNat d_RuleNode).Right).toNat) 0) < (v1.2.getD (((a0.getD v1.1.toNat d_RuleNode).Left).toNat) 0) then (v1.2.getD (((a0.getD v1.1.toNat d_RuleNode).Right).toNat) 0) else (v1.2.getD (((a0.getD v1.1.toNat d_RuleNode).Left).toNat) 0))).length) (encF (eI .i64) 0 (v1.2.set v1.1.toNat (if (v1.2.getD (((a0.getD v1.1.toNat d_RuleNode).Right).toNat) 0) < (v1.2.getD (((a0.getD v1.1.toNat d_RuleNode).Left).toNat) 0) then (v1.2.getD (((a0.getD v1.1.toNat d_RuleNode).Right).toNat) 0) else (v1.2.getD (((a0.getD v1.1.toNat d_RuleNode).Left).toNat) 0)))), .slot 5 (.c (.ref (700001, 0) ((v1.2.set v1.1.toNat (if (v1.2.getD (((a0.getD v1.1.toNat d_RuleNode).Right).toNat) 0) < (v1.2.getD (((a0.getD v1.1.toNat d_RuleNode).Left).toNat) 0) then (v1.2.getD (((a0.getD v1.1.toNat d_RuleNode).Right).toNat) 0) else (v1.2.getD (((a0.getD v1.1.toNat d_RuleNode).Left).toNat) 0))).length))), .keep [1, 5, 14, 15, 16] [] [(700001, 0)], .keep [1, 5, 14, 15, 16] [] [(700001, 0)], .ren (700001, 0) (700002, 0)] ⟨102, [(1, .c (.lst 1 a1.length (encF (eI .i64) 0 a1))), (5, .c (.ref (700002, 0) ((v1.2.set v1.1.toNat (if (v1.2.getD (((a0.getD v1.1.toNat d_RuleNode).Right).toNat) 0) < (v1.2.getD (((a0.getD v1.1.toNat d_RuleNode).Left).toNat) 0) then (v1.2.getD (((a0.getD v1.1.toNat d_RuleNode).Right).toNat) 0) else (v1.2.getD (((a0.getD v1.1.toNat d_RuleNode).Left).toNat) 0))).length))), (14, .c (.lst 4 a0.length (encF e_RuleNode d_RuleNode a0))), (15, .c (.v (.int .i64 ((a0.length : Nat) : Int)))), (16, .c (.v (.int .i64 v1.1)))], [], [((700002, 0), some ⟨false, 1, ((v1.2.set v1.1.toNat (if (v1.2.getD (((a0.getD v1.1.toNat d_RuleNode).Right).toNat) 0) < (v1.2.getD (((a0.getD v1.1.toNat d_RuleNode).Left).toNat) 0) then (v1.2.getD (((a0.getD v1.1.toNat d_RuleNode).Right).toNat) 0) else (v1.2.getD (((a0.getD v1.1.toNat d_RuleNode).Left).toNat) 0))).length), encF (eI .i64) 0 (v1.2.set v1.1.toNat (if (v1.2.getD (((a0.getD v1.1.toNat d_RuleNode).Right).toNat) 0) < (v1.2.getD (((a0.getD v1.1.toNat d_RuleNode).Left).toNat) 0) then (v1.2.getD (((a0.getD v1.1.toNat d_RuleNode).Right).toNat) 0) else (v1.2.getD (((a0.getD v1.1.toNat d_RuleNode).Left).toNat) 0)))⟩)]⟩ [(0 ≤ (a0.getD v1.1.toNat d_RuleNode).Left ∧ (a0.getD v1.1.toNat d_RuleNode).Left < ((v1.2.length : Nat) : Int)), (((a0.getD v1.1.toNat d_RuleNode).Left).toNat < v1.2.length), (0 ≤ (a0.getD v1.1.toNat d_RuleNode).Right ∧ (a0.getD v1.1.toNat d_RuleNode).Right < ((v1.2.length : Nat) : Int)), (((a0.getD v1.1.toNat d_RuleNode).Right).toNat < v1.2.length), (0 ≤ v1.1 ∧ v1.1 < ((v1.2.length : Nat) : Int)), (v1.1.toNat < v1.2.length), (v1.2.length = (v1.2.set v1.1.toNat (if (v1.2.getD (((a0.getD v1.1.toNat d_RuleNode).Right).toNat) 0) < (v1.2.getD (((a0.getD v1.1.toNat d_RuleNode).Left).toNat) 0) then (v1.2.getD (((a0.getD v1.1.toNat d_RuleNode).Right).toNat) 0) else (v1.2.getD (((a0.getD v1.1.toNat d_RuleNode).Left).toNat) 0))).length ∧ ∀ i, i < (v1.2.set v1.1.toNat (if (v1.2.getD (((a0.getD v1.1.toNat d_RuleNode).Right).toNat) 0) < (v1.2.getD (((a0.getD v1.1.toNat d_RuleNode).Left).toNat) 0) then (v1.2.getD (((a0.getD v1.1.toNat d_RuleNode).Right).toNat) 0) else (v1.2.getD (((a0.getD v1.1.toNat d_RuleNode).Left).toNat) 0))).length → (putG (encF (eI .i64) 0 v1.2) v1.1.toNat 0 [.v (.int .i64 (if (v1.2.getD (((a0.getD v1.1.toNat d_RuleNode).Right).toNat) 0) < (v1.2.getD (((a0.getD v1.1.toNat d_RuleNode).Left).toNat) 0) then (v1.2.getD (((a0.getD v1.1.toNat d_RuleNode).Right).toNat) 0) else (v1.2.getD (((a0.getD v1.1.toNat d_RuleNode).Left).toNat) 0)))]) i = (encF (eI .i64) 0 (v1.2.set v1.1.toNat (if (v1.2.getD (((a0.getD v1.1.toNat d_RuleNode).Right).toNat) 0) < (v1.2.getD (((a0.getD v1.1.toNat d_RuleNode).Left).toNat) 0) then (v1.2.getD (((a0.getD v1.1.toNat d_RuleNode).Right).toNat) 0) else (v1.2.getD (((a0.getD v1.1.toNat d_RuleNode).Left).toNat) 0)))) i), (TellS (.c (.ref (700001, 0) v1.2.length)) (.c (.ref (700001, 0) ((v1.2.set v1.1.toNat (if (v1.2.getD (((a0.getD v1.1.toNat d_RuleNode).Right).toNat) 0) < (v1.2.getD (((a0.getD v1.1.toNat d_RuleNode).Left).toNat) 0) then (v1.2.getD (((a0.getD v1.1.toNat d_RuleNode).Right).toNat) 0) else (v1.2.getD (((a0.getD v1.1.toNat d_RuleNode).Left).toNat) 0))).length))))] (by kernel_rfl) ⟨q20, (inr' q20), q21, (inr' q21), q22, (inr' q22), (Tells.arr (Tells.set (Tells.rfl' (e := (eI .i64)) (d := 0) (L := v1.2)) v1.1.toNat 0 [.v (.int .i64 (if (v1.2.getD (((a0.getD v1.1.toNat d_RuleNode).Right).toNat) 0) < (v1.2.getD (((a0.getD v1.1.toNat d_RuleNode).Left).toNat) 0) then (v1.2.getD (((a0.getD v1.1.toNat d_RuleNode).Right).toNat) 0) else (v1.2.getD (((a0.getD v1.1.toNat d_RuleNode).Left).toNat) 0)))] (if (v1.2.getD (((a0.getD v1.1.toNat d_RuleNode).Right).toNat) 0) < (v1.2.getD (((a0.getD v1.1.toNat d_RuleNode).Left).toNat) 0) then (v1.2.getD (((a0.getD v1.1.toNat d_RuleNode).Right).toNat) 0) else (v1.2.getD (((a0.getD v1.1.toNat d_RuleNode).Left).toNat) 0)) (inr' q22) rfl)), (TellC.ref (Tells.len (e := (eI .i64)) (d := 0) (n := v1.2.length) (g := (putG (encF (eI .i64) 0 v1.2) v1.1.toNat 0 [.v (.int .i64 (if (v1.2.getD (((a0.getD v1.1.toNat d_RuleNode).Right).toNat) 0) < (v1.2.getD (((a0.getD v1.1.toNat d_RuleNode).Left).toNat) 0) then (v1.2.getD (((a0.getD v1.1.toNat d_RuleNode).Right).toNat) 0) else (v1.2.getD (((a0.getD v1.1.toNat d_RuleNode).Left).toNat) 0)))])) (L := (v1.2.set v1.1.toNat (if (v1.2.getD (((a0.getD v1.1.toNat d_RuleNode).Right).toNat) 0) < (v1.2.getD (((a0.getD v1.1.toNat d_RuleNode).Left).toNat) 0) then (v1.2.getD (((a0.getD v1.1.toNat d_RuleNode).Right).toNat) 0) else (v1.2.getD (((a0.getD v1.1.toNat d_RuleNode).Left).toNat) 0)))) (Tells.set (Tells.rfl' (e := (eI .i64)) (d := 0) (L := v1.2)) v1.1.toNat 0 [.v (.int .i64 (if (v1.2.getD (((a0.getD v1.1.toNat d_RuleNode).Right).toNat) 0) < (v1.2.getD (((a0.getD v1.1.toNat d_RuleNode).Left).toNat) 0) then (v1.2.getD (((a0.getD v1.1.toNat d_RuleNode).Right).toNat) 0) else (v1.2.getD (((a0.getD v1.1.toNat d_RuleNode).Left).toNat) 0)))] (if (v1.2.getD (((a0.getD v1.1.toNat d_RuleNode).Right).toNat) 0) < (v1.2.getD (((a0.getD v1.1.toNat d_RuleNode).Left).toNat) 0) then (v1.2.getD (((a0.getD v1.1.toNat d_RuleNode).Right).toNat) 0) else (v1.2.getD (((a0.getD v1.1.toNat d_RuleNode).Left).toNat) 0)) (inr' q22) rfl))), trivial⟩ ?_
                refine inBN ?_
                refine inBN ?_
                exact thenJ (v1.2.set v1.1.toNat (if (v1.2.getD (((a0.getD v1.1.toNat d_RuleNode).Right).toNat) 0) < (v1.2.getD (((a0.getD v1.1.toNat d_RuleNode).Left).toNat) 0) then (v1.2.getD (((a0.getD v1.1.toNat d_RuleNode).Right).toNat) 0) else (v1.2.getD (((a0.getD v1.1.toNat d_RuleNode).Left).toNat) 0))) h (by kernel_rfl)
              · replace h := cnd_f h e19
                obtain ⟨q23, h⟩ := ck_inv h
                obtain ⟨q24, h⟩ := ck_inv h
                obtain ⟨q25, h⟩ := ck_inv h
                refine tri_reg_end env [] 9 1024 [.arr (700001, 0) ((v1.2.set v1.1.toNat (if (v1.2.getD (((a0.getD v1.1.toNat d_RuleNode).Left).toNat) 0) < (v1.2.getD (((a0.getD v1.1.toNat d_RuleNode).Right).toNat) 0) then (v1.2.getD (((a0.getD v1.1.toNat d_RuleNode).Right).toNat) 0) else (v1.2.getD (((a0.getD v1.1.toNat d_RuleNode).Left).toNat) 0))).length) (encF (eI .i64) 0 (v1.2.set v1.1.toNat (if (v1.2.getD (((a0.getD v1.1.toNat d_RuleNode).Left).toNat) 0) < (v1.2.getD (((a0.getD v1.1.toNat d_RuleNode).Right).toNat) 0) then (v1.2.getD (((a0.getD v1.1.toNat d_RuleNode).Right).toNat) 0) else (v1.2.getD (((a0.getD v1.1.toNat d_RuleNode).Left).toNat) 0)))), .slot 5 (.c (.ref (700001, 0) ((v1.2.set v1.1.toNat (if (v1.2.getD (((a0.getD v1.1.toNat d_RuleNode).Left).toNat) 0) < (v1.2.getD (((a0.getD v1.1.toNat d_RuleNode).Right).toNat) 0) then (v1.2.getD (((a0.getD v1.1.toNat d_RuleNode).Right).toNat) 0) else (v1.2.getD (((a0.getD v1.1.toNat d_RuleNode).Left).toNat) 0))).length))), .keep [1, 5, 14, 15, 16] [] [(700001, 0)], .keep [1, 5, 14, 15, 16] [] [(700001, 0)], .ren (700001, 0) (700002, 0)] ⟨102, [(1, .c (.lst 1 a1.length (encF (eI .i64) 0 a1))), (5, .c (.ref (700002, 0) ((v1.2.set v1.1.toNat (if (v1.2.getD (((a0.getD v1.1.toNat d_RuleNode).Left).toNat) 0) < (v1.2.getD (((a0.getD v1.1.toNat d_RuleNode).Right).toNat) 0) then (v1.2.getD (((a0.getD v1.1.toNat d_RuleNode).Right).toNat) 0) else (v1.2.getD (((a0.getD v1.1.toNat d_RuleNode).Left).toNat) 0))).length))), (14, .c (.lst 4 a0.length (encF e_RuleNode d_RuleNode a0))), (15, .c (.v (.int .i64 ((a0.length : Nat) : Int)))), (16, .c (.v (.int .i64 v1.1)))], [], [((700002, 0), some ⟨false, 1, ((v1.2.set v1.1.toNat (if (v1.2.getD (((a0.getD v1.1.toNat d_RuleNode).Left).toNat) 0) < (v1.2.getD (((a0.getD v1.1.toNat d_RuleNode).Right).toNat) 0) then (v1.2.getD (((a0.getD v1.1.toNat d_RuleNode).Right).toNat) 0) else (v1.2.getD (((a0.getD v1.1.toNat d_RuleNode).Left).toNat) 0))).length), encF (eI .i64) 0 (v1.2.set v1.1.toNat (if (v1.2.getD (((a0.getD v1.1.toNat d_RuleNode).Left).toNat) 0) < (v1.2.getD (((a0.getD v1.1.toNat d_RuleNode).Right).toNat) 0) then (v1.2.getD (((a0.getD v1.1.toNat d_RuleNode).Right).toNat) 0) else (v1.2.getD (((a0.getD v1.1.toNat d_RuleNode).Left).toNat) 0)))⟩)]⟩ [(0 ≤ (a0.getD v1.1.toNat d_RuleNode).Left ∧ (a0.getD v1.1.toNat d_RuleNode).Left < ((v1.2.length : Nat) : Int)), (((a0.getD v1.1.toNat d_RuleNode).Left).toNat < v1.2.length), (0 ≤ (a0.getD v1.1.toNat d_RuleNode).Right ∧ (a0.getD v1.1.toNat d_RuleNode).Right < ((v1.2.length : Nat) : Int)), (((a0.getD v1.1.toNat d_RuleNode).Right).toNat < v1.2.length), (0 ≤ v1.1 ∧ v1.1 < ((v1.2.length : Nat) : Int)), (v1.1.toNat < v1.2.length), (v1.2.length = (v1.2.set v1.1.toNat (if (v1.2.getD (((a0.getD v1.1.toNat d_RuleNode).Left).toNat) 0) < (v1.2.getD (((a0.getD v1.1.toNat d_RuleNode).Right).toNat) 0) then (v1.2.getD (((a0.getD v1.1.toNat d_RuleNode).Right).toNat) 0) else (v1.2.getD (((a0.getD v1.1.toNat d_RuleNode).Left).toNat) 0))).length ∧ ∀ i, i < (v1.2.set v1.1.toNat (if (v1.2.getD (((a0.getD v1.1.toNat d_RuleNode).Left).toNat) 0) < (v1.2.getD (((a0.getD v1.1.toNat d_RuleNode).Right).toNat) 0) then (v1.2.getD (((a0.getD v1.1.toNat d_RuleNode).Right).toNat) 0) else (v1.2.getD (((a0.getD v1.1.toNat d_RuleNode).Left).toNat) 0))).length → (putG (encF (eI .i64) 0 v1.2) v1.1.toNat 0 [.v (.int .i64 (if (v1.2.getD (((a0.getD v1.1.toNat d_RuleNode).Left).toNat) 0) < (v1.2.getD (((a0.getD v1.1.toNat d_RuleNode).Right).toNat) 0) then (v1.2.getD (((a0.getD v1.1.toNat d_RuleNode).Right).toNat) 0) else (v1.2.getD (((a0.getD v1.1.toNat d_RuleNode).Left).toNat) 0)))]) i = (encF (eI .i64) 0 (v1.2.set v1.1.toNat (if (v1.2.getD (((a0.getD v1.1.toNat d_RuleNode).Left).toNat) 0) < (v1.2.getD (((a0.getD v1.1.toNat d_RuleNode).Right).toNat) 0) then (v1.2.getD (((a0.getD v1.1.toNat d_RuleNode).Right).toNat) 0) else (v1.2.getD (((a0.getD v1.1.toNat d_RuleNode).Left).toNat) 0)))) i), (TellS (.c (.ref (700001, 0) v1.2.length)) (.c (.ref (700001, 0) ((v1.2.set v1.1.toNat (if (v1.2.getD (((a0.getD v1.1.toNat d_RuleNode).Left).toNat) 0) < (v1.2.getD (((a0.getD v1.1.toNat d_RuleNode).Right).toNat) 0) then (v1.2.getD (((a0.getD v1.1.toNat d_RuleNode).Right).toNat) 0) else (v1.2.getD (((a0.getD v1.1.toNat d_RuleNode).Left).toNat) 0))).length))))] (by kernel_rfl) ⟨q23, (inr' q23), q24, (inr' q24), q25, (inr' q25), (Tells.arr (Tells.set (Tells.rfl' (e := (eI .i64)) (d := 0) (L := v1.2)) v1.1.toNat 0 [.v (.int .i64 (if (v1.2.getD (((a0.getD v1.1.toNat d_RuleNode).Left).toNat) 0) < (v1.2.getD (((a0.getD v1.1.toNat d_RuleNode).Right).toNat) 0) then (v1.2.getD (((a0.getD v1.1.toNat d_RuleNode).Right).toNat) 0) else (v1.2.getD (((a0.getD v1.1.toNat d_RuleNode).Left).toNat) 0)))] (if (v1.2.getD (((a0.getD v1.1.toNat d_RuleNode).Left).toNat) 0) < (v1.2.getD (((a0.getD v1.1.toNat d_RuleNode).Right).toNat) 0) then (v1.2.getD (((a0.getD v1.1.toNat d_RuleNode).Right).toNat) 0) else (v1.2.getD (((a0.getD v1.1.toNat d_RuleNode).Left).toNat) 0)) (inr' q25) rfl)), (TellC.ref (Tells.len (e := (eI .i64)) (d := 0) (n := v1.2.length) (g := (putG (encF (eI .i64) 0 v1.2) v1.1.toNat 0 [.v (.int .i64 (if (v1.2.getD (((a0.getD v1.1.toNat d_RuleNode).Left).toNat) 0) < (v1.2.getD (((a0.getD v1.1.toNat d_RuleNode).Right).toNat) 0) then (v1.2.getD (((a0.getD v1.1.toNat d_RuleNode).Right).toNat) 0) else (v1.2.getD (((a0.getD v1.1.toNat d_RuleNode).Left).toNat) 0)))])) (L := (v1.2.set v1.1.toNat (if (v1.2.getD (((a0.getD v1.1.toNat d_RuleNode).Left).toNat) 0) < (v1.2.getD (((a0.getD v1.1.toNat d_RuleNode).Right).toNat) 0) then (v1.2.getD (((a0.getD v1.1.toNat d_RuleNode).Right).toNat) 0) else (v1.2.getD (((a0.getD v1.1.toNat d_RuleNode).Left).toNat) 0)))) (Tells.set (Tells.rfl' (e := (eI .i64)) (d := 0) (L := v1.2)) v1.1.toNat 0 [.v (.int .i64 (if (v1.2.getD (((a0.getD v1.1.toNat d_RuleNode).Left).toNat) 0) < (v1.2.getD (((a0.getD v1.1.toNat d_RuleNode).Right).toNat) 0) then (v1.2.getD (((a0.getD v1.1.toNat d_RuleNode).Right).toNat) 0) else (v1.2.getD (((a0.getD v1.1.toNat d_RuleNode).Left).toNat) 0)))] (if (v1.2.getD (((a0.getD v1.1.toNat d_RuleNode).Left).toNat) 0) < (v1.2.getD (((a0.getD v1.1.toNat d_RuleNode).Right).toNat) 0) then (v1.2.getD (((a0.getD v1.1.toNat d_RuleNode).Right).toNat) 0) else (v1.2.getD (((a0.getD v1.1.toNat d_RuleNode).Left).toNat) 0)) (inr' q25) rfl))), trivial⟩ ?_
                refine inBN ?_
                refine inBN ?_
                exact thenJ (v1.2.set v1.1.toNat (if (v1.2.getD (((a0.getD v1.1.toNat d_RuleNode).Left).toNat) 0) < (v1.2.getD (((a0.getD v1.1.toNat d_RuleNode).Right).toNat) 0) then (v1.2.getD (((a0.getD v1.1.toNat d_RuleNode).Right).toNat) 0) else (v1.2.getD (((a0.getD v1.1.toNat d_RuleNode).Left).toNat) 0))) h (by kernel_rfl)
      · replace h := cnd_f h e6
        refine tri_tell [.keep [5] [] [(700001, 0)], .ren (700001, 0) (700003, 0)] ⟨102, [(5, .c (.ref (700003, 0) v1.2.length))], [], [((700003, 0), some ⟨false, 1, v1.2.length, encF (eI .i64) 0 v1.2⟩)]⟩ [] (by kernel_rfl) trivial ?_
        refine tri_exit ?_
        refine thenE ?_
        refine thenE ?_
        refine inBX ?_
        exact thenJ v1.2 h (by kernel_rfl)
end Go.Proofs.YtmdolfannbbipaaDoor
namespace Go.Proofs.YtmdolfannbbipaaDoor
open Go Go.RowKit Go.Ev Go.Proofs
set_option linter.unusedVariables false

set_option maxRecDepth 100000
theorem ok_rule_Check (K : Nat) (a0 : (List T_RuleNode)) (a1 : Int) (r : Int) (h : rule_Check K a0 a1 = some r) : FnOk Tryd.prog 16 (ax_rule_Check a0 a1) (rx_rule_Check r) (px_rule_Check r) := by
  refine ⟨⟨Tryd.f16, Tryd.func16, by kernel_rfl, by kernel_rfl⟩, ?_⟩
  unfold rule_Check at h
  refine fn_ok env Tryd.func16 rfl ⟨26, [(0, .c (.lst 4 a0.length (encF e_RuleNode d_RuleNode a0))), (1, .c (.v (.int .i64 a1)))], [], []⟩ [] (by kernel_rfl) fun X => ?_
  refine tri_reg env [] 1 1024 [.keep [0, 1] [] []] ⟨26, [(0, .c (.lst 4 a0.length (encF e_RuleNode d_RuleNode a0))), (1, .c (.v (.int .i64 a1)))], [], []⟩ [] (by kernel_rfl) trivial ?_
  refine tri_seq ?_
  obtain ⟨y1, c2, h⟩ := bnd_inv h
  refine tri_reg env [(1, .call ⟨(ax_rule_right a0), [false], rx_rule_right y1, px_rule_right y1, true⟩)] 2 1024 [.keep [0, 1, 9] [] []] ⟨26, [(0, .c (.lst 4 a0.length (encF e_RuleNode d_RuleNode a0))), (1, .c (.v (.int .i64 a1))), (9, .c (.v (.bool (!y1))))], [], []⟩ [(EqXs (ax_rule_right a0) (ax_rule_right a0)), (FnOk Tryd.prog 47 (ax_rule_right a0) (rx_rule_right y1) (px_rule_right y1))] (by kernel_rfl) ⟨(eqs (eqr _) eqs0), (ok_rule_right K a0 y1 c2), trivial⟩ ?_
  refine tri_cond (!y1) (by kernel_rfl) (fun e3 => ?_) (fun e3 => ?_)
  · replace h := cnd_t h e3
    refine tri_reg env [] 3 1024 [.keep [4] [] []] ⟨26, [(4, .c (.v (.int .i64 18)))], [], []⟩ [] (by kernel_rfl) trivial ?_
    refine tri_ret ?_
    refine thenR ?_
    rw [some_inv h]
    exact ⟨[], by kernel_rfl, trivial⟩
  · replace h := cnd_f h e3
    refine tri_skip ?_
    refine thenN ?_
    refine tri_joinC (fun (v3 : Unit) => ⟨26, [], [], []⟩) h (fun v3 h => ?_) (fun j3 h => ?_)
    · refine tri_reg env [] 10 1024 [.keep [4] [] []] ⟨26, [(4, .c (.v (.int .i64 0)))], [], []⟩ [] (by kernel_rfl) trivial ?_
      refine tri_ret ?_
      rw [some_inv h]
      exact ⟨[], by kernel_rfl, trivial⟩
    · refine tri_reg env [] 4 1024 [.keep [1, 10, 11, 12] [] []] ⟨26, [(1, .c (.v (.int .i64 a1))), (10, .c (.lst 4 a0.length (encF e_RuleNode d_RuleNode a0))), (11, .c (.v (.int .i64 ((a0.length : Nat) : Int)))), (12, .c (.v (.int .i64 0)))], [], []⟩ [] (by kernel_rfl) trivial ?_
      refine tri_block ?_
      refine tri_loopK (fun (v1 : Int) => ⟨26, [(1, .c (.v (.int .i64 a1))), (10, .c (.lst 4 a0.length (encF e_RuleNode d_RuleNode a0))), (11, .c (.v (.int .i64 ((a0.length : Nat) : Int)))), (12, .c (.v (.int .i64 v1)))], [], []⟩) (v := 0) h (fun self1 v1 h => ?_) (by kernel_rfl)
      unfold rule_Check_b1 at h
      refine tri_reg env [] 5 1024 [.keep [1, 10, 11, 12, 13] [] []] ⟨26, [(1, .c (.v (.int .i64 a1))), (10, .c (.lst 4 a0.length (encF e_RuleNode d_RuleNode a0))), (11, .c (.v (.int .i64 ((a0.length : Nat) : Int)))), (12, .c (.v (.int .i64 v1))), (13, .c (.v (.bool (decide (v1 < ((a0.length : Nat) : Int))))))], [], []⟩ [True] (by kernel_rfl) ⟨trivial, trivial⟩ ?_
      refine tri_seq ?_
      refine tri_cond (decide (v1 < ((a0.length : Nat) : Int))) (by kernel_rfl) (fun e4 => ?_) (fun e4 => ?_)
      · replace h := cnd_t h e4
        refine tri_skip ?_
        refine thenN ?_
        refine tri_joinC (fun (v2 : Unit) => ⟨26, [(1, .c (.v (.int .i64 a1))), (10, .c (.lst 4 a0.length (encF e_RuleNode d_RuleNode a0))), (11, .c (.v (.int .i64 ((a0.length : Nat) : Int)))), (12, .c (.v (.int .i64 v1)))], [], []⟩) h (fun v2 h => ?_) (fun j2 h => ?_)
        · refine tri_reg_end env [] 9 1024 [.keep [1, 10, 11, 12] [] []] ⟨26, [(1, .c (.v (.int .i64 a1))), (10, .c (.lst 4 a0.length (encF e_RuleNode d_RuleNode a0))), (11, .c (.v (.int .i64 ((a0.length : Nat) : Int)))), (12, .c (.v (.int .i64 (IntKind.wrap .i64 (v1 + 1)))))], [], []⟩ [True] (by kernel_rfl) ⟨trivial, trivial⟩ ?_
          exact thenJ (IntKind.wrap .i64 (v1 + 1)) h (by kernel_rfl)
        · refine tri_block ?_
          obtain ⟨q5, h⟩ := ck_inv h
          refine tri_reg env [] 6 1024 [.keep [1, 6, 10, 11, 12] [(6002, 0)] []] ⟨26, [(1, .c (.v (.int .i64 a1))), (6, .c (.pvar (6002, 0) 0)), (10, .c (.lst 4 a0.length (encF e_RuleNode d_RuleNode a0))), (11, .c (.v (.int .i64 ((a0.length : Nat) : Int)))), (12, .c (.v (.int .i64 v1)))], [((6002, 0), (e_RuleNode (a0.getD v1.toNat d_RuleNode)))], []⟩ [(0 ≤ v1 ∧ v1 < ((a0.length : Nat) : Int))] (by kernel_rfl) ⟨q5, trivial⟩ ?_
          refine cnd_split h (fun e6 h => ?_) (fun e6 h => ?_)
          · refine tri_reg env [(3, .b true), (8, .b true)] 7 1024 [.keep [1, 10, 11, 12, 24] [] []] ⟨26, [(1, .c (.v (.int .i64 a1))), (10, .c (.lst 4 a0.length (encF e_RuleNode d_RuleNode a0))), (11, .c (.v (.int .i64 ((a0.length : Nat) : Int)))), (12, .c (.v (.int .i64 v1))), (24, .c (.v (.bool (decide ((a0.getD v1.toNat d_RuleNode).Cond ≥ a1)))))], [], []⟩ [True, (((a0.getD v1.toNat d_RuleNode).Kind == 1) = true), (((a0.getD v1.toNat d_RuleNode).Kind == 1) = true), (((a0.getD v1.toNat d_RuleNode).Kind == 1) = true), (((a0.getD v1.toNat d_RuleNode).Kind == 1) = true), True, (((a0.getD v1.toNat d_RuleNode).Kind == 1) = true)] (by kernel_rfl) ⟨trivial, e6, e6, e6, e6, trivial, e6, trivial⟩ ?_
            refine tri_cond (decide ((a0.getD v1.toNat d_RuleNode).Cond ≥ a1)) (by kernel_rfl) (fun e7 => ?_) (fun e7 => ?_)
            · replace h := cnd_t h e7
              refine tri_reg env [] 8 1024 [.keep [4] [] []] ⟨26, [(4, .c (.v (.int .i64 1)))], [], []⟩ [] (by kernel_rfl) trivial ?_
              refine tri_ret ?_
              refine inBR ?_
              refine thenR ?_
              refine thenR ?_
              refine inBR ?_
              refine thenR ?_
              rw [some_inv h]
              exact ⟨[], by kernel_rfl, trivial⟩
            · replace h := cnd_f h e7
              refine tri_tell [.keep [1, 10, 11, 12] [] []] ⟨26, [(1, .c (.v (.int .i64 a1))), (10, .c (.lst 4 a0.length (encF e_RuleNode d_RuleNode a0))), (11, .c (.v (.int .i64 ((a0.length : Nat) : Int)))), (12, .c (.v (.int .i64 v1)))], [], []⟩ [] (by kernel_rfl) trivial ?_
              refine tri_skip ?_
              refine inBN ?_
              exact thenJ () h (by kernel_rfl)
          · refine tri_reg env [(3, .b false), (8, .b false)] 7 1024 [.keep [1, 10, 11, 12, 24] [] []] ⟨26, [(1, .c (.v (.int .i64 a1))), (10, .c (.lst 4 a0.length (encF e_RuleNode d_RuleNode a0))), (11, .c (.v (.int .i64 ((a0.length : Nat) : Int)))), (12, .c (.v (.int .i64 v1))), (24, .c (.v (.bool false)))], [], []⟩ [True, (((a0.getD v1.toNat d_RuleNode).Kind == 1) = false), (((a0.getD v1.toNat d_RuleNode).Kind == 1) = false), (((a0.getD v1.toNat d_RuleNode).Kind == 1) = false), (((a0.getD v1.toNat d_RuleNode).Kind == 1) = false), (((a0.getD v1.toNat d_RuleNode).Kind == 1) = false)] (by kernel_rfl) ⟨trivial, e6, e6, e6, e6, e6, trivial⟩ ?_
            refine tri_cond false (by kernel_rfl) (fun e => by cases e) (fun _ => ?_)
            refine tri_tell [.keep [1, 10, 11, 12] [] []] ⟨26, [(1, .c (.v (.int .i64 a1))), (10, .c (.lst 4 a0.length (encF e_RuleNode d_RuleNode a0))), (11, .c (.v (.int .i64 ((a0.length : Nat) : Int)))), (12, .c (.v (.int .i64 v1)))], [], []⟩ [] (by kernel_rfl) trivial ?_
            refine tri_skip ?_
            refine inBN ?_
            exact thenJ () h (by kernel_rfl)
      · replace h := cnd_f h e4
        refine tri_tell [.keep [] [] []] ⟨26, [], [], []⟩ [] (by kernel_rfl) trivial ?_
        refine tri_exit ?_
        refine thenE ?_
        refine thenE ?_
        refine inBX ?_
        exact thenJ () h (by kernel_rfl)
end Go.Proofs.YtmdolfannbbipaaDoor
namespace Go.Proofs.YtmdolfannbbipaaDoor
open Go Go.RowKit Go.Ev Go.Proofs
set_option linter.unusedVariables false

set_option maxRecDepth 100000
theorem ok_rule_Uses (K : Nat) (a0 : (List T_RuleNode)) (r : (List Int)) (h : rule_Uses K a0 = some r) : FnOk Tryd.prog 19 (ax_rule_Uses a0) (rx_rule_Uses r) (px_rule_Uses r) := by
  refine ⟨⟨Tryd.f19, Tryd.func19, by kernel_rfl, by kernel_rfl⟩, ?_⟩
  unfold rule_Uses at h
  refine fn_ok env Tryd.func19 rfl ⟨37, [(0, .c (.lst 4 a0.length (encF e_RuleNode d_RuleNode a0)))], [], []⟩ [] (by kernel_rfl) fun X => ?_
  refine tri_reg env [] 1 1024 [.keep [0] [] []] ⟨37, [(0, .c (.lst 4 a0.length (encF e_RuleNode d_RuleNode a0)))], [], []⟩ [] (by kernel_rfl) trivial ?_
  refine tri_seq ?_
  obtain ⟨y1, c2, h⟩ := bnd_inv h
  refine tri_reg env [(1, .call ⟨(ax_rule_right a0), [false], rx_rule_right y1, px_rule_right y1, true⟩)] 2 1024 [.keep [0, 11] [] []] ⟨37, [(0, .c (.lst 4 a0.length (encF e_RuleNode d_RuleNode a0))), (11, .c (.v (.bool (!y1))))], [], []⟩ [(EqXs (ax_rule_right a0) (ax_rule_right a0)), (FnOk Tryd.prog 47 (ax_rule_right a0) (rx_rule_right y1) (px_rule_right y1))] (by kernel_rfl) ⟨(eqs (eqr _) eqs0), (ok_rule_right K a0 y1 c2), trivial⟩ ?_
  refine tri_cond (!y1) (by kernel_rfl) (fun e3 => ?_) (fun e3 => ?_)
  · replace h := cnd_t h e3
    refine tri_reg env [] 3 1024 [.keep [2] [] []] ⟨37, [(2, .c (.nil 1))], [], []⟩ [] (by kernel_rfl) trivial ?_
    refine tri_tell [.nilS 2 (900000, 0) 1, .arr (900000, 0) (([] : List Int).length) (encF (eI .i64) 0 ([] : List Int)), .slot 2 (.c (.ref (900000, 0) (([] : List Int).length))), .keep [2] [] [(900000, 0)]] ⟨37, [(2, .c (.ref (900000, 0) (([] : List Int).length)))], [], [((900000, 0), some ⟨false, 1, (([] : List Int).length), encF (eI .i64) 0 ([] : List Int)⟩)]⟩ [(0 = ([] : List Int).length ∧ ∀ i, i < ([] : List Int).length → (fun _ => []) i = (encF (eI .i64) 0 ([] : List Int)) i), (TellS (.c (.ref (900000, 0) 0)) (.c (.ref (900000, 0) (([] : List Int).length))))] (by kernel_rfl) ⟨(Tells.arr (Tells.nil (e := (eI .i64)) (d := 0) (g := fun _ => []))), (TellC.ref (Tells.len (e := (eI .i64)) (d := 0) (n := 0) (g := (fun _ => [])) (L := ([] : List Int)) (Tells.nil (e := (eI .i64)) (d := 0) (g := fun _ => [])))), trivial⟩ ?_
    refine tri_ret ?_
    refine thenR ?_
    rw [some_inv h]
    exact ⟨[(([] : List Int).length = ([] : List Int).length)], by kernel_rfl, ⟨rfl, trivial⟩⟩
  · replace h := cnd_f h e3
    refine tri_skip ?_
    refine thenN ?_
    refine tri_reg env [(0, .frz)] 4 1024 [.arr (4000, 0) ((List.replicate 64 (false : Bool)).length) (encF eB false (List.replicate 64 (false : Bool))), .keep [0, 3] [] [(4000, 0)]] ⟨37, [(0, .c (.lst 4 a0.length (encF e_RuleNode d_RuleNode a0))), (3, .c (.pelem (4000, 0) 0 0))], [], [((4000, 0), some ⟨false, 1, ((List.replicate 64 (false : Bool)).length), encF eB false (List.replicate 64 (false : Bool))⟩)]⟩ [(List.replicate 64 (C.v (.bool false)) = List.replicate 64 (C.v (.bool false))), (64 = (List.replicate 64 (false : Bool)).length ∧ ∀ i, i < (List.replicate 64 (false : Bool)).length → (fun _ => [.v (.bool false)]) i = (encF eB false (List.replicate 64 (false : Bool))) i)] (by kernel_rfl) ⟨rfl, (Tells.arr (Tells.repl (e := eB) (d := false) 64 (x := false) rfl)), trivial⟩ ?_
    refine tri_joinC (fun (v3 : (List Bool)) => ⟨37, [(3, .c (.pelem (700003, 0) 0 0))], [], [((700003, 0), some ⟨false, 1, v3.length, encF eB false v3⟩)]⟩) h (fun v3 h => ?_) (fun j3 h => ?_)
    · refine tri_reg env [] 11 1024 [.keep [3, 6] [] [(700003, 0)]] ⟨37, [(3, .c (.pelem (700003, 0) 0 0)), (6, .c (.nil 1))], [], [((700003, 0), some ⟨false, 1, v3.length, encF eB false v3⟩)]⟩ [] (by kernel_rfl) trivial ?_
      refine tri_joinC (fun (v6 : (List Int)) => ⟨37, [(6, .c (.ref (700006, 0) v6.length))], [], [((700006, 0), some ⟨false, 1, v6.length, encF (eI .i64) 0 v6⟩)]⟩) h (fun v6 h => ?_) (fun j6 h => ?_)
      · refine tri_reg env [] 18 1024 [.keep [2] [] [(700006, 0)]] ⟨37, [(2, .c (.ref (700006, 0) v6.length))], [], [((700006, 0), some ⟨false, 1, v6.length, encF (eI .i64) 0 v6⟩)]⟩ [] (by kernel_rfl) trivial ?_
        refine tri_ret ?_
        rw [some_inv h]
        exact ⟨[(v6.length = v6.length)], by kernel_rfl, ⟨rfl, trivial⟩⟩
      · obtain ⟨q4, h⟩ := ck_inv h
        refine tri_reg env [(0, .frz)] 12 1024 [.keep [6, 25, 26] [] []] ⟨37, [(6, .c (.nil 1)), (25, .agg (flatG 64 (encF eB false v3))), (26, .c (.v (.int .i64 0)))], [], []⟩ [(v3.length = 64)] (by kernel_rfl) ⟨q4, trivial⟩ ?_
        refine tri_block ?_
        refine tri_tell [.keep [6, 25, 26] [] [], .nilS 6 (700004, 0) 1, .arr (700004, 0) (([] : List Int).length) (encF (eI .i64) 0 ([] : List Int)), .slot 6 (.c (.ref (700004, 0) (([] : List Int).length))), .keep [6, 25, 26] [] [(700004, 0)]] ⟨37, [(6, .c (.ref (700004, 0) (([] : List Int).length))), (25, .agg (flatG 64 (encF eB false v3))), (26, .c (.v (.int .i64 0)))], [], [((700004, 0), some ⟨false, 1, (([] : List Int).length), encF (eI .i64) 0 ([] : List Int)⟩)]⟩ [(0 = ([] : List Int).length ∧ ∀ i, i < ([] : List Int).length → (fun _ => []) i = (encF (eI .i64) 0 ([] : List Int)) i), (TellS (.c (.ref (700004, 0) 0)) (.c (.ref (700004, 0) (([] : List Int).length))))] (by kernel_rfl) ⟨(Tells.arr (Tells.nil (e := (eI .i64)) (d := 0) (g := fun _ => []))), (TellC.ref (Tells.len (e := (eI .i64)) (d := 0) (n := 0) (g := (fun _ => [])) (L := ([] : List Int)) (Tells.nil (e := (eI .i64)) (d := 0) (g := fun _ => [])))), trivial⟩ ?_
        refine tri_loopK (fun (v4 : (Int × (List Int))) => ⟨37, [(6, .c (.ref (700004, 0) v4.2.length)), (25, .agg (flatG 64 (encF eB false v3))), (26, .c (.v (.int .i64 v4.1)))], [], [((700004, 0), some ⟨false, 1, v4.2.length, encF (eI .i64) 0 v4.2⟩)]⟩) (v := (0, ([] : List Int))) h (fun self4 v4 h => ?_) (by kernel_rfl)
        unfold rule_Uses_b4 at h
        refine tri_reg env [] 13 1024 [.keep [6, 25, 26, 27] [] [(700004, 0)]] ⟨37, [(6, .c (.ref (700004, 0) v4.2.length)), (25, .agg (flatG 64 (encF eB false v3))), (26, .c (.v (.int .i64 v4.1))), (27, .c (.v (.bool (decide (v4.1 < 64)))))], [], [((700004, 0), some ⟨false, 1, v4.2.length, encF (eI .i64) 0 v4.2⟩)]⟩ [True] (by kernel_rfl) ⟨trivial, trivial⟩ ?_
        refine tri_seq ?_
        refine tri_cond (decide (v4.1 < 64)) (by kernel_rfl) (fun e5 => ?_) (fun e5 => ?_)
        · replace h := cnd_t h e5
          refine tri_skip ?_
          refine thenN ?_
          refine tri_joinC (fun (v5 : (List Int)) => ⟨37, [(6, .c (.ref (700005, 0) v5.length)), (25, .agg (flatG 64 (encF eB false v3))), (26, .c (.v (.int .i64 v4.1)))], [], [((700005, 0), some ⟨false, 1, v5.length, encF (eI .i64) 0 v5⟩)]⟩) h (fun v5 h => ?_) (fun j5 h => ?_)
          · refine tri_reg_end env [] 17 1024 [.keep [6, 25, 26] [] [(700005, 0)], .keep [6, 25, 26] [] [(700005, 0)], .ren (700005, 0) (700004, 0)] ⟨37, [(6, .c (.ref (700004, 0) v5.length)), (25, .agg (flatG 64 (encF eB false v3))), (26, .c (.v (.int .i64 (IntKind.wrap .i64 (v4.1 + 1)))))], [], [((700004, 0), some ⟨false, 1, v5.length, encF (eI .i64) 0 v5⟩)]⟩ [True] (by kernel_rfl) ⟨trivial, trivial⟩ ?_
            exact thenJ ((IntKind.wrap .i64 (v4.1 + 1)), v5) h (by kernel_rfl)
          · refine tri_block ?_
            obtain ⟨q6, h⟩ := ck_inv h
            refine tri_reg env [(1, .cell (.v (.bool (v3.getD v4.1.toNat false))))] 14 1024 [.keep [6, 7, 8, 25, 26] [] [(700004, 0)]] ⟨37, [(6, .c (.ref (700004, 0) v4.2.length)), (7, .c (.v (.int .i64 v4.1))), (8, .c (.v (.bool (v3.getD v4.1.toNat false)))), (25, .agg (flatG 64 (encF eB false v3))), (26, .c (.v (.int .i64 v4.1)))], [], [((700004, 0), some ⟨false, 1, v4.2.length, encF (eI .i64) 0 v4.2⟩)]⟩ [(0 ≤ v4.1 ∧ v4.1 < ((64 : Nat) : Int)), (v4.1.toNat < (flatG 64 (encF eB false v3)).length ∧ (flatG 64 (encF eB false v3)).getD v4.1.toNat .undef = (C.v (.bool (v3.getD v4.1.toNat false))))] (by kernel_rfl) ⟨q6, ⟨flatG_lt (inr' q6), flatG_at (inr' q6) rfl⟩, trivial⟩ ?_
            refine tri_reg env [] 15 1024 [.keep [6, 7, 25, 26, 30] [] [(700004, 0)]] ⟨37, [(6, .c (.ref (700004, 0) v4.2.length)), (7, .c (.v (.int .i64 v4.1))), (25, .agg (flatG 64 (encF eB false v3))), (26, .c (.v (.int .i64 v4.1))), (30, .c (.v (.bool (v3.getD v4.1.toNat false))))], [], [((700004, 0), some ⟨false, 1, v4.2.length, encF (eI .i64) 0 v4.2⟩)]⟩ [] (by kernel_rfl) trivial ?_
            refine tri_cond (v3.getD v4.1.toNat false) (by kernel_rfl) (fun e7 => ?_) (fun e7 => ?_)
            · replace h := cnd_t h e7
              obtain ⟨q8, h⟩ := ck_inv h
              refine tri_reg_end env [] 16 1024 [.arr (16003, 0) ((v4.2 ++ ([v4.1] : List Int)).length) (encF (eI .i64) 0 (v4.2 ++ ([v4.1] : List Int))), .slot 6 (.c (.ref (16003, 0) ((v4.2 ++ ([v4.1] : List Int)).length))), .keep [6, 25, 26] [] [(16003, 0)], .keep [6, 25, 26] [] [(16003, 0)], .ren (16003, 0) (700005, 0)] ⟨37, [(6, .c (.ref (700005, 0) ((v4.2 ++ ([v4.1] : List Int)).length))), (25, .agg (flatG 64 (encF eB false v3))), (26, .c (.v (.int .i64 v4.1)))], [], [((700005, 0), some ⟨false, 1, ((v4.2 ++ ([v4.1] : List Int)).length), encF (eI .i64) 0 (v4.2 ++ ([v4.1] : List Int))⟩)]⟩ [(1 = 0 ∨ 1 = 1), ((v4.2.length + 1) * 8 ≤ LIMIT), ((v4.2.length + 1) = (v4.2 ++ ([v4.1] : List Int)).length ∧ ∀ i, i < (v4.2 ++ ([v4.1] : List Int)).length → (appG v4.2.length (encF (eI .i64) 0 v4.2) (fun i => window [.v (.int .i64 v4.1)] (i * 1) 1)) i = (encF (eI .i64) 0 (v4.2 ++ ([v4.1] : List Int))) i), (TellS (.c (.ref (16003, 0) (v4.2.length + 1))) (.c (.ref (16003, 0) ((v4.2 ++ ([v4.1] : List Int)).length))))] (by kernel_rfl) ⟨(.inr rfl), q8, (Tells.arr (Tells.app (Tells.rfl' (e := (eI .i64)) (d := 0) (L := v4.2)) (Tells.items (e := (eI .i64)) (d := 0) (k := 1) (g := (fun i => window [.v (.int .i64 v4.1)] (i * 1) 1)) (L := ([v4.1] : List Int)) rfl (belowS rfl below0)))), (TellC.ref (Tells.len (e := (eI .i64)) (d := 0) (n := (v4.2.length + 1)) (g := (appG v4.2.length (encF (eI .i64) 0 v4.2) (fun i => window [.v (.int .i64 v4.1)] (i * 1) 1))) (L := (v4.2 ++ ([v4.1] : List Int))) (Tells.app (Tells.rfl' (e := (eI .i64)) (d := 0) (L := v4.2)) (Tells.items (e := (eI .i64)) (d := 0) (k := 1) (g := (fun i => window [.v (.int .i64 v4.1)] (i * 1) 1)) (L := ([v4.1] : List Int)) rfl (belowS rfl below0))))), trivial⟩ ?_
              refine inBN ?_
              exact thenJ (v4.2 ++ ([v4.1] : List Int)) h (by kernel_rfl)
            · replace h := cnd_f h e7
              refine tri_tell [.keep [6, 25, 26] [] [(700004, 0)], .ren (700004, 0) (700005, 0)] ⟨37, [(6, .c (.ref (700005, 0) v4.2.length)), (25, .agg (flatG 64 (encF eB false v3))), (26, .c (.v (.int .i64 v4.1)))], [], [((700005, 0), some ⟨false, 1, v4.2.length, encF (eI .i64) 0 v4.2⟩)]⟩ [] (by kernel_rfl) trivial ?_
              refine tri_skip ?_
              refine inBN ?_
              exact thenJ v4.2 h (by kernel_rfl)
        · replace h := cnd_f h e5
          refine tri_tell [.keep [6] [] [(700004, 0)], .ren (700004, 0) (700006, 0)] ⟨37, [(6, .c (.ref (700006, 0) v4.2.length))], [], [((700006, 0), some ⟨false, 1, v4.2.length, encF (eI .i64) 0 v4.2⟩)]⟩ [] (by kernel_rfl) trivial ?_
          refine tri_exit ?_
          refine thenE ?_
          refine thenE ?_
          refine inBX ?_
          exact thenJ v4.2 h (by kernel_rfl)
    · refine tri_reg env [] 5 1024 [.keep [3, 12, 13, 14] [] [(4000, 0)]] ⟨37, [(3, .c (.pelem (4000, 0) 0 0)), (12, .c (.lst 4 a0.length (encF e_RuleNode d_RuleNode a0))), (13, .c (.v (.int .i64 ((a0.length : Nat) : Int)))), (14, .c (.v (.int .i64 0)))], [], [((4000, 0), some ⟨false, 1, ((List.replicate 64 (false : Bool)).length), encF eB false (List.replicate 64 (false : Bool))⟩)]⟩ [] (by kernel_rfl) trivial ?_
      refine tri_block ?_
      refine tri_tell [.keep [3, 12, 13, 14] [] [(4000, 0)], .ren (4000, 0) (700001, 0)] ⟨37, [(3, .c (.pelem (700001, 0) 0 0)), (12, .c (.lst 4 a0.length (encF e_RuleNode d_RuleNode a0))), (13, .c (.v (.int .i64 ((a0.length : Nat) : Int)))), (14, .c (.v (.int .i64 0)))], [], [((700001, 0), some ⟨false, 1, ((List.replicate 64 (false : Bool)).length), encF eB false (List.replicate 64 (false : Bool))⟩)]⟩ [] (by kernel_rfl) trivial ?_
      refine tri_loopK (fun (v1 : (Int × (List Bool))) => ⟨37, [(3, .c (.pelem (700001, 0) 0 0)), (12, .c (.lst 4 a0.length (encF e_RuleNode d_RuleNode a0))), (13, .c (.v (.int .i64 ((a0.length : Nat) : Int)))), (14, .c (.v (.int .i64 v1.1)))], [], [((700001, 0), some ⟨false, 1, v1.2.length, encF eB false v1.2⟩)]⟩) (v := (0, (List.replicate 64 (false : Bool)))) h (fun self1 v1 h => ?_) (by kernel_rfl)
      unfold rule_Uses_b1 at h
      refine tri_reg env [] 6 1024 [.keep [3, 12, 13, 14, 15] [] [(700001, 0)]] ⟨37, [(3, .c (.pelem (700001, 0) 0 0)), (12, .c (.lst 4 a0.length (encF e_RuleNode d_RuleNode a0))), (13, .c (.v (.int .i64 ((a0.length : Nat) : Int)))), (14, .c (.v (.int .i64 v1.1))), (15, .c (.v (.bool (decide (v1.1 < ((a0.length : Nat) : Int))))))], [], [((700001, 0), some ⟨false, 1, v1.2.length, encF eB false v1.2⟩)]⟩ [True] (by kernel_rfl) ⟨trivial, trivial⟩ ?_
      refine tri_seq ?_
      refine tri_cond (decide (v1.1 < ((a0.length : Nat) : Int))) (by kernel_rfl) (fun e9 => ?_) (fun e9 => ?_)
      · replace h := cnd_t h e9
        refine tri_skip ?_
        refine thenN ?_
        refine tri_joinC (fun (v2 : (List Bool)) => ⟨37, [(3, .c (.pelem (700002, 0) 0 0)), (12, .c (.lst 4 a0.length (encF e_RuleNode d_RuleNode a0))), (13, .c (.v (.int .i64 ((a0.length : Nat) : Int)))), (14, .c (.v (.int .i64 v1.1)))], [], [((700002, 0), some ⟨false, 1, v2.length, encF eB false v2⟩)]⟩) h (fun v2 h => ?_) (fun j2 h => ?_)
        · refine tri_reg_end env [] 10 1024 [.keep [3, 12, 13, 14] [] [(700002, 0)], .keep [3, 12, 13, 14] [] [(700002, 0)], .ren (700002, 0) (700001, 0)] ⟨37, [(3, .c (.pelem (700001, 0) 0 0)), (12, .c (.lst 4 a0.length (encF e_RuleNode d_RuleNode a0))), (13, .c (.v (.int .i64 ((a0.length : Nat) : Int)))), (14, .c (.v (.int .i64 (IntKind.wrap .i64 (v1.1 + 1)))))], [], [((700001, 0), some ⟨false, 1, v2.length, encF eB false v2⟩)]⟩ [True] (by kernel_rfl) ⟨trivial, trivial⟩ ?_
          exact thenJ ((IntKind.wrap .i64 (v1.1 + 1)), v2) h (by kernel_rfl)
        · refine tri_block ?_
          obtain ⟨q10, h⟩ := ck_inv h
          refine tri_reg env [] 7 1024 [.keep [3, 5, 12, 13, 14] [(7002, 0)] [(700001, 0)]] ⟨37, [(3, .c (.pelem (700001, 0) 0 0)), (5, .c (.pvar (7002, 0) 0)), (12, .c (.lst 4 a0.length (encF e_RuleNode d_RuleNode a0))), (13, .c (.v (.int .i64 ((a0.length : Nat) : Int)))), (14, .c (.v (.int .i64 v1.1)))], [((7002, 0), (e_RuleNode (a0.getD v1.1.toNat d_RuleNode)))], [((700001, 0), some ⟨false, 1, v1.2.length, encF eB false v1.2⟩)]⟩ [(0 ≤ v1.1 ∧ v1.1 < ((a0.length : Nat) : Int))] (by kernel_rfl) ⟨q10, trivial⟩ ?_
          refine tri_reg env [] 8 1024 [.keep [3, 5, 12, 13, 14, 20] [(7002, 0)] [(700001, 0)]] ⟨37, [(3, .c (.pelem (700001, 0) 0 0)), (5, .c (.pvar (7002, 0) 0)), (12, .c (.lst 4 a0.length (encF e_RuleNode d_RuleNode a0))), (13, .c (.v (.int .i64 ((a0.length : Nat) : Int)))), (14, .c (.v (.int .i64 v1.1))), (20, .c (.v (.bool ((a0.getD v1.1.toNat d_RuleNode).Kind == 1))))], [((7002, 0), (e_RuleNode (a0.getD v1.1.toNat d_RuleNode)))], [((700001, 0), some ⟨false, 1, v1.2.length, encF eB false v1.2⟩)]⟩ [True] (by kernel_rfl) ⟨trivial, trivial⟩ ?_
          refine tri_cond ((a0.getD v1.1.toNat d_RuleNode).Kind == 1) (by kernel_rfl) (fun e11 => ?_) (fun e11 => ?_)
          · replace h := cnd_t h e11
            obtain ⟨q12, h⟩ := ck_inv h
            obtain ⟨q13, h⟩ := ck_inv h
            refine tri_reg_end env [(2, .frz)] 9 1024 [.arr (700001, 0) ((v1.2.set (((a0.getD v1.1.toNat d_RuleNode).Cond).toNat) true).length) (encF eB false (v1.2.set (((a0.getD v1.1.toNat d_RuleNode).Cond).toNat) true)), .keep [3, 12, 13, 14] [] [(700001, 0)], .keep [3, 12, 13, 14] [] [(700001, 0)], .ren (700001, 0) (700002, 0)] ⟨37, [(3, .c (.pelem (700002, 0) 0 0)), (12, .c (.lst 4 a0.length (encF e_RuleNode d_RuleNode a0))), (13, .c (.v (.int .i64 ((a0.length : Nat) : Int)))), (14, .c (.v (.int .i64 v1.1)))], [], [((700002, 0), some ⟨false, 1, ((v1.2.set (((a0.getD v1.1.toNat d_RuleNode).Cond).toNat) true).length), encF eB false (v1.2.set (((a0.getD v1.1.toNat d_RuleNode).Cond).toNat) true)⟩)]⟩ [(0 ≤ (a0.getD v1.1.toNat d_RuleNode).Cond ∧ (a0.getD v1.1.toNat d_RuleNode).Cond < ((64 : Nat) : Int)), (((a0.getD v1.1.toNat d_RuleNode).Cond).toNat < v1.2.length), (v1.2.length = (v1.2.set (((a0.getD v1.1.toNat d_RuleNode).Cond).toNat) true).length ∧ ∀ i, i < (v1.2.set (((a0.getD v1.1.toNat d_RuleNode).Cond).toNat) true).length → (putG (encF eB false v1.2) (((a0.getD v1.1.toNat d_RuleNode).Cond).toNat) 0 [.v (.bool true)]) i = (encF eB false (v1.2.set (((a0.getD v1.1.toNat d_RuleNode).Cond).toNat) true)) i)] (by kernel_rfl) ⟨q12, q13, (Tells.arr (Tells.set (Tells.rfl' (e := eB) (d := false) (L := v1.2)) (((a0.getD v1.1.toNat d_RuleNode).Cond).toNat) 0 [.v (.bool true)] true q13 rfl)), trivial⟩ ?_
            refine inBN ?_
            exact thenJ (v1.2.set (((a0.getD v1.1.toNat d_RuleNode).Cond).toNat) true) h (by kernel_rfl)
          · replace h := cnd_f h e11
            refine tri_tell [.keep [3, 12, 13, 14] [] [(700001, 0)], .ren (700001, 0) (700002, 0)] ⟨37, [(3, .c (.pelem (700002, 0) 0 0)), (12, .c (.lst 4 a0.length (encF e_RuleNode d_RuleNode a0))), (13, .c (.v (.int .i64 ((a0.length : Nat) : Int)))), (14, .c (.v (.int .i64 v1.1)))], [], [((700002, 0), some ⟨false, 1, v1.2.length, encF eB false v1.2⟩)]⟩ [] (by kernel_rfl) trivial ?_
            refine tri_skip ?_
            refine inBN ?_
            exact thenJ v1.2 h (by kernel_rfl)
      · replace h := cnd_f h e9
        refine tri_tell [.keep [3] [] [(700001, 0)], .ren (700001, 0) (700003, 0)] ⟨37, [(3, .c (.pelem (700003, 0) 0 0))], [], [((700003, 0), some ⟨false, 1, v1.2.length, encF eB false v1.2⟩)]⟩ [] (by kernel_rfl) trivial ?_
        refine tri_exit ?_
        refine thenE ?_
        refine thenE ?_
        refine inBX ?_
        exact thenJ v1.2 h (by kernel_rfl)
end Go.Proofs.YtmdolfannbbipaaDoor
namespace Go.Proofs.YtmdolfannbbipaaDoor
open Go Go.RowKit Go.Ev Go.Proofs
set_option linter.unusedVariables false

set_option maxRecDepth 100000
theorem ok_ref01_Ints (K : Nat) (a0 : (List Int)) (a1 : (List Int)) (r : Bool) (h : ref01_Ints K a0 a1 = some r) : FnOk Tryd.prog 18 (ax_ref01_Ints a0 a1) (rx_ref01_Ints r) (px_ref01_Ints r) := by
  refine ⟨⟨Tryd.f18, Tryd.func18, by kernel_rfl, by kernel_rfl⟩, ?_⟩
  unfold ref01_Ints at h
  refine fn_ok env Tryd.func18 rfl ⟨26, [(0, .c (.lst 1 a0.length (encF (eI .i64) 0 a0))), (1, .c (.lst 1 a1.length (encF (eI .i64) 0 a1)))], [], []⟩ [] (by kernel_rfl) fun X => ?_
  refine tri_reg env [] 1 1024 [.keep [0, 1] [] []] ⟨26, [(0, .c (.lst 1 a0.length (encF (eI .i64) 0 a0))), (1, .c (.lst 1 a1.length (encF (eI .i64) 0 a1)))], [], []⟩ [] (by kernel_rfl) trivial ?_
  refine tri_seq ?_
  refine tri_reg env [] 2 1024 [.keep [0, 1, 10] [] []] ⟨26, [(0, .c (.lst 1 a0.length (encF (eI .i64) 0 a0))), (1, .c (.lst 1 a1.length (encF (eI .i64) 0 a1))), (10, .c (.v (.bool (((a0.length : Nat) : Int) != ((a1.length : Nat) : Int)))))], [], []⟩ [True] (by kernel_rfl) ⟨trivial, trivial⟩ ?_
  refine tri_cond (((a0.length : Nat) : Int) != ((a1.length : Nat) : Int)) (by kernel_rfl) (fun e1 => ?_) (fun e1 => ?_)
  · replace h := cnd_t h e1
    refine tri_reg env [] 3 1024 [.keep [4] [] []] ⟨26, [(4, .c (.v (.bool false)))], [], []⟩ [] (by kernel_rfl) trivial ?_
    refine tri_ret ?_
    refine thenR ?_
    rw [some_inv h]
    exact ⟨[], by kernel_rfl, trivial⟩
  · replace h := cnd_f h e1
    refine tri_skip ?_
    refine thenN ?_
    refine tri_joinC (fun (v2 : Unit) => ⟨26, [], [], []⟩) h (fun v2 h => ?_) (fun j2 h => ?_)
    · refine tri_reg env [] 9 1024 [.keep [4] [] []] ⟨26, [(4, .c (.v (.bool true)))], [], []⟩ [] (by kernel_rfl) trivial ?_
      refine tri_ret ?_
      rw [some_inv h]
      exact ⟨[], by kernel_rfl, trivial⟩
    · refine tri_reg env [] 4 1024 [.keep [0, 1, 5] [] []] ⟨26, [(0, .c (.lst 1 a0.length (encF (eI .i64) 0 a0))), (1, .c (.lst 1 a1.length (encF (eI .i64) 0 a1))), (5, .c (.v (.int .i64 0)))], [], []⟩ [] (by kernel_rfl) trivial ?_
      refine tri_block ?_
      refine tri_loopK (fun (v1 : Int) => ⟨26, [(0, .c (.lst 1 a0.length (encF (eI .i64) 0 a0))), (1, .c (.lst 1 a1.length (encF (eI .i64) 0 a1))), (5, .c (.v (.int .i64 v1)))], [], []⟩) (v := 0) h (fun self1 v1 h => ?_) (by kernel_rfl)
      unfold ref01_Ints_b1 at h
      refine tri_seq ?_
      refine tri_reg env [] 5 1024 [.keep [0, 1, 5, 14] [] []] ⟨26, [(0, .c (.lst 1 a0.length (encF (eI .i64) 0 a0))), (1, .c (.lst 1 a1.length (encF (eI .i64) 0 a1))), (5, .c (.v (.int .i64 v1))), (14, .c (.v (.bool (decide (v1 < ((a0.length : Nat) : Int))))))], [], []⟩ [True] (by kernel_rfl) ⟨trivial, trivial⟩ ?_
      refine tri_cond (decide (v1 < ((a0.length : Nat) : Int))) (by kernel_rfl) (fun e2 => ?_) (fun e2 => ?_)
      · replace h := cnd_t h e2
        refine tri_skip ?_
        refine thenN ?_
        refine tri_seq ?_
        refine tri_block ?_
        obtain ⟨q3, h⟩ := ck_inv h
        obtain ⟨q4, h⟩ := ck_inv h
        refine tri_reg env [] 7 1024 [.keep [0, 1, 5, 25] [] []] ⟨26, [(0, .c (.lst 1 a0.length (encF (eI .i64) 0 a0))), (1, .c (.lst 1 a1.length (encF (eI .i64) 0 a1))), (5, .c (.v (.int .i64 v1))), (25, .c (.v (.bool ((a0.getD v1.toNat 0) != (a1.getD v1.toNat 0)))))], [], []⟩ [(0 ≤ v1 ∧ v1 < ((a0.length : Nat) : Int)), (0 ≤ v1 ∧ v1 < ((a1.length : Nat) : Int)), True] (by kernel_rfl) ⟨q3, q4, trivial, trivial⟩ ?_
        refine tri_cond ((a0.getD v1.toNat 0) != (a1.getD v1.toNat 0)) (by kernel_rfl) (fun e5 => ?_) (fun e5 => ?_)
        · replace h := cnd_t h e5
          refine tri_reg env [] 8 1024 [.keep [4] [] []] ⟨26, [(4, .c (.v (.bool false)))], [], []⟩ [] (by kernel_rfl) trivial ?_
          refine tri_ret ?_
          refine inBR ?_
          refine thenR ?_
          refine thenR ?_
          refine inBR ?_
          refine thenR ?_
          rw [some_inv h]
          exact ⟨[], by kernel_rfl, trivial⟩
        · replace h := cnd_f h e5
          refine tri_skip ?_
          refine inBN ?_
          refine thenN ?_
          refine tri_reg_end env [] 6 1024 [.keep [0, 1, 5] [] []] ⟨26, [(0, .c (.lst 1 a0.length (encF (eI .i64) 0 a0))), (1, .c (.lst 1 a1.length (encF (eI .i64) 0 a1))), (5, .c (.v (.int .i64 (IntKind.wrap .i64 (v1 + 1)))))], [], []⟩ [True] (by kernel_rfl) ⟨trivial, trivial⟩ ?_
          exact thenJ (IntKind.wrap .i64 (v1 + 1)) h (by kernel_rfl)
      · replace h := cnd_f h e2
        refine tri_tell [.keep [] [] []] ⟨26, [], [], []⟩ [] (by kernel_rfl) trivial ?_
        refine tri_exit ?_
        refine thenE ?_
        refine thenE ?_
        refine inBX ?_
        exact thenJ () h (by kernel_rfl)
end Go.Proofs.YtmdolfannbbipaaDoor
namespace Go.Proofs.YtmdolfannbbipaaDoor
open Go Go.RowKit Go.Ev Go.Proofs
set_option linter.unusedVariables false

set_option maxRecDepth 100000
theorem ok_rule_reader_need (K : Nat) (a0 : T_reader) (a1 : Bool) (r : T_reader) (h : rule_reader_need K a0 a1 = some (some r)) : FnOk Tryd.prog 54 (ax_rule_reader_need a0 a1) (rx_rule_reader_need r) (px_rule_reader_need r) := by
  refine ⟨⟨Tryd.f54, Tryd.func54, by kernel_rfl, by kernel_rfl⟩, ?_⟩
  unfold rule_reader_need at h
  refine fn_ok env Tryd.func54 rfl ⟨8, [(0, .c (.pvar (0, 4) 0)), (1, .c (.v (.bool a1)))], [((0, 4), [.v (.string a0.text_), .ref (0, 0) a0.nodes_.length])], [((0, 0), some ⟨false, 4, a0.nodes_.length, encF e_RuleNode d_RuleNode a0.nodes_⟩)]⟩ [(0, 4)] (by kernel_rfl) fun X => ?_
  refine tri_reg env [] 1 1024 [.keep [5] [(0, 4)] [(0, 0)]] ⟨8, [(5, .c (.v (.bool (!a1))))], [((0, 4), [.v (.string a0.text_), .ref (0, 0) a0.nodes_.length])], [((0, 0), some ⟨false, 4, a0.nodes_.length, encF e_RuleNode d_RuleNode a0.nodes_⟩)]⟩ [] (by kernel_rfl) trivial ?_
  refine tri_cond (!a1) (by kernel_rfl) (fun e1 => ?_) (fun e1 => ?_)
  · replace h := cnd_t h e1
    exact (noso h.symm).elim
  · replace h := cnd_f h e1
    refine tri_skip ?_
    rw [some_inv2 h]
    exact ⟨[(a0.nodes_.length = a0.nodes_.length)], by kernel_rfl, ⟨rfl, trivial⟩⟩
end Go.Proofs.YtmdolfannbbipaaDoor
namespace Go.Proofs.YtmdolfannbbipaaDoor
open Go Go.RowKit Go.Ev Go.Proofs
set_option linter.unusedVariables false

set_option maxRecDepth 100000
theorem ok_rule_reader_take (K : Nat) (a0 : T_reader) (a1 : ByteArray) (r : (Bool × T_reader)) (h : rule_reader_take K a0 a1 = some r) : FnOk Tryd.prog 76 (ax_rule_reader_take a0 a1) (rx_rule_reader_take r) (px_rule_reader_take r) := by
  refine ⟨⟨Tryd.f76, Tryd.func76, by kernel_rfl, by kernel_rfl⟩, ?_⟩
  unfold rule_reader_take at h
  refine fn_ok env Tryd.func76 rfl ⟨21, [(0, .c (.pvar (0, 4) 0)), (1, .c (.v (.string a1)))], [((0, 4), [.v (.string a0.text_), .ref (0, 0) a0.nodes_.length])], [((0, 0), some ⟨false, 4, a0.nodes_.length, encF e_RuleNode d_RuleNode a0.nodes_⟩)]⟩ [(0, 4)] (by kernel_rfl) fun X => ?_
  refine tri_reg env [] 1 1024 [.keep [0, 1] [(0, 4)] [(0, 0)]] ⟨21, [(0, .c (.pvar (0, 4) 0)), (1, .c (.v (.string a1)))], [((0, 4), [.v (.string a0.text_), .ref (0, 0) a0.nodes_.length])], [((0, 0), some ⟨false, 4, a0.nodes_.length, encF e_RuleNode d_RuleNode a0.nodes_⟩)]⟩ [] (by kernel_rfl) trivial ?_
  obtain ⟨y1, c2, h⟩ := bnd_inv h
  refine tri_reg env [(5, .call ⟨(ax_strings_CutPrefix a0.text_ a1), [false, false], rx_strings_CutPrefix y1, px_strings_CutPrefix y1, true⟩)] 2 1024 [.keep [0, 5, 6] [(0, 4)] [(0, 0)]] ⟨21, [(0, .c (.pvar (0, 4) 0)), (5, .c (.v (.string y1.1))), (6, .c (.v (.bool y1.2)))], [((0, 4), [.v (.string a0.text_), .ref (0, 0) a0.nodes_.length])], [((0, 0), some ⟨false, 4, a0.nodes_.length, encF e_RuleNode d_RuleNode a0.nodes_⟩)]⟩ [(EqXs (ax_strings_CutPrefix a0.text_ a1) (ax_strings_CutPrefix a0.text_ a1)), (FnOk Tryd.prog 93 (ax_strings_CutPrefix a0.text_ a1) (rx_strings_CutPrefix y1) (px_strings_CutPrefix y1))] (by kernel_rfl) ⟨(eqs (eqr _) (eqs (eqr _) eqs0)), (ok_strings_CutPrefix K a0.text_ a1 y1 c2), trivial⟩ ?_
  refine tri_reg env [] 3 1024 [.keep [6] [(0, 4)] [(0, 0)]] ⟨21, [(6, .c (.v (.bool y1.2)))], [((0, 4), [.v (.string y1.1), .ref (0, 0) a0.nodes_.length])], [((0, 0), some ⟨false, 4, a0.nodes_.length, encF e_RuleNode d_RuleNode a0.nodes_⟩)]⟩ [] (by kernel_rfl) trivial ?_
  refine tri_reg env [] 4 1024 [.keep [4] [(0, 4)] [(0, 0)]] ⟨21, [(4, .c (.v (.bool y1.2)))], [((0, 4), [.v (.string y1.1), .ref (0, 0) a0.nodes_.length])], [((0, 0), some ⟨false, 4, a0.nodes_.length, encF e_RuleNode d_RuleNode a0.nodes_⟩)]⟩ [] (by kernel_rfl) trivial ?_
  refine tri_ret ?_
  rw [some_inv h]
  exact ⟨[(a0.nodes_.length = a0.nodes_.length)], by kernel_rfl, ⟨rfl, trivial⟩⟩
end Go.Proofs.YtmdolfannbbipaaDoor
namespace Go.Proofs.YtmdolfannbbipaaDoor
open Go Go.RowKit Go.Ev Go.Proofs
set_option linter.unusedVariables false

set_option maxRecDepth 100000
theorem ok_rule_reader_add (K : Nat) (a0 : T_reader) (a1 : T_RuleNode) (r : (Int × T_reader)) (h : rule_reader_add K a0 a1 = some r) : FnOk Tryd.prog 77 (ax_rule_reader_add a0 a1) (rx_rule_reader_add r) (px_rule_reader_add r) := by
  refine ⟨⟨Tryd.f77, Tryd.func77, by kernel_rfl, by kernel_rfl⟩, ?_⟩
  unfold rule_reader_add at h
  refine fn_ok env Tryd.func77 rfl ⟨21, [(0, .c (.pvar (0, 4) 0)), (1, .agg (e_RuleNode a1))], [((0, 4), [.v (.string a0.text_), .ref (0, 0) a0.nodes_.length])], [((0, 0), some ⟨false, 4, a0.nodes_.length, encF e_RuleNode d_RuleNode a0.nodes_⟩)]⟩ [(0, 4)] (by kernel_rfl) fun X => ?_
  refine tri_reg env [] 1 1024 [.keep [0, 3] [(0, 4), (1000, 0)] [(0, 0)]] ⟨21, [(0, .c (.pvar (0, 4) 0)), (3, .c (.pvar (1000, 0) 0))], [((0, 4), [.v (.string a0.text_), .ref (0, 0) a0.nodes_.length]), ((1000, 0), (e_RuleNode a1))], [((0, 0), some ⟨false, 4, a0.nodes_.length, encF e_RuleNode d_RuleNode a0.nodes_⟩)]⟩ [] (by kernel_rfl) trivial ?_
  obtain ⟨q1, h⟩ := ck_inv h
  refine tri_reg env [] 2 1024 [.arr (2007, 0) ((a0.nodes_ ++ ([a1] : List T_RuleNode)).length) (encF e_RuleNode d_RuleNode (a0.nodes_ ++ ([a1] : List T_RuleNode))), .var (0, 4) [.v (.string a0.text_), .ref (2007, 0) ((a0.nodes_ ++ ([a1] : List T_RuleNode)).length)], .keep [0] [(0, 4)] [(2007, 0)]] ⟨21, [(0, .c (.pvar (0, 4) 0))], [((0, 4), [.v (.string a0.text_), .ref (2007, 0) ((a0.nodes_ ++ ([a1] : List T_RuleNode)).length)])], [((2007, 0), some ⟨false, 4, ((a0.nodes_ ++ ([a1] : List T_RuleNode)).length), encF e_RuleNode d_RuleNode (a0.nodes_ ++ ([a1] : List T_RuleNode))⟩)]⟩ [(1 = 0 ∨ 4 = 4), ((a0.nodes_.length + 1) * 32 ≤ LIMIT), ((a0.nodes_.length + 1) = (a0.nodes_ ++ ([a1] : List T_RuleNode)).length ∧ ∀ i, i < (a0.nodes_ ++ ([a1] : List T_RuleNode)).length → (appG a0.nodes_.length (encF e_RuleNode d_RuleNode a0.nodes_) (fun i => window [.v (.int .i64 a1.Kind), .v (.int .i64 a1.Cond), .v (.int .i64 a1.Left), .v (.int .i64 a1.Right)] (i * 4) 4)) i = (encF e_RuleNode d_RuleNode (a0.nodes_ ++ ([a1] : List T_RuleNode))) i), (TellCs [.v (.string a0.text_), .ref (2007, 0) (a0.nodes_.length + 1)] [.v (.string a0.text_), .ref (2007, 0) ((a0.nodes_ ++ ([a1] : List T_RuleNode)).length)])] (by kernel_rfl) ⟨(.inr rfl), q1, (Tells.arr (Tells.app (Tells.rfl' (e := e_RuleNode) (d := d_RuleNode) (L := a0.nodes_)) (Tells.items (e := e_RuleNode) (d := d_RuleNode) (k := 1) (g := (fun i => window [.v (.int .i64 a1.Kind), .v (.int .i64 a1.Cond), .v (.int .i64 a1.Left), .v (.int .i64 a1.Right)] (i * 4) 4)) (L := ([a1] : List T_RuleNode)) rfl (belowS rfl below0)))), ⟨(TellC.refl _), ⟨(TellC.ref (Tells.len (e := e_RuleNode) (d := d_RuleNode) (n := (a0.nodes_.length + 1)) (g := (appG a0.nodes_.length (encF e_RuleNode d_RuleNode a0.nodes_) (fun i => window [.v (.int .i64 a1.Kind), .v (.int .i64 a1.Cond), .v (.int .i64 a1.Left), .v (.int .i64 a1.Right)] (i * 4) 4))) (L := (a0.nodes_ ++ ([a1] : List T_RuleNode))) (Tells.app (Tells.rfl' (e := e_RuleNode) (d := d_RuleNode) (L := a0.nodes_)) (Tells.items (e := e_RuleNode) (d := d_RuleNode) (k := 1) (g := (fun i => window [.v (.int .i64 a1.Kind), .v (.int .i64 a1.Cond), .v (.int .i64 a1.Left), .v (.int .i64 a1.Right)] (i * 4) 4)) (L := ([a1] : List T_RuleNode)) rfl (belowS rfl below0))))), trivial⟩⟩, trivial⟩ ?_
  refine tri_reg env [] 3 1024 [.keep [4] [(0, 4)] [(2007, 0)]] ⟨21, [(4, .c (.v (.int .i64 (IntKind.wrap .i64 ((((a0.nodes_ ++ ([a1] : List T_RuleNode)).length : Nat) : Int) - 1)))))], [((0, 4), [.v (.string a0.text_), .ref (2007, 0) ((a0.nodes_ ++ ([a1] : List T_RuleNode)).length)])], [((2007, 0), some ⟨false, 4, ((a0.nodes_ ++ ([a1] : List T_RuleNode)).length), encF e_RuleNode d_RuleNode (a0.nodes_ ++ ([a1] : List T_RuleNode))⟩)]⟩ [True] (by kernel_rfl) ⟨trivial, trivial⟩ ?_
  refine tri_ret ?_
  rw [some_inv h]
  exact ⟨[((a0.nodes_ ++ ([a1] : List T_RuleNode)).length = (a0.nodes_ ++ ([a1] : List T_RuleNode)).length)], by kernel_rfl, ⟨rfl, trivial⟩⟩
end Go.Proofs.YtmdolfannbbipaaDoor
