/- The types of this program that the step calculus meets (printed by tab.py). -/
import Derived.Test.YtejnpppejalhfaaProg
import Derived.Test.YtejnpppejalhfaaSc8
namespace Go.Proofs.Ytejnpppejalhfaa
open Go.RowKit Go.Sort

def tab : Tab := [
  (3, .sc (.int .i64) 1 (.int .i64 0)),
  (80, .st 6 [(0, 1, false), (1, 1, false), (2, 1, false), (3, 1, false), (4, 1, false), (5, 1, false)] [.string ⟨#[]⟩, .slice none 0 0, .slice none 0 0, .slice none 0 0, .slice none 0 0, .int .i64 0]),
  (38, .st 5 [(0, 1, false), (1, 1, false), (2, 1, false), (3, 1, false), (4, 1, false)] [.int .i64 0, .int .i64 0, .int .i64 0, .int .i64 0, .int .i64 0]),
  (9, .sc .string 1 (.string ⟨#[]⟩)),
  (63, .st 4 [(0, 1, false), (1, 1, false), (2, 1, false), (3, 1, false)] [.int .i64 0, .int .i64 0, .int .i64 0, .bool false]),
  (61, .sl 63 4 32 true [.int .i64 0, .int .i64 0, .int .i64 0, .bool false]),
  (50, .st 13 [(0, 8, true), (8, 1, false), (9, 1, false), (10, 1, false), (11, 2, true)] [.int .i64 0, .int .i64 0, .int .i64 0, .int .i64 0, .int .i64 0, .int .i64 0, .int .i64 0, .int .i64 0, .int .i64 0, .int .i64 0, .int .i64 0, .int .i64 0, .int .i64 0]),
  (122, .st 5 [(0, 1, false), (1, 1, false), (2, 1, false), (3, 1, false), (4, 1, false)] [.int .i64 0, .int .i64 0, .string ⟨#[]⟩, .bool false, .bool false]),
  (76, .sl 122 5 40 true [.int .i64 0, .int .i64 0, .string ⟨#[]⟩, .bool false, .bool false]),
  (75, .sl 9 1 16 false [.string ⟨#[]⟩]),
  (78, .sl 127 3 32 true [.int .i64 0, .string ⟨#[]⟩, .int .i64 0]),
  (77, .sl 125 2 24 true [.string ⟨#[]⟩, .int .i64 0]),
  (46, .ar 8 8 1 false [.int .i64 0, .int .i64 0, .int .i64 0, .int .i64 0, .int .i64 0, .int .i64 0, .int .i64 0, .int .i64 0]),
  (4, .sc .bool 1 (.bool false)),
  (136, .sc (.pointer 138) 1 (.pointer none)),
  (52, .st 5 [(0, 1, false), (1, 1, false), (2, 1, false), (3, 1, false), (4, 1, false)] [.int .i64 0, .int .i64 0, .int .i64 0, .int .i64 0, .int .i64 0]),
  (127, .st 3 [(0, 1, false), (1, 1, false), (2, 1, false)] [.int .i64 0, .string ⟨#[]⟩, .int .i64 0]),
  (107, .ar 256 256 1 false [.int .i64 0, .int .i64 0, .int .i64 0, .int .i64 0, .int .i64 0, .int .i64 0, .int .i64 0, .int .i64 0, .int .i64 0, .int .i64 0, .int .i64 0, .int .i64 0, .int .i64 0, .int .i64 0, .int .i64 0, .int .i64 0, .int .i64 0, .int .i64 0, .int .i64 0, .int .i64 0, .int .i64 0, .int .i64 0, .int .i64 0, .int .i64 0, .int .i64 0, .int .i64 0, .int .i64 0, .int .i64 0, .int .i64 0, .int .i64 0, .int .i64 0, .int .i64 0, .int .i64 0, .int .i64 0, .int .i64 0, .int .i64 0, .int .i64 0, .int .i64 0, .int .i64 0, .int .i64 0, .int .i64 0, .int .i64 0, .int .i64 0, .int .i64 0, .int .i64 0, .int .i64 0, .int .i64 0, .int .i64 0, .int .i64 0, .int .i64 0, .int .i64 0, .int .i64 0, .int .i64 0, .int .i64 0, .int .i64 0, .int .i64 0, .int .i64 0, .int .i64 0, .int .i64 0, .int .i64 0, .int .i64 0, .int .i64 0, .int .i64 0, .int .i64 0, .int .i64 0, .int .i64 0, .int .i64 0, .int .i64 0, .int .i64 0, .int .i64 0, .int .i64 0, .int .i64 0, .int .i64 0, .int .i64 0, .int .i64 0, .int .i64 0, .int .i64 0, .int .i64 0, .int .i64 0, .int .i64 0, .int .i64 0, .int .i64 0, .int .i64 0, .int .i64 0, .int .i64 0, .int .i64 0, .int .i64 0, .int .i64 0, .int .i64 0, .int .i64 0, .int .i64 0, .int .i64 0, .int .i64 0, .int .i64 0, .int .i64 0, .int .i64 0, .int .i64 0, .int .i64 0, .int .i64 0, .int .i64 0, .int .i64 0, .int .i64 0, .int .i64 0, .int .i64 0, .int .i64 0, .int .i64 0, .int .i64 0, .int .i64 0, .int .i64 0, .int .i64 0, .int .i64 0, .int .i64 0, .int .i64 0, .int .i64 0, .int .i64 0, .int .i64 0, .int .i64 0, .int .i64 0, .int .i64 0, .int .i64 0, .int .i64 0, .int .i64 0, .int .i64 0, .int .i64 0, .int .i64 0, .int .i64 0, .int .i64 0, .int .i64 0, .int .i64 0, .int .i64 0, .int .i64 0, .int .i64 0, .int .i64 0, .int .i64 0, .int .i64 0, .int .i64 0, .int .i64 0, .int .i64 0, .int .i64 0, .int .i64 0, .int .i64 0, .int .i64 0, .int .i64 0, .int .i64 0, .int .i64 0, .int .i64 0, .int .i64 0, .int .i64 0, .int .i64 0, .int .i64 0, .int .i64 0, .int .i64 0, .int .i64 0, .int .i64 0, .int .i64 0, .int .i64 0, .int .i64 0, .int .i64 0, .int .i64 0, .int .i64 0, .int .i64 0, .int .i64 0, .int .i64 0, .int .i64 0, .int .i64 0, .int .i64 0, .int .i64 0, .int .i64 0, .int .i64 0, .int .i64 0, .int .i64 0, .int .i64 0, .int .i64 0, .int .i64 0, .int .i64 0, .int .i64 0, .int .i64 0, .int .i64 0, .int .i64 0, .int .i64 0, .int .i64 0, .int .i64 0, .int .i64 0, .int .i64 0, .int .i64 0, .int .i64 0, .int .i64 0, .int .i64 0, .int .i64 0, .int .i64 0, .int .i64 0, .int .i64 0, .int .i64 0, .int .i64 0, .int .i64 0, .int .i64 0, .int .i64 0, .int .i64 0, .int .i64 0, .int .i64 0, .int .i64 0, .int .i64 0, .int .i64 0, .int .i64 0, .int .i64 0, .int .i64 0, .int .i64 0, .int .i64 0, .int .i64 0, .int .i64 0, .int .i64 0, .int .i64 0, .int .i64 0, .int .i64 0, .int .i64 0, .int .i64 0, .int .i64 0, .int .i64 0, .int .i64 0, .int .i64 0, .int .i64 0, .int .i64 0, .int .i64 0, .int .i64 0, .int .i64 0, .int .i64 0, .int .i64 0, .int .i64 0, .int .i64 0, .int .i64 0, .int .i64 0, .int .i64 0, .int .i64 0, .int .i64 0, .int .i64 0, .int .i64 0, .int .i64 0, .int .i64 0, .int .i64 0, .int .i64 0, .int .i64 0, .int .i64 0, .int .i64 0, .int .i64 0, .int .i64 0, .int .i64 0, .int .i64 0, .int .i64 0, .int .i64 0, .int .i64 0, .int .i64 0, .int .i64 0, .int .i64 0, .int .i64 0, .int .i64 0, .int .i64 0]),
  (125, .st 2 [(0, 1, false), (1, 1, false)] [.string ⟨#[]⟩, .int .i64 0]),
  (91, .sl 5 1 1 false [.int .u8 0]),
  (156, .sl 3 1 8 false [.int .i64 0]),
  (148, .st 3 [(0, 1, false), (1, 1, false), (2, 1, false)] [.bool false, .bool false, .bool false]),
  (146, .st 2 [(0, 1, false), (1, 1, false)] [.string ⟨#[]⟩, .bool false]),
  (129, .sc (.pointer 131) 1 (.pointer none)),
  (144, .sc (.pointer 146) 1 (.pointer none)),
  (150, .sc (.map 3 148) 1 (.map none)),
  (116, .sc (.pointer 118) 1 (.pointer none)),
  (5, .sc (.int .u8) 1 (.int .u8 0)),
  (92, .sc (.int .u64) 1 (.int .u64 0)),
  (118, .st 1 [(0, 1, false)] [.slice none 0 0]),
  (131, .st 1 [(0, 1, false)] [.slice none 0 0]),
  (138, .st 1 [(0, 1, false)] [.string ⟨#[]⟩]),
  (161, .sl 61 1 24 false [.slice none 0 0]),
  (21, .sc (.int .i32) 1 (.int .i32 0)),
  (165, .sc (.map 9 3) 1 (.map none)),
  (22, .sc (.int .i64) 1 (.int .i64 0)),
  (93, .sc (.int .u64) 1 (.int .u64 0)),
  (95, .ar 4 4 1 false [.int .i64 0, .int .i64 0, .int .i64 0, .int .i64 0]),
  (97, .sc (.pointer 50) 1 (.pointer none))]
set_option maxRecDepth 100000 in
theorem tabOk : TabOk Try.prog tab := by
  unfold tab
  repeat (first | exact TabOk.nil _ | refine TabOk.cons (by kernel_rfl) (by rfl) ?_)
end Go.Proofs.Ytejnpppejalhfaa
