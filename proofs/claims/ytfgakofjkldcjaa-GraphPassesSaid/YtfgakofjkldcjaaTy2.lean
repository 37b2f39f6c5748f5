/- The places of the fields of the program's structs, each by the kernel. Written by program. -/
import Derived.Test.YtfgakofjkldcjaaTy
import Derived.Test.YtfgakofjkldcjaaSxi
namespace Go.Proofs.Ytfgakofjkldcjaa
open Go Go.Sx
theorem fa32_0 : Fat Try.prog 32 0 0 := ⟨_, _, _, Try.underlying32, rfl, rfl, sz3, by decide⟩
theorem fa32_1 : Fat Try.prog 32 1 1 := ⟨_, _, _, Try.underlying32, rfl, rfl, sz3, by decide⟩
theorem fa32_2 : Fat Try.prog 32 2 2 := ⟨_, _, _, Try.underlying32, rfl, rfl, sz3, by decide⟩
theorem fa32_3 : Fat Try.prog 32 3 3 := ⟨_, _, _, Try.underlying32, rfl, rfl, sz3, by decide⟩
theorem fa32_4 : Fat Try.prog 32 4 4 := ⟨_, _, _, Try.underlying32, rfl, rfl, sz31, by decide⟩
theorem fa32_5 : Fat Try.prog 32 5 5 := ⟨_, _, _, Try.underlying32, rfl, rfl, sz30, by decide⟩
theorem pl32 : Pls Try.prog 32 [(0, 1), (1, 1), (2, 1), (3, 1), (4, 1), (5, 1)] := ⟨_, Try.underlying32, fun w => by simp [sz3.run, sz30.run, sz31.run]⟩
theorem fa33_0 : Fat Try.prog 33 0 0 := ⟨_, _, _, Try.underlying33, rfl, rfl, sz3, by decide⟩
theorem fa33_1 : Fat Try.prog 33 1 1 := ⟨_, _, _, Try.underlying33, rfl, rfl, sz3, by decide⟩
theorem fa33_2 : Fat Try.prog 33 2 2 := ⟨_, _, _, Try.underlying33, rfl, rfl, sz3, by decide⟩
theorem fa33_3 : Fat Try.prog 33 3 3 := ⟨_, _, _, Try.underlying33, rfl, rfl, sz3, by decide⟩
theorem fa33_4 : Fat Try.prog 33 4 4 := ⟨_, _, _, Try.underlying33, rfl, rfl, sz31, by decide⟩
theorem fa33_5 : Fat Try.prog 33 5 5 := ⟨_, _, _, Try.underlying33, rfl, rfl, sz30, by decide⟩
theorem pl33 : Pls Try.prog 33 [(0, 1), (1, 1), (2, 1), (3, 1), (4, 1), (5, 1)] := ⟨_, Try.underlying33, fun w => by simp [sz3.run, sz30.run, sz31.run]⟩
theorem fa34_0 : Fat Try.prog 34 0 0 := ⟨_, _, _, Try.underlying34, rfl, rfl, sz3, by decide⟩
theorem fa34_1 : Fat Try.prog 34 1 1 := ⟨_, _, _, Try.underlying34, rfl, rfl, sz3, by decide⟩
theorem fa34_2 : Fat Try.prog 34 2 2 := ⟨_, _, _, Try.underlying34, rfl, rfl, sz30, by decide⟩
theorem fa34_3 : Fat Try.prog 34 3 3 := ⟨_, _, _, Try.underlying34, rfl, rfl, sz3, by decide⟩
theorem fa34_4 : Fat Try.prog 34 4 4 := ⟨_, _, _, Try.underlying34, rfl, rfl, sz3, by decide⟩
theorem fa34_5 : Fat Try.prog 34 5 5 := ⟨_, _, _, Try.underlying34, rfl, rfl, sz3, by decide⟩
theorem fa34_6 : Fat Try.prog 34 6 6 := ⟨_, _, _, Try.underlying34, rfl, rfl, sz33, by decide⟩
theorem fa34_7 : Fat Try.prog 34 7 12 := ⟨_, _, _, Try.underlying34, rfl, rfl, sz3, by decide⟩
theorem pl34 : Pls Try.prog 34 [(0, 1), (1, 1), (2, 1), (3, 1), (4, 1), (5, 1), (6, 6), (12, 1)] := ⟨_, Try.underlying34, fun w => by simp [sz3.run, sz30.run, sz33.run]⟩
theorem fa35_0 : Fat Try.prog 35 0 0 := ⟨_, _, _, Try.underlying35, rfl, rfl, sz3, by decide⟩
theorem fa35_1 : Fat Try.prog 35 1 1 := ⟨_, _, _, Try.underlying35, rfl, rfl, sz3, by decide⟩
theorem fa35_2 : Fat Try.prog 35 2 2 := ⟨_, _, _, Try.underlying35, rfl, rfl, sz30, by decide⟩
theorem fa35_3 : Fat Try.prog 35 3 3 := ⟨_, _, _, Try.underlying35, rfl, rfl, sz3, by decide⟩
theorem fa35_4 : Fat Try.prog 35 4 4 := ⟨_, _, _, Try.underlying35, rfl, rfl, sz3, by decide⟩
theorem fa35_5 : Fat Try.prog 35 5 5 := ⟨_, _, _, Try.underlying35, rfl, rfl, sz3, by decide⟩
theorem fa35_6 : Fat Try.prog 35 6 6 := ⟨_, _, _, Try.underlying35, rfl, rfl, sz33, by decide⟩
theorem fa35_7 : Fat Try.prog 35 7 12 := ⟨_, _, _, Try.underlying35, rfl, rfl, sz3, by decide⟩
theorem pl35 : Pls Try.prog 35 [(0, 1), (1, 1), (2, 1), (3, 1), (4, 1), (5, 1), (6, 6), (12, 1)] := ⟨_, Try.underlying35, fun w => by simp [sz3.run, sz30.run, sz33.run]⟩
theorem fa44_0 : Fat Try.prog 44 0 0 := ⟨_, _, _, Try.underlying44, rfl, rfl, sz3, by decide⟩
theorem fa44_1 : Fat Try.prog 44 1 1 := ⟨_, _, _, Try.underlying44, rfl, rfl, sz3, by decide⟩
theorem fa44_2 : Fat Try.prog 44 2 2 := ⟨_, _, _, Try.underlying44, rfl, rfl, sz3, by decide⟩
theorem fa44_3 : Fat Try.prog 44 3 3 := ⟨_, _, _, Try.underlying44, rfl, rfl, sz3, by decide⟩
theorem fa44_4 : Fat Try.prog 44 4 4 := ⟨_, _, _, Try.underlying44, rfl, rfl, sz31, by decide⟩
theorem fa44_5 : Fat Try.prog 44 5 5 := ⟨_, _, _, Try.underlying44, rfl, rfl, sz30, by decide⟩
theorem pl44 : Pls Try.prog 44 [(0, 1), (1, 1), (2, 1), (3, 1), (4, 1), (5, 1)] := ⟨_, Try.underlying44, fun w => by simp [sz3.run, sz30.run, sz31.run]⟩
theorem fa56_0 : Fat Try.prog 56 0 0 := ⟨_, _, _, Try.underlying56, rfl, rfl, sz3, by decide⟩
theorem fa56_1 : Fat Try.prog 56 1 1 := ⟨_, _, _, Try.underlying56, rfl, rfl, sz3, by decide⟩
theorem fa56_2 : Fat Try.prog 56 2 2 := ⟨_, _, _, Try.underlying56, rfl, rfl, sz30, by decide⟩
theorem pl56 : Pls Try.prog 56 [(0, 1), (1, 1), (2, 1)] := ⟨_, Try.underlying56, fun w => by simp [sz3.run, sz30.run]⟩
theorem fa57_0 : Fat Try.prog 57 0 0 := ⟨_, _, _, Try.underlying57, rfl, rfl, sz3, by decide⟩
theorem fa57_1 : Fat Try.prog 57 1 1 := ⟨_, _, _, Try.underlying57, rfl, rfl, sz3, by decide⟩
theorem fa57_2 : Fat Try.prog 57 2 2 := ⟨_, _, _, Try.underlying57, rfl, rfl, sz30, by decide⟩
theorem pl57 : Pls Try.prog 57 [(0, 1), (1, 1), (2, 1)] := ⟨_, Try.underlying57, fun w => by simp [sz3.run, sz30.run]⟩
theorem fa62_0 : Fat Try.prog 62 0 0 := ⟨_, _, _, Try.underlying62, rfl, rfl, sz60, by decide⟩
theorem fa62_1 : Fat Try.prog 62 1 1 := ⟨_, _, _, Try.underlying62, rfl, rfl, sz61, by decide⟩
theorem pl62 : Pls Try.prog 62 [(0, 1), (1, 1)] := ⟨_, Try.underlying62, fun w => by simp [sz60.run, sz61.run]⟩
theorem fa63_0 : Fat Try.prog 63 0 0 := ⟨_, _, _, Try.underlying63, rfl, rfl, sz60, by decide⟩
theorem fa63_1 : Fat Try.prog 63 1 1 := ⟨_, _, _, Try.underlying63, rfl, rfl, sz61, by decide⟩
theorem pl63 : Pls Try.prog 63 [(0, 1), (1, 1)] := ⟨_, Try.underlying63, fun w => by simp [sz60.run, sz61.run]⟩
theorem fa73_0 : Fat Try.prog 73 0 0 := ⟨_, _, _, Try.underlying73, rfl, rfl, sz3, by decide⟩
theorem fa73_1 : Fat Try.prog 73 1 1 := ⟨_, _, _, Try.underlying73, rfl, rfl, sz3, by decide⟩
theorem fa73_2 : Fat Try.prog 73 2 2 := ⟨_, _, _, Try.underlying73, rfl, rfl, sz3, by decide⟩
theorem fa73_3 : Fat Try.prog 73 3 3 := ⟨_, _, _, Try.underlying73, rfl, rfl, sz3, by decide⟩
theorem fa73_4 : Fat Try.prog 73 4 4 := ⟨_, _, _, Try.underlying73, rfl, rfl, sz3, by decide⟩
theorem pl73 : Pls Try.prog 73 [(0, 1), (1, 1), (2, 1), (3, 1), (4, 1)] := ⟨_, Try.underlying73, fun w => by simp [sz3.run]⟩
theorem fa74_0 : Fat Try.prog 74 0 0 := ⟨_, _, _, Try.underlying74, rfl, rfl, sz3, by decide⟩
theorem fa74_1 : Fat Try.prog 74 1 1 := ⟨_, _, _, Try.underlying74, rfl, rfl, sz3, by decide⟩
theorem fa74_2 : Fat Try.prog 74 2 2 := ⟨_, _, _, Try.underlying74, rfl, rfl, sz3, by decide⟩
theorem fa74_3 : Fat Try.prog 74 3 3 := ⟨_, _, _, Try.underlying74, rfl, rfl, sz3, by decide⟩
theorem fa74_4 : Fat Try.prog 74 4 4 := ⟨_, _, _, Try.underlying74, rfl, rfl, sz3, by decide⟩
theorem pl74 : Pls Try.prog 74 [(0, 1), (1, 1), (2, 1), (3, 1), (4, 1)] := ⟨_, Try.underlying74, fun w => by simp [sz3.run]⟩
theorem fa75_0 : Fat Try.prog 75 0 0 := ⟨_, _, _, Try.underlying75, rfl, rfl, sz3, by decide⟩
theorem fa75_1 : Fat Try.prog 75 1 1 := ⟨_, _, _, Try.underlying75, rfl, rfl, sz3, by decide⟩
theorem fa75_2 : Fat Try.prog 75 2 2 := ⟨_, _, _, Try.underlying75, rfl, rfl, sz3, by decide⟩
theorem fa75_3 : Fat Try.prog 75 3 3 := ⟨_, _, _, Try.underlying75, rfl, rfl, sz3, by decide⟩
theorem fa75_4 : Fat Try.prog 75 4 4 := ⟨_, _, _, Try.underlying75, rfl, rfl, sz74, by decide⟩
theorem pl75 : Pls Try.prog 75 [(0, 1), (1, 1), (2, 1), (3, 1), (4, 5)] := ⟨_, Try.underlying75, fun w => by simp [sz3.run, sz74.run]⟩
theorem fa76_0 : Fat Try.prog 76 0 0 := ⟨_, _, _, Try.underlying76, rfl, rfl, sz3, by decide⟩
theorem fa76_1 : Fat Try.prog 76 1 1 := ⟨_, _, _, Try.underlying76, rfl, rfl, sz3, by decide⟩
theorem fa76_2 : Fat Try.prog 76 2 2 := ⟨_, _, _, Try.underlying76, rfl, rfl, sz3, by decide⟩
theorem fa76_3 : Fat Try.prog 76 3 3 := ⟨_, _, _, Try.underlying76, rfl, rfl, sz3, by decide⟩
theorem fa76_4 : Fat Try.prog 76 4 4 := ⟨_, _, _, Try.underlying76, rfl, rfl, sz74, by decide⟩
theorem pl76 : Pls Try.prog 76 [(0, 1), (1, 1), (2, 1), (3, 1), (4, 5)] := ⟨_, Try.underlying76, fun w => by simp [sz3.run, sz74.run]⟩
theorem fa94_0 : Fat Try.prog 94 0 0 := ⟨_, _, _, Try.underlying94, rfl, rfl, sz3, by decide⟩
theorem fa94_1 : Fat Try.prog 94 1 1 := ⟨_, _, _, Try.underlying94, rfl, rfl, sz3, by decide⟩
theorem fa94_2 : Fat Try.prog 94 2 2 := ⟨_, _, _, Try.underlying94, rfl, rfl, sz3, by decide⟩
theorem fa94_3 : Fat Try.prog 94 3 3 := ⟨_, _, _, Try.underlying94, rfl, rfl, sz3, by decide⟩
theorem fa94_4 : Fat Try.prog 94 4 4 := ⟨_, _, _, Try.underlying94, rfl, rfl, sz31, by decide⟩
theorem fa94_5 : Fat Try.prog 94 5 5 := ⟨_, _, _, Try.underlying94, rfl, rfl, sz30, by decide⟩
theorem pl94 : Pls Try.prog 94 [(0, 1), (1, 1), (2, 1), (3, 1), (4, 1), (5, 1)] := ⟨_, Try.underlying94, fun w => by simp [sz3.run, sz30.run, sz31.run]⟩
theorem fa95_0 : Fat Try.prog 95 0 0 := ⟨_, _, _, Try.underlying95, rfl, rfl, sz3, by decide⟩
theorem fa95_1 : Fat Try.prog 95 1 1 := ⟨_, _, _, Try.underlying95, rfl, rfl, sz3, by decide⟩
theorem fa95_2 : Fat Try.prog 95 2 2 := ⟨_, _, _, Try.underlying95, rfl, rfl, sz3, by decide⟩
theorem fa95_3 : Fat Try.prog 95 3 3 := ⟨_, _, _, Try.underlying95, rfl, rfl, sz3, by decide⟩
theorem fa95_4 : Fat Try.prog 95 4 4 := ⟨_, _, _, Try.underlying95, rfl, rfl, sz31, by decide⟩
theorem fa95_5 : Fat Try.prog 95 5 5 := ⟨_, _, _, Try.underlying95, rfl, rfl, sz30, by decide⟩
theorem pl95 : Pls Try.prog 95 [(0, 1), (1, 1), (2, 1), (3, 1), (4, 1), (5, 1)] := ⟨_, Try.underlying95, fun w => by simp [sz3.run, sz30.run, sz31.run]⟩
theorem fa99_0 : Fat Try.prog 99 0 0 := ⟨_, _, _, Try.underlying99, rfl, rfl, sz3, by decide⟩
theorem fa99_1 : Fat Try.prog 99 1 1 := ⟨_, _, _, Try.underlying99, rfl, rfl, sz3, by decide⟩
theorem fa99_2 : Fat Try.prog 99 2 2 := ⟨_, _, _, Try.underlying99, rfl, rfl, sz3, by decide⟩
theorem pl99 : Pls Try.prog 99 [(0, 1), (1, 1), (2, 1)] := ⟨_, Try.underlying99, fun w => by simp [sz3.run]⟩
theorem fa100_0 : Fat Try.prog 100 0 0 := ⟨_, _, _, Try.underlying100, rfl, rfl, sz3, by decide⟩
theorem fa100_1 : Fat Try.prog 100 1 1 := ⟨_, _, _, Try.underlying100, rfl, rfl, sz3, by decide⟩
theorem fa100_2 : Fat Try.prog 100 2 2 := ⟨_, _, _, Try.underlying100, rfl, rfl, sz3, by decide⟩
theorem pl100 : Pls Try.prog 100 [(0, 1), (1, 1), (2, 1)] := ⟨_, Try.underlying100, fun w => by simp [sz3.run]⟩
theorem fa101_0 : Fat Try.prog 101 0 0 := ⟨_, _, _, Try.underlying101, rfl, rfl, sz3, by decide⟩
theorem fa101_1 : Fat Try.prog 101 1 1 := ⟨_, _, _, Try.underlying101, rfl, rfl, sz3, by decide⟩
theorem fa101_2 : Fat Try.prog 101 2 2 := ⟨_, _, _, Try.underlying101, rfl, rfl, sz3, by decide⟩
theorem fa101_3 : Fat Try.prog 101 3 3 := ⟨_, _, _, Try.underlying101, rfl, rfl, sz31, by decide⟩
theorem fa101_4 : Fat Try.prog 101 4 4 := ⟨_, _, _, Try.underlying101, rfl, rfl, sz3, by decide⟩
theorem pl101 : Pls Try.prog 101 [(0, 1), (1, 1), (2, 1), (3, 1), (4, 1)] := ⟨_, Try.underlying101, fun w => by simp [sz3.run, sz31.run]⟩
theorem fa102_0 : Fat Try.prog 102 0 0 := ⟨_, _, _, Try.underlying102, rfl, rfl, sz3, by decide⟩
theorem fa102_1 : Fat Try.prog 102 1 1 := ⟨_, _, _, Try.underlying102, rfl, rfl, sz3, by decide⟩
theorem fa102_2 : Fat Try.prog 102 2 2 := ⟨_, _, _, Try.underlying102, rfl, rfl, sz3, by decide⟩
theorem fa102_3 : Fat Try.prog 102 3 3 := ⟨_, _, _, Try.underlying102, rfl, rfl, sz31, by decide⟩
theorem fa102_4 : Fat Try.prog 102 4 4 := ⟨_, _, _, Try.underlying102, rfl, rfl, sz3, by decide⟩
theorem pl102 : Pls Try.prog 102 [(0, 1), (1, 1), (2, 1), (3, 1), (4, 1)] := ⟨_, Try.underlying102, fun w => by simp [sz3.run, sz31.run]⟩
theorem fa116_0 : Fat Try.prog 116 0 0 := ⟨_, _, _, Try.underlying116, rfl, rfl, sz114, by decide⟩
theorem fa116_1 : Fat Try.prog 116 1 1 := ⟨_, _, _, Try.underlying116, rfl, rfl, sz115, by decide⟩
theorem pl116 : Pls Try.prog 116 [(0, 1), (1, 1)] := ⟨_, Try.underlying116, fun w => by simp [sz114.run, sz115.run]⟩
theorem fa117_0 : Fat Try.prog 117 0 0 := ⟨_, _, _, Try.underlying117, rfl, rfl, sz114, by decide⟩
theorem fa117_1 : Fat Try.prog 117 1 1 := ⟨_, _, _, Try.underlying117, rfl, rfl, sz115, by decide⟩
theorem pl117 : Pls Try.prog 117 [(0, 1), (1, 1)] := ⟨_, Try.underlying117, fun w => by simp [sz114.run, sz115.run]⟩
theorem fa119_0 : Fat Try.prog 119 0 0 := ⟨_, _, _, Try.underlying119, rfl, rfl, sz118, by decide⟩
theorem pl119 : Pls Try.prog 119 [(0, 1)] := ⟨_, Try.underlying119, fun w => by simp [sz118.run]⟩
theorem fa120_0 : Fat Try.prog 120 0 0 := ⟨_, _, _, Try.underlying120, rfl, rfl, sz118, by decide⟩
theorem pl120 : Pls Try.prog 120 [(0, 1)] := ⟨_, Try.underlying120, fun w => by simp [sz118.run]⟩
theorem fa125_0 : Fat Try.prog 125 0 0 := ⟨_, _, _, Try.underlying125, rfl, rfl, sz30, by decide⟩
theorem fa125_1 : Fat Try.prog 125 1 1 := ⟨_, _, _, Try.underlying125, rfl, rfl, sz3, by decide⟩
theorem fa125_2 : Fat Try.prog 125 2 2 := ⟨_, _, _, Try.underlying125, rfl, rfl, sz3, by decide⟩
theorem fa125_3 : Fat Try.prog 125 3 3 := ⟨_, _, _, Try.underlying125, rfl, rfl, sz3, by decide⟩
theorem fa125_4 : Fat Try.prog 125 4 4 := ⟨_, _, _, Try.underlying125, rfl, rfl, sz46, by decide⟩
theorem fa125_5 : Fat Try.prog 125 5 5 := ⟨_, _, _, Try.underlying125, rfl, rfl, sz3, by decide⟩
theorem fa125_6 : Fat Try.prog 125 6 6 := ⟨_, _, _, Try.underlying125, rfl, rfl, sz4, by decide⟩
theorem fa125_7 : Fat Try.prog 125 7 7 := ⟨_, _, _, Try.underlying125, rfl, rfl, sz4, by decide⟩
theorem pl125 : Pls Try.prog 125 [(0, 1), (1, 1), (2, 1), (3, 1), (4, 1), (5, 1), (6, 1), (7, 1)] := ⟨_, Try.underlying125, fun w => by simp [sz3.run, sz4.run, sz30.run, sz46.run]⟩
theorem fa126_0 : Fat Try.prog 126 0 0 := ⟨_, _, _, Try.underlying126, rfl, rfl, sz30, by decide⟩
theorem fa126_1 : Fat Try.prog 126 1 1 := ⟨_, _, _, Try.underlying126, rfl, rfl, sz3, by decide⟩
theorem fa126_2 : Fat Try.prog 126 2 2 := ⟨_, _, _, Try.underlying126, rfl, rfl, sz3, by decide⟩
theorem fa126_3 : Fat Try.prog 126 3 3 := ⟨_, _, _, Try.underlying126, rfl, rfl, sz3, by decide⟩
theorem fa126_4 : Fat Try.prog 126 4 4 := ⟨_, _, _, Try.underlying126, rfl, rfl, sz46, by decide⟩
theorem fa126_5 : Fat Try.prog 126 5 5 := ⟨_, _, _, Try.underlying126, rfl, rfl, sz3, by decide⟩
theorem fa126_6 : Fat Try.prog 126 6 6 := ⟨_, _, _, Try.underlying126, rfl, rfl, sz4, by decide⟩
theorem fa126_7 : Fat Try.prog 126 7 7 := ⟨_, _, _, Try.underlying126, rfl, rfl, sz4, by decide⟩
theorem pl126 : Pls Try.prog 126 [(0, 1), (1, 1), (2, 1), (3, 1), (4, 1), (5, 1), (6, 1), (7, 1)] := ⟨_, Try.underlying126, fun w => by simp [sz3.run, sz4.run, sz30.run, sz46.run]⟩
theorem fa129_0 : Fat Try.prog 129 0 0 := ⟨_, _, _, Try.underlying129, rfl, rfl, sz3, by decide⟩
theorem fa129_1 : Fat Try.prog 129 1 1 := ⟨_, _, _, Try.underlying129, rfl, rfl, sz30, by decide⟩
theorem fa129_2 : Fat Try.prog 129 2 2 := ⟨_, _, _, Try.underlying129, rfl, rfl, sz3, by decide⟩
theorem fa129_3 : Fat Try.prog 129 3 3 := ⟨_, _, _, Try.underlying129, rfl, rfl, sz3, by decide⟩
theorem fa129_4 : Fat Try.prog 129 4 4 := ⟨_, _, _, Try.underlying129, rfl, rfl, sz3, by decide⟩
theorem fa129_5 : Fat Try.prog 129 5 5 := ⟨_, _, _, Try.underlying129, rfl, rfl, sz49, by decide⟩
theorem fa129_6 : Fat Try.prog 129 6 6 := ⟨_, _, _, Try.underlying129, rfl, rfl, sz4, by decide⟩
theorem fa129_7 : Fat Try.prog 129 7 7 := ⟨_, _, _, Try.underlying129, rfl, rfl, sz4, by decide⟩
theorem pl129 : Pls Try.prog 129 [(0, 1), (1, 1), (2, 1), (3, 1), (4, 1), (5, 1), (6, 1), (7, 1)] := ⟨_, Try.underlying129, fun w => by simp [sz3.run, sz4.run, sz30.run, sz49.run]⟩
theorem fa130_0 : Fat Try.prog 130 0 0 := ⟨_, _, _, Try.underlying130, rfl, rfl, sz3, by decide⟩
theorem fa130_1 : Fat Try.prog 130 1 1 := ⟨_, _, _, Try.underlying130, rfl, rfl, sz30, by decide⟩
theorem fa130_2 : Fat Try.prog 130 2 2 := ⟨_, _, _, Try.underlying130, rfl, rfl, sz3, by decide⟩
theorem fa130_3 : Fat Try.prog 130 3 3 := ⟨_, _, _, Try.underlying130, rfl, rfl, sz3, by decide⟩
theorem fa130_4 : Fat Try.prog 130 4 4 := ⟨_, _, _, Try.underlying130, rfl, rfl, sz3, by decide⟩
theorem fa130_5 : Fat Try.prog 130 5 5 := ⟨_, _, _, Try.underlying130, rfl, rfl, sz49, by decide⟩
theorem fa130_6 : Fat Try.prog 130 6 6 := ⟨_, _, _, Try.underlying130, rfl, rfl, sz4, by decide⟩
theorem fa130_7 : Fat Try.prog 130 7 7 := ⟨_, _, _, Try.underlying130, rfl, rfl, sz4, by decide⟩
theorem pl130 : Pls Try.prog 130 [(0, 1), (1, 1), (2, 1), (3, 1), (4, 1), (5, 1), (6, 1), (7, 1)] := ⟨_, Try.underlying130, fun w => by simp [sz3.run, sz4.run, sz30.run, sz49.run]⟩
theorem fa134_0 : Fat Try.prog 134 0 0 := ⟨_, _, _, Try.underlying134, rfl, rfl, sz3, by decide⟩
theorem fa134_1 : Fat Try.prog 134 1 1 := ⟨_, _, _, Try.underlying134, rfl, rfl, sz3, by decide⟩
theorem pl134 : Pls Try.prog 134 [(0, 1), (1, 1)] := ⟨_, Try.underlying134, fun w => by simp [sz3.run]⟩
theorem fa135_0 : Fat Try.prog 135 0 0 := ⟨_, _, _, Try.underlying135, rfl, rfl, sz3, by decide⟩
theorem fa135_1 : Fat Try.prog 135 1 1 := ⟨_, _, _, Try.underlying135, rfl, rfl, sz3, by decide⟩
theorem pl135 : Pls Try.prog 135 [(0, 1), (1, 1)] := ⟨_, Try.underlying135, fun w => by simp [sz3.run]⟩
theorem fa139_0 : Fat Try.prog 139 0 0 := ⟨_, _, _, Try.underlying139, rfl, rfl, sz3, by decide⟩
theorem fa139_1 : Fat Try.prog 139 1 1 := ⟨_, _, _, Try.underlying139, rfl, rfl, sz3, by decide⟩
theorem fa139_2 : Fat Try.prog 139 2 2 := ⟨_, _, _, Try.underlying139, rfl, rfl, sz30, by decide⟩
theorem pl139 : Pls Try.prog 139 [(0, 1), (1, 1), (2, 1)] := ⟨_, Try.underlying139, fun w => by simp [sz3.run, sz30.run]⟩
theorem fa178_0 : Fat Try.prog 178 0 0 := ⟨_, _, _, Try.underlying178, rfl, rfl, sz31, by decide⟩
theorem fa178_1 : Fat Try.prog 178 1 1 := ⟨_, _, _, Try.underlying178, rfl, rfl, sz89, by decide⟩
theorem pl178 : Pls Try.prog 178 [(0, 1), (1, 32)] := ⟨_, Try.underlying178, fun w => by simp [sz31.run, sz89.run]⟩
theorem fa179_0 : Fat Try.prog 179 0 0 := ⟨_, _, _, Try.underlying179, rfl, rfl, sz31, by decide⟩
theorem fa179_1 : Fat Try.prog 179 1 1 := ⟨_, _, _, Try.underlying179, rfl, rfl, sz89, by decide⟩
theorem pl179 : Pls Try.prog 179 [(0, 1), (1, 32)] := ⟨_, Try.underlying179, fun w => by simp [sz31.run, sz89.run]⟩
theorem fa255_0 : Fat Try.prog 255 0 0 := ⟨_, _, _, Try.underlying255, rfl, rfl, sz17, by decide⟩
theorem fa255_1 : Fat Try.prog 255 1 1 := ⟨_, _, _, Try.underlying255, rfl, rfl, sz17, by decide⟩
theorem fa255_2 : Fat Try.prog 255 2 2 := ⟨_, _, _, Try.underlying255, rfl, rfl, sz17, by decide⟩
theorem fa255_3 : Fat Try.prog 255 3 3 := ⟨_, _, _, Try.underlying255, rfl, rfl, sz9, by decide⟩
theorem pl255 : Pls Try.prog 255 [(0, 1), (1, 1), (2, 1), (3, 1)] := ⟨_, Try.underlying255, fun w => by simp [sz9.run, sz17.run]⟩
theorem fa256_0 : Fat Try.prog 256 0 0 := ⟨_, _, _, Try.underlying256, rfl, rfl, sz17, by decide⟩
theorem fa256_1 : Fat Try.prog 256 1 1 := ⟨_, _, _, Try.underlying256, rfl, rfl, sz17, by decide⟩
theorem fa256_2 : Fat Try.prog 256 2 2 := ⟨_, _, _, Try.underlying256, rfl, rfl, sz17, by decide⟩
theorem fa256_3 : Fat Try.prog 256 3 3 := ⟨_, _, _, Try.underlying256, rfl, rfl, sz9, by decide⟩
theorem pl256 : Pls Try.prog 256 [(0, 1), (1, 1), (2, 1), (3, 1)] := ⟨_, Try.underlying256, fun w => by simp [sz9.run, sz17.run]⟩
theorem fa267_0 : Fat Try.prog 267 0 0 := ⟨_, _, _, Try.underlying267, rfl, rfl, sz12, by decide⟩
theorem fa267_1 : Fat Try.prog 267 1 1 := ⟨_, _, _, Try.underlying267, rfl, rfl, sz12, by decide⟩
theorem fa267_2 : Fat Try.prog 267 2 2 := ⟨_, _, _, Try.underlying267, rfl, rfl, sz194, by decide⟩
theorem fa267_3 : Fat Try.prog 267 3 3 := ⟨_, _, _, Try.underlying267, rfl, rfl, sz261, by decide⟩
theorem fa267_4 : Fat Try.prog 267 4 4 := ⟨_, _, _, Try.underlying267, rfl, rfl, sz5, by decide⟩
theorem fa267_5 : Fat Try.prog 267 5 5 := ⟨_, _, _, Try.underlying267, rfl, rfl, sz5, by decide⟩
theorem fa267_6 : Fat Try.prog 267 6 6 := ⟨_, _, _, Try.underlying267, rfl, rfl, sz262, by decide⟩
theorem fa267_7 : Fat Try.prog 267 7 7 := ⟨_, _, _, Try.underlying267, rfl, rfl, sz263, by decide⟩
theorem fa267_8 : Fat Try.prog 267 8 8 := ⟨_, _, _, Try.underlying267, rfl, rfl, sz264, by decide⟩
theorem fa267_9 : Fat Try.prog 267 9 9 := ⟨_, _, _, Try.underlying267, rfl, rfl, sz265, by decide⟩
theorem fa267_10 : Fat Try.prog 267 10 10 := ⟨_, _, _, Try.underlying267, rfl, rfl, sz266, by decide⟩
theorem pl267 : Pls Try.prog 267 [(0, 1), (1, 1), (2, 1), (3, 1), (4, 1), (5, 1), (6, 1), (7, 1), (8, 1), (9, 1), (10, 1)] := ⟨_, Try.underlying267, fun w => by simp [sz5.run, sz12.run, sz194.run, sz261.run, sz262.run, sz263.run, sz264.run, sz265.run, sz266.run]⟩
theorem fa268_0 : Fat Try.prog 268 0 0 := ⟨_, _, _, Try.underlying268, rfl, rfl, sz12, by decide⟩
theorem fa268_1 : Fat Try.prog 268 1 1 := ⟨_, _, _, Try.underlying268, rfl, rfl, sz12, by decide⟩
theorem fa268_2 : Fat Try.prog 268 2 2 := ⟨_, _, _, Try.underlying268, rfl, rfl, sz194, by decide⟩
theorem fa268_3 : Fat Try.prog 268 3 3 := ⟨_, _, _, Try.underlying268, rfl, rfl, sz261, by decide⟩
theorem fa268_4 : Fat Try.prog 268 4 4 := ⟨_, _, _, Try.underlying268, rfl, rfl, sz5, by decide⟩
theorem fa268_5 : Fat Try.prog 268 5 5 := ⟨_, _, _, Try.underlying268, rfl, rfl, sz5, by decide⟩
theorem fa268_6 : Fat Try.prog 268 6 6 := ⟨_, _, _, Try.underlying268, rfl, rfl, sz262, by decide⟩
theorem fa268_7 : Fat Try.prog 268 7 7 := ⟨_, _, _, Try.underlying268, rfl, rfl, sz263, by decide⟩
theorem fa268_8 : Fat Try.prog 268 8 8 := ⟨_, _, _, Try.underlying268, rfl, rfl, sz264, by decide⟩
theorem fa268_9 : Fat Try.prog 268 9 9 := ⟨_, _, _, Try.underlying268, rfl, rfl, sz265, by decide⟩
theorem fa268_10 : Fat Try.prog 268 10 10 := ⟨_, _, _, Try.underlying268, rfl, rfl, sz266, by decide⟩
theorem pl268 : Pls Try.prog 268 [(0, 1), (1, 1), (2, 1), (3, 1), (4, 1), (5, 1), (6, 1), (7, 1), (8, 1), (9, 1), (10, 1)] := ⟨_, Try.underlying268, fun w => by simp [sz5.run, sz12.run, sz194.run, sz261.run, sz262.run, sz263.run, sz264.run, sz265.run, sz266.run]⟩
theorem fa269_0 : Fat Try.prog 269 0 0 := ⟨_, _, _, Try.underlying269, rfl, rfl, sz9, by decide⟩
theorem pl269 : Pls Try.prog 269 [(0, 1)] := ⟨_, Try.underlying269, fun w => by simp [sz9.run]⟩
theorem fa270_0 : Fat Try.prog 270 0 0 := ⟨_, _, _, Try.underlying270, rfl, rfl, sz9, by decide⟩
theorem pl270 : Pls Try.prog 270 [(0, 1)] := ⟨_, Try.underlying270, fun w => by simp [sz9.run]⟩
end Go.Proofs.Ytfgakofjkldcjaa
