/- The places of the fields of the program's structs, each by the kernel. Written by program. -/
import Derived.Test.YtpmjdiccekkadaaTy
import Derived.Test.YtpmjdiccekkadaaSxi
namespace Go.Proofs.Ytpmjdiccekkadaa
open Go Go.Sx
theorem fa50_0 : Fat Try.prog 50 0 0 := ⟨_, _, _, Try.underlying50, rfl, rfl, sz3, by decide⟩
theorem fa50_1 : Fat Try.prog 50 1 1 := ⟨_, _, _, Try.underlying50, rfl, rfl, sz3, by decide⟩
theorem fa50_2 : Fat Try.prog 50 2 2 := ⟨_, _, _, Try.underlying50, rfl, rfl, sz3, by decide⟩
theorem fa50_3 : Fat Try.prog 50 3 3 := ⟨_, _, _, Try.underlying50, rfl, rfl, sz3, by decide⟩
theorem fa50_4 : Fat Try.prog 50 4 4 := ⟨_, _, _, Try.underlying50, rfl, rfl, sz49, by decide⟩
theorem fa50_5 : Fat Try.prog 50 5 5 := ⟨_, _, _, Try.underlying50, rfl, rfl, sz48, by decide⟩
theorem pl50 : Pls Try.prog 50 [(0, 1), (1, 1), (2, 1), (3, 1), (4, 1), (5, 1)] := ⟨_, Try.underlying50, fun w => by simp [sz3.run, sz48.run, sz49.run]⟩
theorem fa51_0 : Fat Try.prog 51 0 0 := ⟨_, _, _, Try.underlying51, rfl, rfl, sz3, by decide⟩
theorem fa51_1 : Fat Try.prog 51 1 1 := ⟨_, _, _, Try.underlying51, rfl, rfl, sz3, by decide⟩
theorem fa51_2 : Fat Try.prog 51 2 2 := ⟨_, _, _, Try.underlying51, rfl, rfl, sz3, by decide⟩
theorem fa51_3 : Fat Try.prog 51 3 3 := ⟨_, _, _, Try.underlying51, rfl, rfl, sz3, by decide⟩
theorem fa51_4 : Fat Try.prog 51 4 4 := ⟨_, _, _, Try.underlying51, rfl, rfl, sz49, by decide⟩
theorem fa51_5 : Fat Try.prog 51 5 5 := ⟨_, _, _, Try.underlying51, rfl, rfl, sz48, by decide⟩
theorem pl51 : Pls Try.prog 51 [(0, 1), (1, 1), (2, 1), (3, 1), (4, 1), (5, 1)] := ⟨_, Try.underlying51, fun w => by simp [sz3.run, sz48.run, sz49.run]⟩
theorem fa64_0 : Fat Try.prog 64 0 0 := ⟨_, _, _, Try.underlying64, rfl, rfl, sz3, by decide⟩
theorem fa64_1 : Fat Try.prog 64 1 1 := ⟨_, _, _, Try.underlying64, rfl, rfl, sz23, by decide⟩
theorem fa64_2 : Fat Try.prog 64 2 33 := ⟨_, _, _, Try.underlying64, rfl, rfl, sz3, by decide⟩
theorem pl64 : Pls Try.prog 64 [(0, 1), (1, 32), (33, 1)] := ⟨_, Try.underlying64, fun w => by simp [sz3.run, sz23.run]⟩
theorem fa65_0 : Fat Try.prog 65 0 0 := ⟨_, _, _, Try.underlying65, rfl, rfl, sz3, by decide⟩
theorem fa65_1 : Fat Try.prog 65 1 1 := ⟨_, _, _, Try.underlying65, rfl, rfl, sz23, by decide⟩
theorem fa65_2 : Fat Try.prog 65 2 33 := ⟨_, _, _, Try.underlying65, rfl, rfl, sz3, by decide⟩
theorem pl65 : Pls Try.prog 65 [(0, 1), (1, 32), (33, 1)] := ⟨_, Try.underlying65, fun w => by simp [sz3.run, sz23.run]⟩
theorem fa69_0 : Fat Try.prog 69 0 0 := ⟨_, _, _, Try.underlying69, rfl, rfl, sz41, by decide⟩
theorem fa69_1 : Fat Try.prog 69 1 1 := ⟨_, _, _, Try.underlying69, rfl, rfl, sz55, by decide⟩
theorem pl69 : Pls Try.prog 69 [(0, 1), (1, 1)] := ⟨_, Try.underlying69, fun w => by simp [sz41.run, sz55.run]⟩
theorem fa70_0 : Fat Try.prog 70 0 0 := ⟨_, _, _, Try.underlying70, rfl, rfl, sz41, by decide⟩
theorem fa70_1 : Fat Try.prog 70 1 1 := ⟨_, _, _, Try.underlying70, rfl, rfl, sz55, by decide⟩
theorem pl70 : Pls Try.prog 70 [(0, 1), (1, 1)] := ⟨_, Try.underlying70, fun w => by simp [sz41.run, sz55.run]⟩
theorem fa98_0 : Fat Try.prog 98 0 0 := ⟨_, _, _, Try.underlying98, rfl, rfl, sz49, by decide⟩
theorem fa98_1 : Fat Try.prog 98 1 1 := ⟨_, _, _, Try.underlying98, rfl, rfl, sz23, by decide⟩
theorem pl98 : Pls Try.prog 98 [(0, 1), (1, 32)] := ⟨_, Try.underlying98, fun w => by simp [sz23.run, sz49.run]⟩
theorem fa99_0 : Fat Try.prog 99 0 0 := ⟨_, _, _, Try.underlying99, rfl, rfl, sz49, by decide⟩
theorem fa99_1 : Fat Try.prog 99 1 1 := ⟨_, _, _, Try.underlying99, rfl, rfl, sz23, by decide⟩
theorem pl99 : Pls Try.prog 99 [(0, 1), (1, 32)] := ⟨_, Try.underlying99, fun w => by simp [sz23.run, sz49.run]⟩
theorem fa122_0 : Fat Try.prog 122 0 0 := ⟨_, _, _, Try.underlying122, rfl, rfl, sz121, by decide⟩
theorem pl122 : Pls Try.prog 122 [(0, 1)] := ⟨_, Try.underlying122, fun w => by simp [sz121.run]⟩
theorem fa123_0 : Fat Try.prog 123 0 0 := ⟨_, _, _, Try.underlying123, rfl, rfl, sz121, by decide⟩
theorem pl123 : Pls Try.prog 123 [(0, 1)] := ⟨_, Try.underlying123, fun w => by simp [sz121.run]⟩
theorem fa125_0 : Fat Try.prog 125 0 0 := ⟨_, _, _, Try.underlying125, rfl, rfl, sz124, by decide⟩
theorem pl125 : Pls Try.prog 125 [(0, 1)] := ⟨_, Try.underlying125, fun w => by simp [sz124.run]⟩
theorem fa126_0 : Fat Try.prog 126 0 0 := ⟨_, _, _, Try.underlying126, rfl, rfl, sz124, by decide⟩
theorem pl126 : Pls Try.prog 126 [(0, 1)] := ⟨_, Try.underlying126, fun w => by simp [sz124.run]⟩
theorem fa127_0 : Fat Try.prog 127 0 0 := ⟨_, _, _, Try.underlying127, rfl, rfl, sz23, by decide⟩
theorem fa127_1 : Fat Try.prog 127 1 32 := ⟨_, _, _, Try.underlying127, rfl, rfl, sz3, by decide⟩
theorem pl127 : Pls Try.prog 127 [(0, 32), (32, 1)] := ⟨_, Try.underlying127, fun w => by simp [sz3.run, sz23.run]⟩
theorem fa128_0 : Fat Try.prog 128 0 0 := ⟨_, _, _, Try.underlying128, rfl, rfl, sz23, by decide⟩
theorem fa128_1 : Fat Try.prog 128 1 32 := ⟨_, _, _, Try.underlying128, rfl, rfl, sz3, by decide⟩
theorem pl128 : Pls Try.prog 128 [(0, 32), (32, 1)] := ⟨_, Try.underlying128, fun w => by simp [sz3.run, sz23.run]⟩
theorem fa174_0 : Fat Try.prog 174 0 0 := ⟨_, _, _, Try.underlying174, rfl, rfl, sz17, by decide⟩
theorem fa174_1 : Fat Try.prog 174 1 1 := ⟨_, _, _, Try.underlying174, rfl, rfl, sz17, by decide⟩
theorem fa174_2 : Fat Try.prog 174 2 2 := ⟨_, _, _, Try.underlying174, rfl, rfl, sz17, by decide⟩
theorem fa174_3 : Fat Try.prog 174 3 3 := ⟨_, _, _, Try.underlying174, rfl, rfl, sz9, by decide⟩
theorem pl174 : Pls Try.prog 174 [(0, 1), (1, 1), (2, 1), (3, 1)] := ⟨_, Try.underlying174, fun w => by simp [sz9.run, sz17.run]⟩
theorem fa175_0 : Fat Try.prog 175 0 0 := ⟨_, _, _, Try.underlying175, rfl, rfl, sz17, by decide⟩
theorem fa175_1 : Fat Try.prog 175 1 1 := ⟨_, _, _, Try.underlying175, rfl, rfl, sz17, by decide⟩
theorem fa175_2 : Fat Try.prog 175 2 2 := ⟨_, _, _, Try.underlying175, rfl, rfl, sz17, by decide⟩
theorem fa175_3 : Fat Try.prog 175 3 3 := ⟨_, _, _, Try.underlying175, rfl, rfl, sz9, by decide⟩
theorem pl175 : Pls Try.prog 175 [(0, 1), (1, 1), (2, 1), (3, 1)] := ⟨_, Try.underlying175, fun w => by simp [sz9.run, sz17.run]⟩
theorem fa186_0 : Fat Try.prog 186 0 0 := ⟨_, _, _, Try.underlying186, rfl, rfl, sz12, by decide⟩
theorem fa186_1 : Fat Try.prog 186 1 1 := ⟨_, _, _, Try.underlying186, rfl, rfl, sz12, by decide⟩
theorem fa186_2 : Fat Try.prog 186 2 2 := ⟨_, _, _, Try.underlying186, rfl, rfl, sz150, by decide⟩
theorem fa186_3 : Fat Try.prog 186 3 3 := ⟨_, _, _, Try.underlying186, rfl, rfl, sz180, by decide⟩
theorem fa186_4 : Fat Try.prog 186 4 4 := ⟨_, _, _, Try.underlying186, rfl, rfl, sz5, by decide⟩
theorem fa186_5 : Fat Try.prog 186 5 5 := ⟨_, _, _, Try.underlying186, rfl, rfl, sz5, by decide⟩
theorem fa186_6 : Fat Try.prog 186 6 6 := ⟨_, _, _, Try.underlying186, rfl, rfl, sz181, by decide⟩
theorem fa186_7 : Fat Try.prog 186 7 7 := ⟨_, _, _, Try.underlying186, rfl, rfl, sz182, by decide⟩
theorem fa186_8 : Fat Try.prog 186 8 8 := ⟨_, _, _, Try.underlying186, rfl, rfl, sz183, by decide⟩
theorem fa186_9 : Fat Try.prog 186 9 9 := ⟨_, _, _, Try.underlying186, rfl, rfl, sz184, by decide⟩
theorem fa186_10 : Fat Try.prog 186 10 10 := ⟨_, _, _, Try.underlying186, rfl, rfl, sz185, by decide⟩
theorem pl186 : Pls Try.prog 186 [(0, 1), (1, 1), (2, 1), (3, 1), (4, 1), (5, 1), (6, 1), (7, 1), (8, 1), (9, 1), (10, 1)] := ⟨_, Try.underlying186, fun w => by simp [sz5.run, sz12.run, sz150.run, sz180.run, sz181.run, sz182.run, sz183.run, sz184.run, sz185.run]⟩
theorem fa187_0 : Fat Try.prog 187 0 0 := ⟨_, _, _, Try.underlying187, rfl, rfl, sz12, by decide⟩
theorem fa187_1 : Fat Try.prog 187 1 1 := ⟨_, _, _, Try.underlying187, rfl, rfl, sz12, by decide⟩
theorem fa187_2 : Fat Try.prog 187 2 2 := ⟨_, _, _, Try.underlying187, rfl, rfl, sz150, by decide⟩
theorem fa187_3 : Fat Try.prog 187 3 3 := ⟨_, _, _, Try.underlying187, rfl, rfl, sz180, by decide⟩
theorem fa187_4 : Fat Try.prog 187 4 4 := ⟨_, _, _, Try.underlying187, rfl, rfl, sz5, by decide⟩
theorem fa187_5 : Fat Try.prog 187 5 5 := ⟨_, _, _, Try.underlying187, rfl, rfl, sz5, by decide⟩
theorem fa187_6 : Fat Try.prog 187 6 6 := ⟨_, _, _, Try.underlying187, rfl, rfl, sz181, by decide⟩
theorem fa187_7 : Fat Try.prog 187 7 7 := ⟨_, _, _, Try.underlying187, rfl, rfl, sz182, by decide⟩
theorem fa187_8 : Fat Try.prog 187 8 8 := ⟨_, _, _, Try.underlying187, rfl, rfl, sz183, by decide⟩
theorem fa187_9 : Fat Try.prog 187 9 9 := ⟨_, _, _, Try.underlying187, rfl, rfl, sz184, by decide⟩
theorem fa187_10 : Fat Try.prog 187 10 10 := ⟨_, _, _, Try.underlying187, rfl, rfl, sz185, by decide⟩
theorem pl187 : Pls Try.prog 187 [(0, 1), (1, 1), (2, 1), (3, 1), (4, 1), (5, 1), (6, 1), (7, 1), (8, 1), (9, 1), (10, 1)] := ⟨_, Try.underlying187, fun w => by simp [sz5.run, sz12.run, sz150.run, sz180.run, sz181.run, sz182.run, sz183.run, sz184.run, sz185.run]⟩
theorem fa188_0 : Fat Try.prog 188 0 0 := ⟨_, _, _, Try.underlying188, rfl, rfl, sz9, by decide⟩
theorem pl188 : Pls Try.prog 188 [(0, 1)] := ⟨_, Try.underlying188, fun w => by simp [sz9.run]⟩
theorem fa189_0 : Fat Try.prog 189 0 0 := ⟨_, _, _, Try.underlying189, rfl, rfl, sz9, by decide⟩
theorem pl189 : Pls Try.prog 189 [(0, 1)] := ⟨_, Try.underlying189, fun w => by simp [sz9.run]⟩
end Go.Proofs.Ytpmjdiccekkadaa
