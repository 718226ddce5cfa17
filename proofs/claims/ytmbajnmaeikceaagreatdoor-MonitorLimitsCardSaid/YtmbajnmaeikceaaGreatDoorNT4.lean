/-
 The tie of the listed variables to the program's text: what the run leaves, written out. Conditions: none.
-/
import Derived.Test.YtmbajnmaeikceaaGreatDoorNT0
import Derived.LaidByTextLater
import Derived.SevenTiedAt
namespace Go.Proofs.YtmbajnmaeikceaaGreatDoor
open Go
noncomputable def Qs7 (os:Os) (i:Nat):Obj:=((World.unlaid Tryz.prog os).heap[i]?).getD (.view ⟨0,0,none⟩ 0)
noncomputable def Qpg (os:Os):World:={ heap:=#[.cells #[.int .i64 0] 3 (0,0),
 .cells #[.int .u64 1, .int .u64 10, .int .u64 100, .int .u64 1000, .int .u64 10000, .int .u64 100000, .int .u64 1000000, .int .u64 10000000, .int .u64 100000000, .int .u64 1000000000, .int .u64 10000000000, .int .u64 100000000000, .int .u64 1000000000000, .int .u64 10000000000000, .int .u64 100000000000000, .int .u64 1000000000000000, .int .u64 10000000000000000, .int .u64 100000000000000000, .int .u64 1000000000000000000, .int .u64 10000000000000000000] 430 (0,0),
 .cells #[.iface 665 (.pointer (some ⟨26,0,none⟩))] 113 (0,0),
 .cells #[.iface 665 (.pointer (some ⟨22,0,none⟩))] 113 (0,0),
 .cells #[.iface 665 (.pointer (some ⟨21,0,none⟩))] 113 (0,0),
 .cells #[.iface 674 (.agg #[.pointer (some ⟨15,113,none⟩)])] 570 (0,0),
 .cells #[.int .u8 0, .int .u8 1, .int .u8 28, .int .u8 2, .int .u8 29, .int .u8 14, .int .u8 24, .int .u8 3, .int .u8 30, .int .u8 22, .int .u8 20, .int .u8 15, .int .u8 25, .int .u8 17, .int .u8 4, .int .u8 8, .int .u8 31, .int .u8 27, .int .u8 13, .int .u8 23, .int .u8 21, .int .u8 19, .int .u8 16, .int .u8 7, .int .u8 26, .int .u8 12, .int .u8 18, .int .u8 6, .int .u8 11, .int .u8 5, .int .u8 10, .int .u8 9] 658 (0,0),
 .cells #[.int .u8 0, .int .u8 1, .int .u8 56, .int .u8 2, .int .u8 57, .int .u8 49, .int .u8 28, .int .u8 3, .int .u8 61, .int .u8 58, .int .u8 42, .int .u8 50, .int .u8 38, .int .u8 29, .int .u8 17, .int .u8 4, .int .u8 62, .int .u8 47, .int .u8 59, .int .u8 36, .int .u8 45, .int .u8 43, .int .u8 51, .int .u8 22, .int .u8 53, .int .u8 39, .int .u8 33, .int .u8 30, .int .u8 24, .int .u8 18, .int .u8 12, .int .u8 5, .int .u8 63, .int .u8 55, .int .u8 48, .int .u8 27, .int .u8 60, .int .u8 41, .int .u8 37, .int .u8 16, .int .u8 46, .int .u8 35, .int .u8 44, .int .u8 21, .int .u8 52, .int .u8 32, .int .u8 23, .int .u8 11, .int .u8 54, .int .u8 26, .int .u8 40, .int .u8 15, .int .u8 34, .int .u8 20, .int .u8 31, .int .u8 10, .int .u8 25, .int .u8 14, .int .u8 19, .int .u8 9, .int .u8 13, .int .u8 8, .int .u8 7, .int .u8 6] 659 (0,0),
 Qs7 os 8,
 .cells #[.int .u8 128, .int .u8 191, .int .u8 160, .int .u8 191, .int .u8 128, .int .u8 159, .int .u8 144, .int .u8 191, .int .u8 128, .int .u8 143, .int .u8 0, .int .u8 0, .int .u8 0, .int .u8 0, .int .u8 0, .int .u8 0, .int .u8 0, .int .u8 0, .int .u8 0, .int .u8 0, .int .u8 0, .int .u8 0, .int .u8 0, .int .u8 0, .int .u8 0, .int .u8 0, .int .u8 0, .int .u8 0, .int .u8 0, .int .u8 0, .int .u8 0, .int .u8 0] 663 (0,0),
 .cells #[.iface 665 (.pointer (some ⟨24,0,none⟩))] 113 (0,0),
 .cells #[.iface 665 (.pointer (some ⟨25,0,none⟩))] 113 (0,0),
 .cells #[.iface 665 (.pointer (some ⟨20,0,none⟩))] 113 (0,0),
 .cells #[.int .i64 0, .int .i64 1, .int .i64 1, .int .i64 0, .int .i64 2, .int .i64 2, .int .i64 1, .int .i64 3, .int .i64 3, .int .i64 1, .int .i64 2, .int .i64 2, .int .i64 1, .int .i64 5, .int .i64 0, .int .i64 2, .int .i64 4, .int .i64 3, .int .i64 2, .int .i64 5, .int .i64 4, .int .i64 2, .int .i64 6, .int .i64 6, .int .i64 3, .int .i64 5, .int .i64 4, .int .i64 3, .int .i64 6, .int .i64 6, .int .i64 4, .int .i64 7, .int .i64 5, .int .i64 4, .int .i64 6, .int .i64 7, .int .i64 5, .int .i64 6, .int .i64 9, .int .i64 6, .int .i64 5, .int .i64 8, .int .i64 7, .int .i64 7, .int .i64 9, .int .i64 8, .int .i64 7, .int .i64 0] 841 (0,0),
 .cells #[.iface 665 (.pointer (some ⟨23,0,none⟩))] 113 (0,0),
 Qs7 os 15,
 Qs7 os 16,
 Qs7 os 17,
 .cells #[(.bool false)] 0 (0,0),
 Qs7 os 19,
 .cells #[.string ⟨#[115,101,103,109,101,110,116,32,115,105,122,101,32,111,117,116,32,111,102,32,114,97,110,103,101]⟩] 667 (0,0),
 .cells #[.string ⟨#[118,97,108,117,101,32,111,117,116,32,111,102,32,114,97,110,103,101]⟩] 667 (0,0),
 .cells #[.string ⟨#[105,110,118,97,108,105,100,32,115,121,110,116,97,120]⟩] 667 (0,0),
 .cells #[.string ⟨#[110,111,116,32,97,32,118,97,108,105,100,32,101,110,116,114,121]⟩] 667 (0,0),
 .cells #[.string ⟨#[116,104,101,32,102,105,120,101,100,32,102,105,101,108,100,115,32,97,114,101,32,110,111,116,32,119,104,111,108,101]⟩] 667 (0,0),
 .cells #[.string ⟨#[116,104,101,32,107,105,110,100,32,105,115,32,117,110,107,110,111,119,110]⟩] 667 (0,0),
 .cells #[.string ⟨#[98,114,111,107,101,110,32,102,105,101,108,100]⟩] 667 (0,0)],tape:=λ_ _=>0,drawn:=0,os:=default,output:=#[]}
theorem Qq4:∀os tape,(varsWorld Tryz.prog 400 (varsId Tryz.prog) os tape).memory=Qpg os:=λ_ _=>by kernel_rfl
end Go.Proofs.YtmbajnmaeikceaaGreatDoor
