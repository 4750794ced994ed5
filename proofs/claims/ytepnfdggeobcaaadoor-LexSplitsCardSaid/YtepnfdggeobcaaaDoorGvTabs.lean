/- The tables that laws list: the machine holds each in a block of its own. Written by gvtabs.py off the rows. -/
import Derived.Test.YtepnfdggeobcaaaDoorGvGlob
import GoSem.PinnedTables
namespace Go.Gv
set_option maxRecDepth 20000
def tab0 : List DV := [.str [98, 101, 103, 105, 110], .str [], .int .i64 1, .str [99, 111, 109, 109, 105, 116], .str [], .int .i64 2, .str [97, 98, 111, 114, 116], .str [], .int .i64 3, .str [110, 101, 119], .str [110], .int .i64 4, .str [100, 114, 111, 112], .str [110], .int .i64 5, .str [112, 117, 116], .str [110, 107, 118], .int .i64 6, .str [109, 105, 110], .str [110], .int .i64 7, .str [112, 111, 112], .str [110], .int .i64 8, .str [108, 111, 119, 101, 114], .str [110, 104, 107], .int .i64 9, .str [99, 117, 116], .str [110, 104], .int .i64 10, .str [109, 101, 108, 100], .str [110, 111], .int .i64 11, .str [103, 101, 116], .str [104], .int .i64 12, .str [108, 101, 110], .str [110], .int .i64 13, .str [108, 105, 115, 116], .str [110], .int .i64 14, .str [110, 97, 109, 101, 115], .str [], .int .i64 15, .str [97, 114, 109], .str [118], .int .i64 16, .str [112, 108, 97, 110], .str [42], .int .i64 17, .str [99, 114, 97, 115, 104], .str [42], .int .i64 18, .str [99, 104, 101, 99, 107], .str [], .int .i64 19, .str [101, 112, 111, 99, 104], .str [], .int .i64 20]
def tab1 : List DV := [.int .u64 1, .int .u64 10, .int .u64 100, .int .u64 1000, .int .u64 10000, .int .u64 100000, .int .u64 1000000, .int .u64 10000000, .int .u64 100000000, .int .u64 1000000000, .int .u64 10000000000, .int .u64 100000000000, .int .u64 1000000000000, .int .u64 10000000000000, .int .u64 100000000000000, .int .u64 1000000000000000, .int .u64 10000000000000000, .int .u64 100000000000000000, .int .u64 1000000000000000000, .int .u64 10000000000000000000]
def tab2 : List DV := [.int .u8 0, .int .u8 1, .int .u8 56, .int .u8 2, .int .u8 57, .int .u8 49, .int .u8 28, .int .u8 3, .int .u8 61, .int .u8 58, .int .u8 42, .int .u8 50, .int .u8 38, .int .u8 29, .int .u8 17, .int .u8 4, .int .u8 62, .int .u8 47, .int .u8 59, .int .u8 36, .int .u8 45, .int .u8 43, .int .u8 51, .int .u8 22, .int .u8 53, .int .u8 39, .int .u8 33, .int .u8 30, .int .u8 24, .int .u8 18, .int .u8 12, .int .u8 5, .int .u8 63, .int .u8 55, .int .u8 48, .int .u8 27, .int .u8 60, .int .u8 41, .int .u8 37, .int .u8 16, .int .u8 46, .int .u8 35, .int .u8 44, .int .u8 21, .int .u8 52, .int .u8 32, .int .u8 23, .int .u8 11, .int .u8 54, .int .u8 26, .int .u8 40, .int .u8 15, .int .u8 34, .int .u8 20, .int .u8 31, .int .u8 10, .int .u8 25, .int .u8 14, .int .u8 19, .int .u8 9, .int .u8 13, .int .u8 8, .int .u8 7, .int .u8 6]
def tab3 : List DV := [.int .u8 0, .int .u8 1, .int .u8 28, .int .u8 2, .int .u8 29, .int .u8 14, .int .u8 24, .int .u8 3, .int .u8 30, .int .u8 22, .int .u8 20, .int .u8 15, .int .u8 25, .int .u8 17, .int .u8 4, .int .u8 8, .int .u8 31, .int .u8 27, .int .u8 13, .int .u8 23, .int .u8 21, .int .u8 19, .int .u8 16, .int .u8 7, .int .u8 26, .int .u8 12, .int .u8 18, .int .u8 6, .int .u8 11, .int .u8 5, .int .u8 10, .int .u8 9]
def tab4 : List DV := Go.Pinned.utf8FirstZ.map fun n : Nat => DV.int .u8 (Int.ofNat n)
def tab5 : List DV := [.int .u8 128, .int .u8 191, .int .u8 160, .int .u8 191, .int .u8 128, .int .u8 159, .int .u8 144, .int .u8 191, .int .u8 128, .int .u8 143, .int .u8 0, .int .u8 0, .int .u8 0, .int .u8 0, .int .u8 0, .int .u8 0, .int .u8 0, .int .u8 0, .int .u8 0, .int .u8 0, .int .u8 0, .int .u8 0, .int .u8 0, .int .u8 0, .int .u8 0, .int .u8 0, .int .u8 0, .int .u8 0, .int .u8 0, .int .u8 0, .int .u8 0, .int .u8 0]
def tabs : St := [some ⟨true, tab0⟩, some ⟨true, tab1⟩, some ⟨true, tab2⟩, some ⟨true, tab3⟩, some ⟨true, tab4⟩, some ⟨true, tab5⟩]
theorem tabs_frz : ∀ (i : Nat) (b : Option Blk), tabs[i]? = some b → ∃ cs, b = some ⟨true, cs⟩ := by
  intro i b h
  match i, h with
  | 0, h => cases h; exact ⟨_, rfl⟩
  | 1, h => cases h; exact ⟨_, rfl⟩
  | 2, h => cases h; exact ⟨_, rfl⟩
  | 3, h => cases h; exact ⟨_, rfl⟩
  | 4, h => cases h; exact ⟨_, rfl⟩
  | 5, h => cases h; exact ⟨_, rfl⟩
  | n + 6, h => simp [tabs] at h
end Go.Gv
