/- The closed example: a call reckoned by itself. -/
import Derived.Test.YtmgddgcniacnbaaGreatDoorSm2
namespace Go.Proofs.Tryz
open Go Go.Proofs Go.Xm Go.Ab Go.RowKit Go.Xm.Mm
set_option maxRecDepth 1000000
def b1 : Option XB := some ⟨64, 2, [B #[116], .ref 10 0 3]⟩
def b2 : Option XB := some ⟨58, 3, [I 1, I 2, B #[], I 3, I 0, B #[120]]⟩
def b3 : Option XB := some ⟨26, 3, [.ref 2 0 1, S, S]⟩
def b4 : Option XB := some ⟨3, 1, [I 0]⟩
def b5 : Option XB := some ⟨58, 3, [I 1, I 3, B #[], I 3, I 0, B #[120]]⟩
def b6 : Option XB := some ⟨58, 3, [I 1, I 1, B #[], I 0, I 0, B #[]]⟩
def b7 : Option XB := some ⟨58, 3, [I 1, I 3, B #[]]⟩
def b8 : Option XB := some ⟨61, 1, [.ref 5 0 2, .ref 7 0 2, .ref 9 0 2]⟩
def b9 : Option XB := some ⟨58, 3, [I 1, I 2, B #[]]⟩
def b10 : Option XB := some ⟨9, 1, [B #[124,124], B #[60,61], B #[40], B #[41], B #[44], B #[124], B #[43], B #[45], B #[42], B #[61], B #[60], B #[36]]⟩
def b11 : Option XB := some ⟨158, 4, [I 1, B #[98], I 0, I 34]⟩
def b12 : Option XB := some ⟨158, 4, [I 1, B #[99,111,117,110,116], I 0, I 51]⟩
def b13 : Option XB := some ⟨158, 4, [I 5, B #[41], I 0, I 70]⟩
def b14 : Option XB := some ⟨158, 4, [I 5, B #[44], I 0, I 0]⟩
def b15 : Option XB := some ⟨158, 4, [I 1, B #[98], I 0, I 39]⟩
def b16 : Option XB := some ⟨158, 4, [I 1, B #[115,117,109], I 0, I 65]⟩
def b17 : Option XB := some ⟨158, 4, [I 2, B #[97,115], I 0, I 0]⟩
def b18 : Option XB := some ⟨158, 4, [I 1, B #[97], I 0, I 69]⟩
def b19 : Option XB := some ⟨9, 1, [B #[97,103,103,114,101,103,97,116,101], B #[97,110,100], B #[97,115], B #[98,121], B #[100,101,115,99], B #[101,108,115,101], B #[101,120,99,101,112,116], B #[102,97,108,115,101], B #[103,114,111,117,112], B #[105,102], B #[105,115], B #[106,111,105,110], B #[108,101,102,116], B #[108,101,110,103,116,104], B #[108,105,109,105,116], B #[110,111,116], B #[110,117,108,108], B #[111,102,102,115,101,116], B #[111,110], B #[111,114], B #[112,114,111,106,101,99,116], B #[115,99,97,110], B #[115,111,114,116], B #[116,104,101,110], B #[116,114,117,101], B #[117,110,105,111,110], B #[119,104,101,114,101]]⟩
def b20 : Option XB := some ⟨158, 4, [I 1, B #[97], I 0, I 0]⟩
def b21 : Option XB := some ⟨158, 4, [I 2, B #[97,115], I 0, I 59]⟩
def b22 : Option XB := some ⟨158, 4, [I 1, B #[109], I 0, I 75]⟩
def b23 : Option XB := some ⟨158, 4, [I 5, B #[40], I 0, I 56]⟩
def b24 : Option XB := some ⟨158, 4, [I 5, B #[41], I 0, I 57]⟩
def b25 : Option XB := some ⟨158, 4, [I 2, B #[97,115], I 0, I 72]⟩
def b26 : Option XB := some ⟨158, 4, [I 5, B #[40], I 0, I 68]⟩
def b27 : Option XB := some ⟨158, 4, [I 5, B #[40], I 0, I 0]⟩
def b28 : Option XB := some ⟨158, 4, [I 5, B #[44], I 0, I 63]⟩
def b29 : Option XB := some ⟨158, 4, [I 2, B #[98,121], I 0, I 31]⟩
def b30 : Option XB := some ⟨158, 4, [I 5, B #[41], I 0, I 0]⟩
def b31 : Option XB := some ⟨158, 4, [I 1, B #[110], I 0, I 62]⟩
def b32 : Option XB := some ⟨158, 4, [I 2, B #[97,103,103,114,101,103,97,116,101], I 0, I 41]⟩
def b33 : Option XB := some ⟨158, 4, [I 5, B #[124], I 0, I 23]⟩
def b34 : Option XB := some ⟨158, 4, [I 3, B #[], I 3, I 0]⟩
def b35 : Option XB := some ⟨53, 3, [B #[97], I 1, F, B #[98], I 3, T]⟩
def b36 : Option XB := some ⟨58, 3, [I 1, I 1, B #[]]⟩
def b37 : Option XB := some ⟨34, 9, [I 0, B #[], S, S, S, S, I 0, I 0, S]⟩
def b38 : Option XB := some ⟨56, 3, [B #[116], .ref 0 0 2, .ref 1 0 1]⟩
def b39 : Option XB := some ⟨158, 4, [I 5, B #[60], I 0, I 0]⟩
def b40 : Option XB := some ⟨158, 4, [I 1, B #[116], I 0, I 5]⟩
def b41 : Option XB := some ⟨158, 4, [I 1, B #[99,111,117,110,116], I 0, I 0]⟩
def b42 : Option XB := some ⟨158, 4, [I 3, B #[], I 3, I 20]⟩
def b43 : Option XB := some ⟨158, 4, [I 1, B #[98], I 0, I 0]⟩
def b44 : Option XB := some ⟨158, 4, [I 1, B #[116], I 0, I 0]⟩
def b45 : Option XB := some ⟨158, 4, [I 5, B #[124], I 0, I 7]⟩
def b46 : Option XB := some ⟨158, 4, [I 2, B #[103,114,111,117,112], I 0, I 0]⟩
def b47 : Option XB := some ⟨158, 4, [I 5, B #[40], I 0, I 15]⟩
def b48 : Option XB := some ⟨158, 4, [I 5, B #[41], I 0, I 21]⟩
def b49 : Option XB := some ⟨158, 4, [I 2, B #[103,114,111,117,112], I 0, I 25]⟩
def b50 : Option XB := some ⟨158, 4, [I 5, B #[60], I 0, I 18]⟩
def b51 : Option XB := some ⟨158, 4, [I 5, B #[124], I 0, I 0]⟩
def b52 : Option XB := some ⟨158, 4, [I 2, B #[97,115], I 0, I 36]⟩
def b53 : Option XB := some ⟨158, 4, [I 2, B #[97,103,103,114,101,103,97,116,101], I 0, I 0]⟩
def b54 : Option XB := some ⟨158, 4, [I 2, B #[115,99,97,110], I 0, I 0]⟩
def b55 : Option XB := some ⟨158, 4, [I 2, B #[119,104,101,114,101], I 0, I 9]⟩
def b56 : Option XB := some ⟨158, 4, [I 1, B #[110], I 0, I 0]⟩
def b57 : Option XB := some ⟨158, 4, [I 2, B #[115,99,97,110], I 0, I 0, I 1, B #[116], I 0, I 5, I 5, B #[124], I 0, I 7, I 2, B #[119,104,101,114,101], I 0, I 9, I 5, B #[40], I 0, I 15, I 1, B #[97], I 0, I 16, I 5, B #[60], I 0, I 18, I 3, B #[], I 3, I 20, I 5, B #[41], I 0, I 21, I 5, B #[124], I 0, I 23, I 2, B #[103,114,111,117,112], I 0, I 25, I 2, B #[98,121], I 0, I 31, I 1, B #[98], I 0, I 34, I 2, B #[97,115], I 0, I 36, I 1, B #[98], I 0, I 39, I 2, B #[97,103,103,114,101,103,97,116,101], I 0, I 41, I 1, B #[99,111,117,110,116], I 0, I 51, I 5, B #[40], I 0, I 56, I 5, B #[41], I 0, I 57, I 2, B #[97,115], I 0, I 59, I 1, B #[110], I 0, I 62, I 5, B #[44], I 0, I 63, I 1, B #[115,117,109], I 0, I 65, I 5, B #[40], I 0, I 68, I 1, B #[97], I 0, I 69, I 5, B #[41], I 0, I 70, I 2, B #[97,115], I 0, I 72, I 1, B #[109], I 0, I 75]⟩
def b58 : Option XB := some ⟨158, 4, [I 2, B #[98,121], I 0, I 0]⟩
def b59 : Option XB := some ⟨158, 4, [I 1, B #[97], I 0, I 16]⟩
def b60 : Option XB := some ⟨158, 4, [I 1, B #[109], I 0, I 0]⟩
def b61 : Option XB := some ⟨158, 4, [I 1, B #[115,117,109], I 0, I 0]⟩
def b62 : Option XB := some ⟨158, 4, [I 2, B #[119,104,101,114,101], I 0, I 0]⟩
def x0 : Tr XB := (D N b1 N)
def x1 : Tr XB := (D (D (D N b2 N) b3 x0) b4 (D (D N b5 N) b6 N))
def x2 : Tr XB := (D N b7 N)
def x3 : Tr XB := (D (D N b8 N) b9 N)
def x4 : Tr XB := (D N b10 N)
def x5 : Tr XB := (D N b11 N)
def x6 : Tr XB := (D N b12 N)
def x7 : Tr XB := (D N b13 N)
def x8 : Tr XB := (D N b14 N)
def x9 : Tr XB := (D N b15 N)
def x10 : Tr XB := (D N b16 N)
def x11 : Tr XB := (D N b17 N)
def x12 : Tr XB := (D N b18 N)
def x13 : Tr XB := (D N b19 N)
def x14 : Tr XB := (D x13 none N)
def x15 : Tr XB := (D N b20 N)
def x16 : Tr XB := (D N b21 N)
def x17 : Tr XB := (D N b22 N)
def x18 : Tr XB := (D N b23 N)
def x19 : Tr XB := (D N b24 N)
def x20 : Tr XB := (D N b25 N)
def x21 : Tr XB := (D N b26 N)
def x22 : Tr XB := (D N b27 N)
def x23 : Tr XB := (D N b28 N)
def x24 : Tr XB := (D N b29 N)
def x25 : Tr XB := (D N b30 N)
def x26 : Tr XB := (D N b31 N)
def x27 : Tr XB := (D x26 none N)
def x28 : Tr XB := (D N b32 N)
def x29 : Tr XB := (D N b33 N)
def x30 : Tr XB := (D N none x21)
def x31 : Tr XB := (D (D N none N) b34 x10)
def x32 : Tr XB := (D N none x12)
def m119 : Memo := ⟨56, 0, [(B #[115,99,97,110,32,116,32,124,32,119,104,101,114,101,32,40,97,32,60,32,51,41,32,124,32,103,114,111,117,112,32,98,121,32,98,32,97,115,32,98,32,97,103,103,114,101,103,97,116,101,32,99,111,117,110,116,40,41,32,97,115,32,110,44,32,115,117,109,40,97,41,32,97,115,32,109])],
  (D x1 b35 (D (D x2 b36 (D N b37 N)) b38 x3)),
  13, (.tup [(.ref 237 0 28), (I (0)), (I (0))]),
  (D (D (D (D (D (D (D N b39 N) b40 (D x4 none N)) none (D (D (D N b41 N) b10 N) none x5)) b2 (D (D (D N b42 x4) none (D N b43 N)) b44 (D (D x6 none x7) none (D x8 b19 N)))) b3 (D (D (D (D x9 none x10) b45 (D x11 b19 (D N none N))) b19 (D (D N b46 x12) b47 x14)) b1 (D (D (D x13 b48 x15) none (D x16 none x17)) none (D (D x18 b49 N) b19 (D (D N none N) b43 N))))) b4 (D (D (D (D (D x13 b50 N) b51 (D x19 none x20)) none (D (D N b33 x13) b10 x11)) b5 (D (D (D N b30 x21) none x14) none (D (D x22 b19 (D N none N)) none (D x23 b52 N)))) b6 (D (D (D (D (D N b53 N) b34 (D N none N)) none x24) b54 (D (D x13 none x25) b20 x27)) b54 (D (D (D x28 none N) b55 (D (D N b56 N) b19 (D N b57 N))) b19 (D (D (D N none N) b58 N) b59 N))))) b35 (D (D (D (D (D x4 none (D x19 none x13)) none (D x29 b27 (D N none N))) b7 (D (D x30 none N) none (D (D (D N none N) none x7) none (D x4 b52 N)))) b36 (D (D (D x31 b45 (D N b29 (D N b60 N))) b54 (D (D N none (D N none N)) none x27)) b37 (D (D (D x28 b48 N) b19 (D (D N none N) none x17)) none (D (D x18 none N) b59 (D (D N b61 N) none N))))) b38 (D (D (D (D (D x9 b50 x13) b10 (D (D N none N) none x20)) none (D x32 b47 N)) b8 (D (D (D N b10 (D N none N)) none (D x16 none x13)) none (D (D x4 b49 x11) none (D x23 none N)))) b9 (D (D (D (D N b42 x22) b62 (D N none N)) none (D (D x6 none x4) none (D (D N none N) none N))) none (D (D (D (D N none N) b51 N) b55 x5) b40 (D (D x25 none N) none N)))))),
  238⟩
theorem m119_eval : memoB (fnX hk ft pg 400 40) m119 = true := by kernel_rfl
noncomputable def hk119 : HookF := addM hk m119
theorem hk119_ok : HookOK prog hk119 := addM_ok hk_ok (call_ok hk_ok) m119_eval
end Go.Proofs.Tryz
