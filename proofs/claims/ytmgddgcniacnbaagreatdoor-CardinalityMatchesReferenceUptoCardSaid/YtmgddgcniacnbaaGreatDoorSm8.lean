/- The closed example: a call reckoned by itself. -/
import Derived.Test.YtmgddgcniacnbaaGreatDoorSm7
namespace Go.Proofs.Tryz
open Go Go.Proofs Go.Xm Go.Ab Go.RowKit Go.Xm.Mm
set_option maxRecDepth 1000000
def x575 : Tr XB := (D N (some ⟨70, 2, [(.ref 1238 0 3), (.ref 1798 0 2)]⟩) N)
def m44 : Memo := ⟨14, 0, [(.agg [(.ref 2 0 1), S, S]), (.ref 11 0 1), (.agg [(I (8)), (B #[]), (.ref 838 0 1), (.ref 799 0 1), (.ref 1061 0 2), S, (I (0)), (I (0)), (.ref 663 0 1)]), S],
  (D x87 b35 (D x113 b38 (D x144 b9 x134))),
  1067, (.tup [(.agg [(.ref 1238 0 3), (.ref 1798 0 2)]), (I (0))]),
  (D (D (D x529 b3 (D x533 b1 (D x535 none (D x536 b19 (D x441 b43 (D x164 none (D (D x123 none (D N none N)) none x59))))))) b4 (D (D x537 b5 (D x539 none (D x541 none (D (D (D x460 none (D x575 b15 N)) b28 x461) b52 (D x242 none (D (D x190 none (D N none N)) none x447)))))) b6 (D (D (D (D (D (D N none (D x398 none x573)) b53 x542) b34 x544) none x547) b54 (D x548 b20 (D x549 none (D x550 b54 (D (D x61 b70 (D N (some ⟨61, 1, [(.ref 1786 0 3)]⟩) N)) none x191))))) b54 (D (D x551 b55 (D (D (D (D x575 none (D N b81 N)) b65 N) b56 x534) b19 x552)) b19 x553)))) b35 (D (D (D (D (D (D (D (D x88 none (D x392 none (D N (some ⟨61, 1, [(.ref 1797 0 3)]⟩) N))) none x477) b10 x554) none x555) none (D x556 b27 (D (D (D (D x575 none x254) none x255) none x558) none x559))) b7 x560) b36 (D (D (D (D (D (D N none (D x254 none (D N none N))) none x561) b34 x562) b45 x563) b54 x564) b67 x565)) b38 (D (D x566 b8 (D x567 none (D x568 none (D x515 none (D x322 none (D (D x190 none x557) none x507)))))) b9 (D (D (D (D (D (D N none (D x398 none (D N (some ⟨61, 1, [(.ref 1786 0 3), (.ref 1797 0 3)]⟩) N))) none x569) b42 x570) b62 x571) none x572) none x574)))),
  1799⟩
theorem m44_eval : memoB (fnX hk165 ft pg 400 40) m44 = true := by kernel_rfl
noncomputable def hk44 : HookF := addM hk165 m44
theorem hk44_ok : HookOK prog hk44 := addM_ok hk165_ok (call_ok hk165_ok) m44_eval
end Go.Proofs.Tryz
