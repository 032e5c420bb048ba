import Derived.Test.YtmgddgcniacnbaaGreatDoorProg
import Derived.Test.YtmgddgcniacnbaaGreatDoorX3
import Derived.KernelRfl
namespace Go.Proofs.Tryz
open Go Go.Proofs Go.Xm Go.Ab Go.RowKit
set_option maxRecDepth 100000
theorem fn57 : prog.funcs[57]? = some f57 := by kernel_rfl
theorem ty20 : tyOf prog 20 = some ⟨TypeDesc.interface #[], 1, 16, .nilIface⟩ := by kernel_rfl
theorem ent57 : Go.Rp.Enters prog 57 := Go.Rp.enters_of fn57 (by kernel_rfl) rfl

theorem put_eval {a : Act} {d : Tmp} {v : Value} (h : d < a.tmps.size) : (a.put (some d) v).eval (.tmp d) = v := by
  show (a.put (some d) v).tmps.getD d undef = v
  simp [Act.put, Array.getD_eq_getD_getElem?, h]
theorem put_size {a : Act} {d : Option Tmp} {v : Value} : (a.put d v).tmps.size = a.tmps.size := by
  cases d <;> simp [Act.put]

theorem res57 (t : Array Value) (w : World) : (results f57 t).run prog w = .ok (.tuple #[]) w := by
  have : f57.results = #[] := rfl
  simp [results, this]
theorem idle57 : Idle prog 57 := by
  refine ⟨ent57, fun args w => ?_⟩
  have hb : f57.body = some _ := rfl
  refine callsD_of_wpS fn57 hb fun c₀ cs hm => ?_
  have hrec : recoverD (c₀ :: cs) = none := by simp [recoverD, hm]
  generalize hA : ({ tmps := args ++ Array.replicate (f57.ntmps - args.size) undef, defers := [] } : Act) = a
  have hsz : 18 ≤ a.tmps.size := by
    have : f57.ntmps = 18 := rfl
    rw [← hA]
    simp [this]; omega
  have hdf : a.defers = [] := by rw [← hA]
  refine wpS_seq (wpS_region ?_)
  have hr0 : ∀ (x : Act) (w : World), (execOp x.eval ({ dst := some 5, op := Op.call { callee := Callee.builtin Builtin.recover, args := #[], argTypes := #[] }, type := 20, pos := "parser.go:36", after := #[], guard := none } : Oper)).run prog w = .ok .recover w := fun x w => by
    simp [execOp, resolve, invoke, builtin]
  show wpOpsS prog _ _ [0, 1] a (c₀ :: cs) w
  unfold wpOpsS
  simp only [List.getElem?_toArray, List.getElem?_cons_zero, Region.wanted, if_true, hr0, hrec]
  unfold wpOpsS
  have h1 : 5 < a.tmps.size := by omega
  simp only [List.getElem?_toArray, List.getElem?_cons_zero, List.getElem?_cons_succ, Region.wanted, if_true, execOp, put_eval h1, Oper.upon, Sem.run_pure]
  unfold wpOpsS
  show Code.wpS _ _ _ _ _ _
  refine wpS_of_wp ?_
  have h2 : 2 < (a.put (some 5) Value.nilIface).tmps.size := by rw [put_size]; omega
  generalize hB : (a.put (some 5) Value.nilIface).put (some 2) Value.nilIface = b
  have hbs : b.tmps.size = a.tmps.size := by rw [← hB, put_size, put_size]
  have hbd : b.defers = [] := by rw [← hB]; exact hdf
  have hb2 : b.eval (.tmp 2) = .nilIface := by rw [← hB]; exact put_eval h2
  refine wp_seq (wp_region_list ?_)
  have hm1 : ∀ w, (execOp b.eval ({ dst := some 6, op := Op.move (Operand.tmp 2), type := 20, pos := "parser.go:36", after := #[], guard := none } : Oper)).run prog w = .ok (.value .nilIface) w := fun w => by
    simp [execOp, hb2]
  have h6 : 6 < b.tmps.size := by omega
  have hu := run_und ty20
  have hb6 : (b.put (some 6) Value.nilIface).eval (.tmp 6) = .nilIface := put_eval h6
  have hm2 : ∀ w, (execOp (b.put (some 6) Value.nilIface).eval ({ dst := some 7, op := Op.binOp BinOp.neq 20 (Operand.tmp 6) (Operand.const Value.nilIface) 20, type := 4, pos := "parser.go:36", after := #[{ on := 0, ground := Ground.data }], guard := none } : Oper)).run prog w = .ok (.value (.bool false)) w := fun w => by
    have hu := run_und ty20 w
    have := (run_eq_of (P := prog) (T := 20) (x := .nilIface) (y := .nilIface) (r := true) (w := w) (equal_of fun d => by simp [Op.equalIn, hu]) (.tmp 6) (.const .nilIface) ⟨by simp [eqGuard], by simp [eqGuard]⟩ ⟨rfl, rfl⟩).2
    have he : (b.put (some 6) Value.nilIface).eval (.const .nilIface) = .nilIface := rfl
    unfold execOp
    simp only [hb6, he, Sem.run_bind] at this ⊢
    simp [this]
  have h7 : 7 < (b.put (some 6) Value.nilIface).tmps.size := by rw [put_size]; omega
  show wpList prog _ _ [_, _] b w
  unfold wpList
  simp only [Region.wanted, if_true]
  refine .inl ?_
  unfold Oper.wp
  rw [hm1]
  show wpList prog _ _ [_] (b.put (some 6) .nilIface) w
  unfold wpList
  simp only [Region.wanted, if_true]
  refine .inl ?_
  unfold Oper.wp
  rw [hm2]
  simp only [Oper.upon]
  unfold wpList
  show Code.wp _ _ _ _ _
  refine wp_cond_false (put_eval h7) (wp_skip ?_)
  exact ⟨hbd, .returning, by simp [← hm], .tuple #[], res57 _ _, ⟨_, rfl⟩, rfl, rfl⟩
end Go.Proofs.Tryz
