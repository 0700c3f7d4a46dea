import Derived.Test.YtinmmnljicmppaaDoorVTaleE
/-
Conf and Op in the words of the printed texts.
-/
namespace Go.Proofs.YtinmmnljicmppaaDoor.PTaleApart
open Go Go.RowKit Go.Proofs.YtinmmnljicmppaaDoorW.PrintWords Go.Proofs.YtinmmnljicmppaaDoorW.PrintLast Go.Proofs.YtinmmnljicmppaaDoorW.PrintMore Go.Proofs.YtinmmnljicmppaaDoor.Str
set_option linter.unusedVariables false
set_option linter.unusedSimpArgs false
def tale_Conf.f (kd sl bu he li : Int) : Option (ByteArray × Int) := (conf_Check.f 100 kd sl bu he li).bind fun e =>
 if (Lit.int .i64 sl).wf = true ∧ (Lit.int .i64 bu).wf = true ∧ (Lit.int .i64 he).wf = true ∧ (Lit.int .i64 li).wf = true ∧ (e = 0 → 0 ≤ kd ∧ kd < 4) then some (if e = 0 then joinB (confL kd.toNat sl bu he li) else ⟨#[]⟩, e) else none
theorem tale_Conf.calls (a0_0 : Int) (a0_1 : Int) (a0_2 : Int) (a0_3 : Int) (a0_4 : Int) (r1 : ByteArray) (r2 : Int) (w : World) (h : tale_Conf.f a0_0 a0_1 a0_2 a0_3 a0_4 = some (r1, r2)) {w0 : World} (ht0 : WT w0) (hb0 : Below w0.heap.size w0 w) :
  Calls Tryd.prog 8 #[.agg #[.int .i64 a0_0, .int .i64 a0_1, .int .i64 a0_2, .int .i64 a0_3, .int .i64 a0_4]] w fun e w' => e = .returned (.tuple #[.string r1, .int .i64 r2]) ∧ Below w.heap.size w w' := by
 unfold tale_Conf.f at h
 obtain ⟨e, he, h2⟩ := Option.bind_eq_some_iff.1 h
 split at h2
 ·rename_i hc
  obtain ⟨c1, c2, c3, c4, c5⟩ := hc
  have h3 := Option.some.inj h2
  injection h3 with h4 h5
  subst h4 h5
  exact conf_T 100 a0_0 a0_1 a0_2 a0_3 a0_4 e w he (fun h0 => ⟨a0_0.toNat, by have := c5 h0; omega, by have := c5 h0; omega⟩) (wf_i64b c1) (wf_i64b c2) (wf_i64b c3) (wf_i64b c4) (ht0.below hb0)
 ·cases h2
def tale_Op.f (ck sl bu he li th kd ky va lv : Int) : Option (ByteArray × Int) := (conf_IsOp.f 100 ck sl bu he li kd ky va lv).bind fun e =>
 if (Lit.int .i64 th).wf = true ∧ (Lit.int .u64 ky).wf = true ∧ (Lit.int .u64 va).wf = true ∧ (Lit.int .i64 lv).wf = true ∧ (e = 0 → 0 ≤ kd ∧ kd < 9) then some (if e = 0 ∧ 0 ≤ th ∧ th < 64 then joinB (opL kd.toNat th ky va lv) else ⟨#[]⟩, if e = 0 then (if 0 ≤ th ∧ th < 64 then 0 else 3) else e) else none
theorem tale_Op.calls (a0_0 : Int) (a0_1 : Int) (a0_2 : Int) (a0_3 : Int) (a0_4 : Int) (a1 : Int) (a2_0 : Int) (a2_1 : Int) (a2_2 : Int) (a2_3 : Int) (r1 : ByteArray) (r2 : Int) (w : World) (h : tale_Op.f a0_0 a0_1 a0_2 a0_3 a0_4 a1 a2_0 a2_1 a2_2 a2_3 = some (r1, r2)) {w0 : World} (ht0 : WT w0) (hb0 : Below w0.heap.size w0 w) :
  Calls Tryd.prog 9 #[.agg #[.int .i64 a0_0, .int .i64 a0_1, .int .i64 a0_2, .int .i64 a0_3, .int .i64 a0_4], .int .i64 a1, .agg #[.int .i64 a2_0, .int .u64 a2_1, .int .u64 a2_2, .int .i64 a2_3]] w fun e w' => e = .returned (.tuple #[.string r1, .int .i64 r2]) ∧ Below w.heap.size w w' := by
 unfold tale_Op.f at h
 obtain ⟨e, he, h2⟩ := Option.bind_eq_some_iff.1 h
 split at h2
 ·rename_i hc
  obtain ⟨c1, c2, c3, c4, c5⟩ := hc
  have h3 := Option.some.inj h2
  injection h3 with h4 h5
  subst h4 h5
  exact op_T 100 a0_0 a0_1 a0_2 a0_3 a0_4 a1 a2_0 a2_1 a2_2 a2_3 e w he (fun h0 => ⟨a2_0.toNat, by have := c5 h0; omega, by have := c5 h0; omega⟩) (wf_i64b c1) (wf_u64b c2) (wf_u64b c3) (wf_i64b c4) (ht0.below hb0)
 ·cases h2
end Go.Proofs.YtinmmnljicmppaaDoor.PTaleApart
