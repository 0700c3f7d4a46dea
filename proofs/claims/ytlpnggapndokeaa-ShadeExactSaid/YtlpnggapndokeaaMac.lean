/-
Short words for the rows of a walk.
-/
import Derived.Test.YtlpnggapndokeaaWMore
namespace Go.Proofs.Ytlpnggapndokeaa.PIdealKeeps
open Go Go.RowKit Go.Proofs.YtlpnggapndokeaaW.PrintWords Go.Proofs.YtlpnggapndokeaaW.PrintLast Go.Proofs.YtlpnggapndokeaaW.PrintMore
/-- One operation of a region that yields in every world. -/
macro "pS " i:num n:num l:term:max : tactic => `(tactic| (refine pure_ (i := $i) (N := some $n) (v := ?_) (a' := ?_) $l rfl rfl (by kernel_rfl) (fun _ _ _ h => h) (Or.inl ⟨by rfl, ?_⟩) ?_ ?_; rotate_left; (· intro w'; go_simp; with_reducible rfl); rotate_left; (· simp only [Act.put, List.setIfInBounds_toArray, List.set_cons_zero, List.set_cons_succ, i64_w, i32_w]; rfl)))
/-- The same, with nothing to keep. -/
macro "pN " i:num l:term:max : tactic => `(tactic| (refine pure_ (i := $i) (N := none) (v := ?_) (a' := ?_) $l rfl rfl (by kernel_rfl) (fun _ _ _ h => h) (Or.inl ⟨by rfl, ?_⟩) ?_ ?_; rotate_left; (· intro w'; go_simp; with_reducible rfl); rotate_left; (· rfl)))
/-- One that is not carried out. -/
macro "pO " i:num n:num l:term:max : tactic => `(tactic| (refine pure_ (i := $i) (N := some $n) (v := undef) (a' := ?_) $l rfl rfl (by kernel_rfl) (fun _ _ _ h => h) (Or.inr ⟨by rfl, rfl⟩) ?_ ?_; rotate_left; (· simp only [Act.put, List.setIfInBounds_toArray, List.set_cons_zero, List.set_cons_succ, i64_w, i32_w]; rfl)))
/-- One that reads. -/
macro "tS " i:num n:num l:term:max h:ident p:rintroPat : tactic => `(tactic| (refine take_ (i := $i) (N := some $n) (v := ?_) (a' := ?_) $l rfl rfl (by kernel_rfl) (fun _ _ _ h => h) (Or.inl ⟨by rfl, ?_⟩) $h ?_ ?_; rotate_left; (· rintro w' $p; go_simp; with_reducible rfl); rotate_left; (· simp only [Act.put, List.setIfInBounds_toArray, List.set_cons_zero, List.set_cons_succ, i64_w, i32_w]; rfl)))
end Go.Proofs.Ytlpnggapndokeaa.PIdealKeeps

