/-
  Plain facts for the laws of the simplex method: states that a run reaches.
-/
import Derived.Test.YtncmobkhenfhpaaGreatD27
namespace Go.Proofs.YtncmobkhenfhpaaGreat
open Go.RowKit Pl

namespace Pl
/-- a state that a run reaches, with at most b pivots -/
def Gd (p : LPd) (b : Int) (t : LSt) : Prop := Val p t ∧ Zr p t = t ∧ t.pivots ≤ b
theorem Gd.start (p : LPd) : Gd p 0 (Zr p (Yq p)) := ⟨(Wt p).settle, settle_twice, by show (0 : Int) ≤ 0; omega⟩
theorem Gd.run {p : LPd} {b : Int} {t : LSt} (h : Gd p b t) (N : Nat) : Gd p (b + N) (Zag p N t) := ⟨Zcb h.1, runL_settled h.2.1, by have := runL_pivots (n := N) h.1; have := h.2.2; omega⟩
theorem Gd.err {p : LPd} {b : Int} {t : LSt} (h : Gd p b t) (hz : lpErr p = 0) : Yx p t = 0 := by rw [Xr hz]; exact h.1.vs
theorem Gd.ru {p : LPd} {b : Int} {t : LSt} (h : Gd p b t) (hz : lpErr p = 0) (N : Nat) : Zhw p t N = Zag p N t := by rw [WZ (h.err hz), h.2.1]
theorem Gd.st {p : LPd} {b : Int} {t : LSt} (h : Gd p b t) (hz : lpErr p = 0) : Zuk p t = (XD p t, U9 p t) := by rw [Zcd (h.err hz), h.2.1]
theorem Gd.va {p : LPd} {b : Int} {t : LSt} (h : Gd p b t) (hz : lpErr p = 0) : Ybf p t = canF (Zhp p 2 t) := by rw [Zhv (h.err hz), h.2.1]
theorem Gd.rg {p : LPd} {b : Int} {t : LSt} (h : Gd p b t) {K : Nat} (F : p.Ft K) : t.basis.length ≤ 1099511627776 ∧ ∀ z ∈ t.basis, -9223372036854775808 ≤ z ∧ z ≤ 9223372036854775807 := Zuc h.1.fit F.2.1 F.1.cols
theorem Gd.pv {p : LPd} {b : Int} {t : LSt} (h : Gd p b t) {N : Nat} (hb : b + N ≤ 9223372036854775807) : t.pivots + (N : Int) ≤ 9223372036854775807 := by have := h.2.2; omega
theorem obj_shH {p : LPd} {K : Nat} (F : p.Ft K) (ph : Int) (s : LSt) : ShH (canF (Zhp p ph s)) := by
  have h : Sz (1 + p.right.length * (K + 5 ^ p.right.length * K + 1)) (Zhp p ph s) := Zix fun i _ => We (Zdt F.1.ok F.1.k1 ph _) ((Ycm F.1 s).qAt (Nat.le_trans F.1.k1 F.1.le) i)
  refine Sz.shH h ?_
  have h1 := F.2.1
  have h2 := F.2.2
  have h3 := F.k.2
  have h4 : p.right.length * (K + 5 ^ p.right.length * K + 1) ≤ 7 * (4000000 + 4000000 + 1) := Nat.mul_le_mul h1 (by omega)
  omega
/-- one more pivot: the phase does not fall, and in Phase 2 the value does not rise -/
theorem Gd.step {p : LPd} {b : Int} {t : LSt} (h : Gd p b t) (h2 : t.phase = 2) : Zhp p 2 (Zag p 1 t) ≤ Zhp p 2 t := by
  cases e : Zeq p t with
  | none => rw [Wq e]; exact Rat.le_refl
  | some u => rw [WX e]; exact (Ztp h.1 h2 e).1
theorem Gd.phase {p : LPd} {b : Int} {t : LSt} (h : Gd p b t) (N : Nat) : t.phase ≤ (Zag p N t).phase := runL_phase h.1
end Pl
end Go.Proofs.YtncmobkhenfhpaaGreat
