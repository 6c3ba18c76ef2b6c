/- Small words of my own for walks: a world behind a name, with what is known of it. -/
import Derived.Test.YtipejilcocafmaaX0
import Derived.StillTailTactics
import Derived.Shelf.Abstract
namespace Go.Proofs.Ytipejilcocafmaa.X
open Go.RowKit Go.Proofs.YtipejilcocafmaaW.PrintWords Go.Proofs.YtipejilcocafmaaW.PrintLast Go.Proofs.YtipejilcocafmaaW.PrintMore
set_option linter.unusedVariables false
set_option linter.unusedSimpArgs false
theorem wp_world {P : Program} {c : Code} {Q : Exit → Act → World → Prop} {a : Act} {W0 : World} (Φ : World → Prop) (h0 : Φ W0) (h : ∀ W, Φ W → Code.wp P c Q a W) : Code.wp P c Q a W0 := h W0 h0
section
variable {P : Program} {ops : Array Oper} {rest : List Oper} {o : Oper} {a : Act} {Q : Exit → Act → World → Prop} {α : Type}
/-- append(v, p): v a row of the call's own, p of plain cells; a block gb of the call's own that lies beside. -/
theorem my_append_beside (d : Kd α) {w W : World} (hgd : o.guard = none) (s x : Operand) (t e : TypeId) (z : Value) (bytes : Nat) (gb : Nat) (ob : Obj)
    (ho : o.op = .call { callee := .builtin .append, args := #[s, x], argTypes := #[t, t] })
    (ht : P.underlying t = some (.slice e)) (hinfo : (P.info? e).map (fun i => (i.zero, i.size, i.bytes)) = some (some z, d.sz, bytes)) (hz : z.cells.size = d.sz) (hs0 : 0 < d.sz) (hb0 : 0 < bytes)
    (v : Value) (xs : List α) (p : α) (cs : List Value) (hs : a.eval s = v) (hx : a.eval x = .slice (some ⟨W.heap.size, 0, none⟩) 1 1) (hp : d.M W w.heap.size (fun _ => False) p cs)
    (HO : d.R e W w.heap.size (fun k => k ≠ gb) v xs) (HB : Below w.heap.size w W) (HG : W.heap[gb]? = some ob) (hl : (xs.length + 1) * bytes ≤ 140737488355328)
    (h : ∀ v1 w1, d.R e w1 w.heap.size (fun k => k ≠ gb) v1 (xs ++ [p]) → Below w.heap.size w w1 → w1.heap[gb]? = some ob → wpList P ops Q rest (a.put o.dst v1) w1) :
    wpList P ops Q (o :: rest) a (W.alloc (.cells cs.toArray e)) := by
  refine Kd.R_append d (w0 := w) w.heap.size hgd s x t e z bytes ho ht hinfo hz hs0 hb0 v xs p cs (fun k => k ≠ gb) (fun _ => False) hs hx hp (fun _ hk => hk.elim) (Kd.freshB HG) HO HB (below_size HB) hl ?_
  intro v1 w1 hR hB hg _
  exact h v1 w1 hR hB (blk_grown HG hg (Kd.R_away HO (fun _ hk => hk)))
/-- append(v, p), what the row leads to told by any ok. -/
theorem my_append_ok (d : Kd α) {w W : World} (hgd : o.guard = none) (s x : Operand) (t e : TypeId) (z : Value) (bytes : Nat) (ok : Nat → Prop)
    (ho : o.op = .call { callee := .builtin .append, args := #[s, x], argTypes := #[t, t] })
    (ht : P.underlying t = some (.slice e)) (hinfo : (P.info? e).map (fun i => (i.zero, i.size, i.bytes)) = some (some z, d.sz, bytes)) (hz : z.cells.size = d.sz) (hs0 : 0 < d.sz) (hb0 : 0 < bytes)
    (v : Value) (xs : List α) (p : α) (cs : List Value) (hs : a.eval s = v) (hx : a.eval x = .slice (some ⟨W.heap.size, 0, none⟩) 1 1) (hp : d.M W w.heap.size (fun _ => False) p cs) (hfresh : ∀ k, W.heap.size ≤ k → ok k)
    (HO : d.R e W w.heap.size ok v xs) (HB : Below w.heap.size w W) (hl : (xs.length + 1) * bytes ≤ 140737488355328)
    (h : ∀ v1 w1, d.R e w1 w.heap.size ok v1 (xs ++ [p]) → Below w.heap.size w w1 → (∀ g ob, ¬ ok g → W.heap[g]? = some ob → w1.heap[g]? = some ob) → wpList P ops Q rest (a.put o.dst v1) w1) :
    wpList P ops Q (o :: rest) a (W.alloc (.cells cs.toArray e)) := by
  refine Kd.R_append d (w0 := w) w.heap.size hgd s x t e z bytes ho ht hinfo hz hs0 hb0 v xs p cs ok (fun _ => False) hs hx hp (fun _ hk => hk.elim) hfresh HO HB (below_size HB) hl ?_
  intro v1 w1 hR hB hg _
  exact h v1 w1 hR hB (fun g ob hn hG => blk_grown hG hg (Kd.R_away HO (fun k hk e => hn (e ▸ hk))))
/-- append(v, p): v a row of the call's own, p of plain cells. -/
theorem my_append (d : Kd α) {w W : World} (hgd : o.guard = none) (s x : Operand) (t e : TypeId) (z : Value) (bytes : Nat)
    (ho : o.op = .call { callee := .builtin .append, args := #[s, x], argTypes := #[t, t] })
    (ht : P.underlying t = some (.slice e)) (hinfo : (P.info? e).map (fun i => (i.zero, i.size, i.bytes)) = some (some z, d.sz, bytes)) (hz : z.cells.size = d.sz) (hs0 : 0 < d.sz) (hb0 : 0 < bytes)
    (v : Value) (xs : List α) (p : α) (cs : List Value) (hs : a.eval s = v) (hx : a.eval x = .slice (some ⟨W.heap.size, 0, none⟩) 1 1) (hp : d.M W w.heap.size (fun _ => False) p cs)
    (HO : d.R e W w.heap.size (fun _ => True) v xs) (HB : Below w.heap.size w W) (hl : (xs.length + 1) * bytes ≤ 140737488355328)
    (h : ∀ v1 w1, d.R e w1 w.heap.size (fun _ => True) v1 (xs ++ [p]) → Below w.heap.size w w1 → W.grownBy w1 v.ownBlock → wpList P ops Q rest (a.put o.dst v1) w1) :
    wpList P ops Q (o :: rest) a (W.alloc (.cells cs.toArray e)) := by
  refine Kd.R_append d (w0 := w) w.heap.size hgd s x t e z bytes ho ht hinfo hz hs0 hb0 v xs p cs (fun _ => True) (fun _ => False) hs hx hp (fun _ hk => hk.elim) (fun _ _ => trivial) HO HB (below_size HB) hl ?_
  intro v1 w1 hR hB hg _
  exact h v1 w1 hR hB hg
end
end Go.Proofs.Ytipejilcocafmaa.X
