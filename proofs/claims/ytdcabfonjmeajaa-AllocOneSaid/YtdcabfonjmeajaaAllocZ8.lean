/- What this claim rests on, part 8: abstract values, walks of the code over them, what the functions come to; each under its theorem's own conditions. -/
import Derived.Test.YtdcabfonjmeajaaAllocZ7
set_option linter.unusedVariables false
set_option linter.unusedSimpArgs false
namespace Go.Proofs.Ytdcabfonjmeajaa.PAlloc
open Go.RowKit Go.Proofs.YtdcabfonjmeajaaW.PrintWords Go.Proofs.YtdcabfonjmeajaaW.PrintLast Go.Proofs.YtdcabfonjmeajaaW.PrintMore

/-! ### alloc.Choose$1 -/
theorem alloc_Choose_1_s (a b : Int) (nets : List Nt) (h : Sm nets) (t : List Le) (ht : Small t) (n : Int) (key : ByteArray) (hk : key.size ≤ maxLen) (x now : Int) : Ev (fun k => alloc_Choose_1.f k x a b nets t n key now) (mayA a b nets t n key x now) :=
  Ev.bind (alloc_May_s a b nets h t ht n key hk x now) (Ev.ret rfl)

end Go.Proofs.Ytdcabfonjmeajaa.PAlloc
set_option linter.unusedVariables false
set_option linter.unusedSimpArgs false
namespace Go.Proofs.Ytdcabfonjmeajaa.PAlloc
open Go.RowKit Go.Proofs.YtdcabfonjmeajaaW.PrintWords Go.Proofs.YtdcabfonjmeajaaW.PrintLast Go.Proofs.YtdcabfonjmeajaaW.PrintMore

/-! ### alloc.first -/
theorem alloc_first_s (a b : Int) (nets : List Nt) (h : Sm nets) (t : List Le) (ht : Small t) (n : Int) (key : ByteArray) (hk : key.size ≤ maxLen) (now : Int) (l : List Int) (hl : l.length ≤ 10000) :
    Ev (fun k => alloc_first.f k l a b nets t n key now) (seekA (fun x => mayA a b nets t n key x now) l (0, false)) := by
  refine loopR l _ (L := fun k i => alloc_first.l0 k l a b nets t n key now i) (fun i hi r h3 => ?_) ?_
  · have eT : rdOf 0 l (i : Int) = l[i] := rd_get hi
    refine Ev.step (fun k => by show alloc_first.l0 (k + 1) _ _ _ _ _ _ _ _ _ = _; rw [alloc_first.l0, if_pos (by omega), if_pos (by omega), eT, wrap_next hi (by omega)]) ?_
    exact Ev.bind (alloc_Choose_1_s a b nets h t ht n key hk _ now) (Ev.ite' (fun c => Ev.ret (by rw [if_pos c])) (fun c => by rw [if_neg c]; exact h3))
  · exact Ev.step (fun k => by show alloc_first.l0 (k + 1) _ _ _ _ _ _ _ _ _ = _; rw [alloc_first.l0, if_neg (by omega)]) Ev.some'

end Go.Proofs.Ytdcabfonjmeajaa.PAlloc
set_option linter.unusedVariables false
set_option linter.unusedSimpArgs false
namespace Go.Proofs.Ytdcabfonjmeajaa.PAlloc
open Go.RowKit Go.Proofs.YtdcabfonjmeajaaW.PrintWords Go.Proofs.YtdcabfonjmeajaaW.PrintLast Go.Proofs.YtdcabfonjmeajaaW.PrintMore

/-! ### alloc.Choose -/
section
variable {a b : Int} {nets : List Nt} (h : Sm nets) {t : List Le} (ht : Small t) {n : Int} {key : ByteArray} (hk : key.size ≤ maxLen) (now : Int) (hf : fairA a b nets t n key = true)
include h ht hk hf
theorem alloc_Choose_l2 (i : Nat) (hi : i < (subsA nets n).length) {r : Int × Bool} (h1 : Ev (fun k => alloc_Choose.l1 k nets n a b t key now ((i + 1 : Nat) : Int)) r) :
    Ev (fun k => alloc_Choose.l2 k nets n (i : Int) a b t key now 0) (((subsA nets n)[i]).f2.foldr (fun p r => seekA (fun x => mayA a b nets t n key x now) (rangeL p.f0 p.f1) r) r) := by
  have eS : rd_T57 (rd_T41 nets n).f0 (i : Int) = (subsA nets n)[i] := rd_get hi
  have hc := (fairA_iff.1 hf).1
  have hS := (subsA_sm h n).2 _ (List.getElem_mem hi)
  have h10 := (subsA_sm h n).1
  refine loopR ((subsA nets n)[i]).f2 _ (L := fun k j => alloc_Choose.l2 k nets n (i : Int) a b t key now j) (fun j hj r h3 => ?_) ?_
  · have eP : rd_T62 ((subsA nets n)[i]).f2 (j : Int) = ((subsA nets n)[i]).f2[j] := rd_get hj
    have hb := pool_bounds hc (List.getElem_mem hi) (List.getElem_mem hj)
    refine Ev.step (fun k => by show alloc_Choose.l2 (k + 1) _ _ _ _ _ _ _ _ _ = _; rw [alloc_Choose.l2, eS, if_pos (by omega), if_pos (by omega), eP]) ?_
    refine range_loop (L := fun k x => alloc_Choose.l3 k nets n (i : Int) (j : Int) a b t key now x) _ (fun x hx hx2 r h4 => ?_) (fun x hx => ?_)
    · refine Ev.step (fun k => by show alloc_Choose.l3 (k + 1) _ _ _ _ _ _ _ _ _ _ = _; rw [alloc_Choose.l3, eS, eP, if_pos (by omega), show wrap64 (x + 1) = x + 1 by unfold wrap64; omega]) ?_
      exact Ev.bind (alloc_Choose_1_s a b nets h t ht n key hk _ now) (Ev.ite' (fun c => Ev.ret (by simp [c])) (fun c => by simpa [c] using h4))
    · refine Ev.step (fun k => by show alloc_Choose.l3 (k + 1) _ _ _ _ _ _ _ _ _ _ = _; rw [alloc_Choose.l3, eS, eP, if_neg (by omega), wrap_next hj (by have := hS.1; omega)]) h3
  · refine Ev.step (fun k => by show alloc_Choose.l2 (k + 1) _ _ _ _ _ _ _ _ _ = _; rw [alloc_Choose.l2, eS, if_neg (by omega), wrap_next hi (by omega)]) h1
theorem alloc_Choose_l1 : Ev (fun k => alloc_Choose.l1 k nets n a b t key now 0) (seekA (fun x => mayA a b nets t n key x now) (poolsA nets n) (0, false)) := by
  have e : seekA (fun x => mayA a b nets t n key x now) (poolsA nets n) (0, false) = (subsA nets n).foldr (fun s r => s.f2.foldr (fun p r => seekA (fun x => mayA a b nets t n key x now) (rangeL p.f0 p.f1) r) r) (0, false) := by
    unfold poolsA
    rw [← seekA_flat]
    congr 1
    funext s r
    rw [← seekA_flat]
  rw [e]
  refine loopR (subsA nets n) _ (L := fun k i => alloc_Choose.l1 k nets n a b t key now i) (fun i hi r h3 => ?_) ?_
  · refine Ev.step (fun k => by show alloc_Choose.l1 (k + 1) _ _ _ _ _ _ _ _ = _; rw [alloc_Choose.l1, show (rd_T41 nets n).f0 = subsA nets n from rfl, if_pos (by omega), if_pos (by omega)]) (alloc_Choose_l2 h ht hk now hf i hi h3)
  · exact Ev.step (fun k => by show alloc_Choose.l1 (k + 1) _ _ _ _ _ _ _ _ = _; rw [alloc_Choose.l1, show (rd_T41 nets n).f0 = subsA nets n from rfl, if_neg (by omega)]) Ev.some'
theorem alloc_Choose_j0 (want : Int) (l m : List Int) (hl : l.length ≤ 500) (hm : m.length ≤ 500) : Ev (fun k => alloc_Choose.j0 k m want a b nets t n key now l) (seekA (fun x => mayA a b nets t n key x now) (l ++ (m ++ (want :: poolsA nets n))) (0, false)) := by
  have hn := (fairA_iff.1 hf).2.2.2
  rw [show l ++ (m ++ (want :: poolsA nets n)) = ((l ++ m) ++ [want]) ++ poolsA nets n by simp, seekA_two]
  refine Ev.step (fun k => by rw [alloc_Choose.j0, if_pos (by omega), if_pos (by simp; omega)]) ?_
  refine Ev.bind (alloc_first_s a b nets h t ht n key hk now _ (by simp; omega)) (Ev.ite' (fun c => Ev.ret (by rw [if_pos c])) (fun c => ?_))
  rw [if_neg c]
  exact Ev.pos hn.1 (Ev.pos hn.2 (alloc_Choose_l1 h ht hk now hf))
theorem alloc_Choose_l0 (want : Int) (l : List Le) (hl : l.length ≤ 500) (hL : l = ofL t key) : Ev (fun k => alloc_Choose.l0 k l a b nets n now t key want [] [] 0) (seekA (fun x => mayA a b nets t n key x now) (tryA a b nets t n key want now) (0, false)) := by
  refine loopL (σ := List Int × List Int) l (fun s l => if inA a b nets n l.f0 = true then (if holdsB l now = true then (s.1 ++ [l.f0], s.2) else (s.1, s.2 ++ [l.f0])) else s) (fun i s => s.1.length ≤ i ∧ s.2.length ≤ i)
    (L := fun k i s => alloc_Choose.l0 k l a b nets n now t key want s.1 s.2 i) (s := ([], [])) ⟨by simp, by simp⟩ (fun i hi s hp => ?_) (fun i hi s hp h3 => ?_) (fun hp => ?_)
  · try dsimp only
    split
    · split
      · exact ⟨by simp; omega, by dsimp only; omega⟩
      · exact ⟨by dsimp only; omega, by simp; omega⟩
    · exact ⟨by omega, by omega⟩
  · have eT : rd_T47 l (i : Int) = l[i] := rd_get hi
    try dsimp only at h3
    refine Ev.step (fun k => by show alloc_Choose.l0 (k + 1) _ _ _ _ _ _ _ _ _ _ _ _ = _; rw [alloc_Choose.l0, if_pos (by omega), if_pos (by omega), eT, wrap_next hi (by omega)]) ?_
    refine Ev.bind (alloc_in_s a b nets h n _) (Ev.ite' (fun c => ?_) (fun c => ?_))
    · rw [if_neg (by simpa using c)] at h3; exact h3
    · rw [if_pos (by simpa using c)] at h3
      refine Ev.bind (Ev.congr (fun _ => table_Holds_s l[i] now) (Ev.now _)) (Ev.ite' (fun c2 => ?_) (fun c2 => ?_))
      · rw [if_pos c2] at h3; exact Ev.pos (by omega) h3
      · rw [if_neg c2] at h3; exact Ev.pos (by omega) h3
  · rw [held_fold] at hp ⊢
    simp only [List.nil_append] at hp ⊢
    have e1 : (l.filter (fun l => inA a b nets n l.f0 && holdsB l now)).map (·.f0) = heldA a b nets t n key now := by subst hL; rfl
    have e2 : (l.filter (fun l => inA a b nets n l.f0 && !holdsB l now)).map (·.f0) = oldA a b nets t n key now := by subst hL; rfl
    rw [e1, e2] at hp ⊢
    unfold tryA
    refine Ev.step (fun k => by show alloc_Choose.l0 (k + 1) _ _ _ _ _ _ _ _ _ _ _ _ = _; rw [alloc_Choose.l0, if_neg (by omega)]) ?_
    refine Ev.ite' (fun c => ?_) (fun c => ?_)
    · rw [if_neg (fun e => by rw [e] at c; simp at c)]
      exact Ev.bind (alloc_first_s a b nets h t ht n key hk now _ (by omega)) (Ev.ret rfl)
    · have c2 : heldA a b nets t n key now = [] := by
        rw [← List.length_eq_zero_iff]; omega
      rw [if_pos c2]
      refine Ev.bind (conf_KeptFor_s a b nets h n key) (Ev.ite' (fun c3 => ?_) (fun c3 => ?_))
      · refine Ev.pos (by omega) ?_
        rw [show keptA a b nets n key = [(keptL a b nets n key).1] from if_pos c3]
        exact alloc_Choose_j0 h ht hk now hf want _ _ (by simp) (by omega)
      · rw [show keptA a b nets n key = [] from if_neg c3]
        exact alloc_Choose_j0 h ht hk now hf want _ _ (by simp) (by omega)
end
theorem alloc_Choose_s (a b : Int) (nets : List Nt) (h : Sm nets) (t : List Le) (ht : Small t) (n : Int) (key : ByteArray) (hk : key.size ≤ maxLen) (want now : Int) : Ev (fun k => alloc_Choose.f k a b nets t n key want now) (ansA (chooseA a b nets t n key want now)) := by
  refine Ev.bind (alloc_fair_s a b nets h t ht n key hk) (Ev.ite' (fun c => Ev.ret ?_) (fun c => ?_))
  · unfold chooseA; rw [if_neg (by simpa using c)]; rfl
  · have c : fairA a b nets t n key = true := by simpa using c
    have hT := (fairA_iff.1 c).2.1
    refine Ev.bind (a := ofL (goodL t) key) ⟨t.length + 1, fun k hk => table_Of_s t ht key k (by omega)⟩ ?_
    rw [choose_seek c]
    exact alloc_Choose_l0 h ht hk now c want _ (by rw [goodL_of hT]; exact ofL_small ht key) (by rw [goodL_of hT])

end Go.Proofs.Ytdcabfonjmeajaa.PAlloc
