/- '[]byte(s)': a row that is only read; each under its theorem's own conditions. -/
import Derived.Test.YtdajdpgnhjlbaaaDoorWWords
import Derived.Test.YtdajdpgnhjlbaaaDoorWMore
set_option linter.unusedVariables false
set_option linter.unusedSimpArgs false
namespace Go.Proofs.YtdajdpgnhjlbaaaDoorW.PrintWords.Kd
open Go.RowKit Go.Proofs.YtdajdpgnhjlbaaaDoorW.PrintWords Go.Proofs.YtdajdpgnhjlbaaaDoorW.PrintLast Go.Proofs.YtdajdpgnhjlbaaaDoorW.PrintMore
section
variable {P : Program} {ops : Array Oper} {rest : List Oper} {o : Oper} {a : Act} {Q : Exit → Act → World → Prop}
/-- The bytes' row holds wherever its block stands. -/
theorem bytes_F (W : World) (e : TypeId) (s : ByteArray) (hl : s.size ≤ 281474976710656) {ok : Nat → Prop} (hok : ok W.heap.size) : F (Kd.int .u8) (Lib.bytesWorld W e s) ok (some ⟨W.heap.size, 0, none⟩) s.size (bytesOf s) := by
  intro W' hW
  refine C_of_reads (d := (0 : Int)) ?_
  refine ⟨bytesOf_length s, by omega, fun _ => ⟨_, rfl, fun j hj => ?_⟩⟩
  have hb := hW W.heap.size hok (by rw [Lib.bytesWorld_size]; omega)
  have h2 : (Lib.bytesWorld W e s).cell? ⟨W.heap.size, j, none⟩ = W'.cell? ⟨W.heap.size, j, none⟩ := by unfold World.cell?; rw [hb]
  rw [add_plain, ← h2, Lib.bytesWorld_cell W e s j hj]
  have h' : j < s.data.toList.length := by rw [data_length]; exact hj
  simp [bytesOf, List.getD_eq_getElem?_getD, List.getElem?_eq_getElem h']
theorem bytes_V (W : World) (e base : TypeId) (s : ByteArray) (hl : s.size ≤ 281474976710656) {ok : Nat → Prop} (hok : ok W.heap.size) : V (Kd.int .u8) e (Lib.bytesWorld W e s) base ok (.slice (some ⟨W.heap.size, 0, none⟩) s.size (grownCap W s.size 0 e)) (bytesOf s) := by
  refine ⟨some ⟨W.heap.size, 0, none⟩, grownCap W s.size 0 e, by rw [bytesOf_length], ?_, ?_⟩
  · rw [bytesOf_length]; exact grownCap_ge _ _ _ _
  · rw [bytesOf_length]; exact bytes_F W e s hl hok
/-- '[]byte(s)', as if a call had made it. -/
theorem V_bytes {w0 W : World} (base e : Nat) (hgd : o.guard = none) {N : Tmp} (hd : o.dst = some N) (src dst : TypeId) (x : Operand) (ho : o.op = .convert src dst x) {u : TypeDesc} (hs : P.underlying src = some u) (hdst : P.underlying dst = some (.slice e)) (he : P.underlying e = some (.int .u8))
    (s : ByteArray) (hx : a.eval x = .string s) (hl : s.size ≤ 281474976710656) {ok okp : Nat → Prop} (_hok : ∀ k, okp k → ok k) (hfresh : ok W.heap.size) (HB : Below base w0 W) (hbase : base ≤ W.heap.size)
    (h : ∀ v1 w1, V (Kd.int .u8) e w1 base ok v1 (bytesOf s) → Below base w0 w1 → True → True → wpList P ops Q rest (a.put o.dst v1) w1) : wpList P ops Q (o :: rest) a W := by
  refine event_run hgd (v := .slice (some ⟨W.heap.size, 0, none⟩) s.size (grownCap W s.size 0 e)) (w1 := Lib.bytesWorld W e s) ?_ (h _ _ (bytes_V W e base s hl hfresh) (bytes_below HB hbase e s) trivial trivial)
  simp [execOp, ho, hx, print_bytes (P := P) src dst e hs hdst he s W]
/-- The same in a region that draws. -/
theorem V_bytes_step {w0 W : World} (base e : Nat) (hw : Region.wanted o (yielded ops a.tmps) = true) (src dst : TypeId) (x : Operand) (ho : o.op = .convert src dst x) {u : TypeDesc} (hs : P.underlying src = some u) (hdst : P.underlying dst = some (.slice e)) (he : P.underlying e = some (.int .u8))
    (s : ByteArray) (hx : a.eval x = .string s) (hl : s.size ≤ 281474976710656) {ok okp : Nat → Prop} (_hok : ∀ k, okp k → ok k) (hfresh : ok W.heap.size) (HB : Below base w0 W) (hbase : base ≤ W.heap.size) {Kc : Act → World → Prop}
    (h : ∀ v1 w1, V (Kd.int .u8) e w1 base ok v1 (bytesOf s) → Below base w0 w1 → True → True → Kc (a.put o.dst v1) w1) : if Region.wanted o (yielded ops a.tmps) = true then Oper.wp P o a W Kc Q else Kc (a.put o.dst undef) W := by
  refine event_step hw (v := .slice (some ⟨W.heap.size, 0, none⟩) s.size (grownCap W s.size 0 e)) (w1 := Lib.bytesWorld W e s) ?_ (h _ _ (bytes_V W e base s hl hfresh) (bytes_below HB hbase e s) trivial trivial)
  simp [execOp, ho, hx, print_bytes (P := P) src dst e hs hdst he s W]
end
end Go.Proofs.YtdajdpgnhjlbaaaDoorW.PrintWords.Kd
