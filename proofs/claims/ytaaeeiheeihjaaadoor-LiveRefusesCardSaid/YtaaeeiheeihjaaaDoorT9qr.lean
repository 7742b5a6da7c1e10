/- The road to a card of this seat: T9q. Each theorem holds for every input that its own premises speak of. -/
import Derived.Test.YtaaeeiheeihjaaaDoorA7
set_option linter.all false
namespace Go.Ab
section
variable {P : Program} {X : Cx} {N : Nat} {E : TEnv} {Th : List Root}
variable {ops : Array Oper} {rest : List Oper} {K : TEnv → List Root → Prop} {K2 : TEnv → List Root → List Rec → Prop} {Th' : List Root} {o : Oper} {op : Op} {x : TV} {d : Tmp}
theorem wq (ho : o.op = op) (hop : OpT P X E Th op x Th' .no) (h : WOt P X ops rest N ((d, x) :: E) Th' K) (hg : o.guard = none := by rfl) (hdst : o.dst = some d := by rfl) (hN : Nat.blt d N = true := by rfl) : WOt P X ops (o :: rest) N E Th K := wot_o ho hop hg hdst hN h
theorem tq (ho : o.op = op) (hop : OpT P X E Th op x Th' .no) (h : WTt P X ops rest N ((d, x) :: E) Th' (fun E' Th1 tr => K2 E' Th1 (⟨E, Th, .no⟩ :: tr))) (hg : o.guard = none := by rfl) (hdst : o.dst = some d := by rfl) (hN : Nat.blt d N = true := by rfl) : WTt P X ops (o :: rest) N E Th K2 := wtt_o ho hop hg hdst hN h
theorem qm {x : Operand} {a : TV} (hx : evTV E x = some a := by rfl) (ok : okOpd P x = true := by rfl) : OpT P X E Th (.move x) a Th .no := opt_move hx ok
theorem qa {x : Operand} {a : TV} (hx : evTV E x = some a := by rfl) (ok : okOpd P x = true := by rfl) : OpT P X E Th (.assign x) a Th .no := opt_assign hx ok
theorem qc {v : Value} (ok : flat1 v = true := by rfl) : OpT P X E Th (.assign (.const v)) (.v v) Th .no := opt_assign_c ok
theorem q1 {t : TypeId} {x : Operand} {tg : Bool} {cs : List TV} {off n : Nat} {y : TV} [hT : TyI P t false n] (hx : evTV E x = some (.fp tg cs off) := by rfl) (o1 : okOpd P x = true := by rfl) (hy : cs[off]? = some y := by rfl) : OpT P X E Th (.load t x) y Th .no := opt_load_fp_1 hx o1 hy
theorem qf {s ft : TypeId} {x : Operand} {f off o k : Nat} {tg ag : Bool} {cs : List TV} [hF : FdI P s f o ft] [hT : TyI P ft ag (k + 1)] (hx : evTV E x = some (.fp tg cs off) := by rfl) (o1 : okOpd P x = true := by rfl) : OpT P X E Th (.fieldAddr s x f) (.fp tg cs (off + o)) Th .no := opt_fieldAddr_fp (hF := hF) (hT := hT) hx o1
theorem ql {t : TypeId} {x : Operand} {i g off n : Nat} {e : TypeId} {cs : List TV} {y : TV} [hT : TyI P t false n] (hx : evTV E x = some (.pt i g off) := by rfl) (hi : Th[i]? = some ⟨g, some (e, cs)⟩ := by rfl) (o1 : okOpd P x = true := by rfl) (hy : cs[off]? = some y := by rfl) : OpT P X E Th (.load t x) y Th .no := opt_load_pt_1 hx hi o1 hy
theorem qn {x : Operand} {t e : TypeId} {ts : Array TypeId} {tg : Bool} {sz n : Nat} {cs : List TV} [hE : ElI P t e] (hx : evTV E x = some (.fz tg sz n cs) := by rfl) (o1 : okOpd P x = true := by rfl) (ht : ts.toList = [t] := by rfl) : OpT P X E Th (.call { callee := .builtin .len, args := #[x], argTypes := ts }) (.v (.int .i64 (n : Int))) Th .no := opt_len_fz (hE := hE) hx o1 ht
theorem qk {o : BinOp} {t u : TypeId} {x y : Operand} {k : IntKind} {a b : Int} {c : Bool} (hx : evTV E x = some (.v (.int k a)) := by rfl) (hy : evTV E y = some (.v (.int k b)) := by rfl) (o1 : okOpd P x = true := by rfl) (o2 : okOpd P y = true := by rfl) (h : ibin o k a b = some (.bool c) := by rfl) : OpT P X E Th (.binOp o t x y u) (.v (.bool c)) Th .no := opt_cmp hx hy o1 o2 h
theorem qF {s ft : TypeId} {x : Operand} {f i g off o k : Nat} {ag : Bool} {e : TypeId} {cs : List TV} [hF : FdI P s f o ft] [hT : TyI P ft ag (k + 1)] (hx : evTV E x = some (.pt i g off) := by rfl) (hi : Th[i]? = some ⟨g, some (e, cs)⟩ := by rfl) (o1 : okOpd P x = true := by rfl) (hn : Nat.blt 0 cs.length = true := by rfl) : OpT P X E Th (.fieldAddr s x f) (.pt i g (off + o)) Th .no := opt_fieldAddr_pt (hF := hF) (hT := hT) hx hi o1 hn
end
end Go.Ab
