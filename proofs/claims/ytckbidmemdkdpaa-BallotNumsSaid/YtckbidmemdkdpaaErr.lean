/- Two errors that are constants of one integer type: '==' and '!=' between them and nil, over this seat's program. -/
import Derived.Test.YtckbidmemdkdpaaProg
import Derived.LaidEql
import Derived.KernelRfl
namespace Go.Proofs.Ytckbidmemdkdpaa.Err
section
variable {P : Program} (w : World)
theorem run_equalIn_iface_int (d : Nat) {ti tn : TypeId} {ms : Array (String × TypeId)} {i : TypeInfo} {k : IntKind} (a b : Int)
    (hi : P.underlying ti = some (.interface ms)) (hn : P.underlying tn = some (.int k)) (hinfo : P.info? tn = some i) (hcomp : i.comparable = true) :
    (Op.equalIn (d + 2) ti (.iface tn (.int k a)) (.iface tn (.int k b))).run P w = .ok (a == b) w := by
  simp [Op.equalIn, run_underlying hi, run_underlying hn, typeInfo, hinfo, hcomp]
theorem run_eql_iface_int {ti tn : TypeId} {ms : Array (String × TypeId)} {i : TypeInfo} {k : IntKind} (a b : Int)
    (hi : P.underlying ti = some (.interface ms)) (hn : P.underlying tn = some (.int k)) (hinfo : P.info? tn = some i) (hcomp : i.comparable = true) :
    (binOp .eql ti (.iface tn (.int k a)) (.iface tn (.int k b))).run P w = .ok (.bool (a == b)) w := by
  simp only [binOp]
  simp [Op.equal, Op.maxDepth, run_equalIn_iface_int w 9998 a b hi hn hinfo hcomp]
theorem run_neq_iface_int {ti tn : TypeId} {ms : Array (String × TypeId)} {i : TypeInfo} {k : IntKind} (a b : Int)
    (hi : P.underlying ti = some (.interface ms)) (hn : P.underlying tn = some (.int k)) (hinfo : P.info? tn = some i) (hcomp : i.comparable = true) :
    (binOp .neq ti (.iface tn (.int k a)) (.iface tn (.int k b))).run P w = .ok (.bool (!(a == b))) w := by
  simp only [binOp]
  simp [Op.equal, Op.maxDepth, run_equalIn_iface_int w 9998 a b hi hn hinfo hcomp]
theorem run_neq_iface_nil_left {ti : TypeId} {ms : Array (String × TypeId)} (tp : TypeId) (v : Value) (hi : P.underlying ti = some (.interface ms)) :
    (binOp .neq ti .nilIface (.iface tp v)).run P w = .ok (.bool true) w := by
  have h : ∀ d : Nat, (Op.equalIn (d + 1) ti .nilIface (.iface tp v)).run P w = .ok false w := fun d => by simp [Op.equalIn, run_underlying hi]
  simp only [binOp]
  simp [Op.equal, Op.maxDepth, h 9999]
end
theorem info_err : (Try.prog.info? 45).map (fun i => i.comparable) = some true := by kernel_rfl
theorem eqE (W : World) (a b : Int) : (binOp .eql 30 (.iface 45 (.int .i64 a)) (.iface 45 (.int .i64 b))).run Try.prog W = .ok (.bool (a == b)) W := by
  obtain ⟨i, hi, hc⟩ := Option.map_eq_some_iff.1 info_err
  exact run_eql_iface_int W a b Try.underlying30 Try.underlying45 hi hc
theorem neE (W : World) (a b : Int) : (binOp .neq 30 (.iface 45 (.int .i64 a)) (.iface 45 (.int .i64 b))).run Try.prog W = .ok (.bool (a != b)) W := by
  obtain ⟨i, hi, hc⟩ := Option.map_eq_some_iff.1 info_err
  exact run_neq_iface_int W a b Try.underlying30 Try.underlying45 hi hc
theorem eqN (W : World) (v : Value) : (binOp .eql 30 .nilIface (.iface 45 v)).run Try.prog W = .ok (.bool false) W := run_eql_iface_nil_left W 45 v Try.underlying30
theorem neN (W : World) (v : Value) : (binOp .neq 30 .nilIface (.iface 45 v)).run Try.prog W = .ok (.bool true) W := run_neq_iface_nil_left W 45 v Try.underlying30
end Go.Proofs.Ytckbidmemdkdpaa.Err
