/-
  The law DyadExact: for all arguments.
-/
import Derived.Test.YtjhngehajahbnaaGreatDoorEx
namespace Go.Proofs.YtjhngehajahbnaaGreatDoor
open Go.RowKit Sp

theorem exact_any (w : World) (hT : Tab w) (bda sa : Bool) (aa : Option Addr) (na pa xa : Nat) (ea : Int) (bdb sb : Bool) (ak : Option Addr) (nb pb xb : Nat) (eb n : Int)
    (Ma : Mag w aa na pa xa) (Mb : Mag w ak nb pb xb) (ua : -9223372036854775808 ≤ ea ∧ ea ≤ 9223372036854775807) (ub : -9223372036854775808 ≤ eb ∧ eb ≤ 9223372036854775807) (un : -9223372036854775808 ≤ n ∧ n ≤ 9223372036854775807) :
    Calls Tryz.prog 4 #[.agg #[.bool bda, .bool sa, .slice aa na pa, .int .i64 ea], .agg #[.bool bdb, .bool sb, .slice ak nb pb, .int .i64 eb], .int .i64 n] w fun o w' => o = .returned (.bool true) ∧ Below w.heap.size w w' := by
  have ma := Nat.le_trans Ma.fits Ma.lim
  have mb := Nat.le_trans Mb.fits Mb.lim
  cases hsa : slimB na ea with
  | false => exact exact_na w hT bda sa aa na pa ea bdb sb ak nb pb eb n ma mb hsa
  | true =>
    cases hsb : slimB nb eb with
    | false => exact exact_nb w hT bda sa aa na pa ea bdb sb ak nb pb eb n ma mb hsa hsb
    | true => exact exact_main w hT bda sa aa na pa ea bdb sb ak nb pb eb n ma mb hsa hsb xa xb Ma Mb ua.1 ua.2 ub.1 ub.2 un.1 un.2

end Go.Proofs.YtjhngehajahbnaaGreatDoor

