/- Units and spans as values. -/
import Derived.Test.YtjhhmeoibfdcmaaGreatDoorBase
import Derived.Test.YtjhhmeoibfdcmaaGreatDoorPlainA
namespace Go.Proofs.YtjhhmeoibfdcmaaGreatDoor
open Go.RowKit Qd
abbrev unitV (u : Un) : Value := .agg #[.int .i64 u.lv, .int .i64 u.yr, .int .i64 u.ix]
abbrev spanV (s : Sp) : Value := .agg #[.int .i64 s.a, .int .i64 s.b]
end Go.Proofs.YtjhhmeoibfdcmaaGreatDoor
