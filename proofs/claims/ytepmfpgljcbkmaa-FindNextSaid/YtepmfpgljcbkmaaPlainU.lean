/- Plain words on units and spans: no program in sight. -/
namespace Qd
/-- A unit's numbers. -/
structure Un where
  lv : Int
  yr : Int
  ix : Int
/-- A span's days. -/
structure Sp where
  a : Int
  b : Int
end Qd
