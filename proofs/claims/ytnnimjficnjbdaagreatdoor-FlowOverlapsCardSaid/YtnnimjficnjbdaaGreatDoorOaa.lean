/- Part. -/
set_option maxRecDepth 999999
set_option maxHeartbeats 0
set_option linter.all false
section
namespace Go.Am.Fe
abbrev ZcY:Nat:=9
abbrev ZHq:Nat:=4
abbrev ZHT:Nat:=6
abbrev ZHu:Nat:=12
abbrev Zmb:Nat:=13
abbrev ZG8:Nat:=7
abbrev ZHp:Nat:=19
abbrev ZHR:Nat:=14
abbrev ZHQ:Nat:=8
abbrev ZG7:Nat:=3
abbrev ZHi:Nat:=5
end Go.Am.Fe
end
section
namespace Go.Am
end Go.Am
end
