import Derived.Test.YtmjcpkmongafnaaGreatDoorSsM
set_option linter.unusedVariables false
namespace Go.Proofs.YtmjcpkmongafnaaGreatDoor.Pure
open Go Go.Proofs.YtmjcpkmongafnaaGreatDoor.Ab Go.Proofs.YtmjcpkmongafnaaGreatDoor.TT
theorem PropSelf(l:aq)(t:bw)(p o f:Int)(a b:ah)(hl:∃H cs,(kR aA).reps H cs l)(ht:∃H cs,(kR bf).reps H cs t)(hp:InR .i64 p)(ho:InR .i64 o)(hf:InR .i64 f)(ha:∃H cs,(kR ap).reps H cs a)(hb:∃H cs,(kR ap).reps H cs b):dm.f l t p o f a b=some true:=Ss.selfs hl
end Go.Proofs.YtmjcpkmongafnaaGreatDoor.Pure
