import Derived.Test.YtmjcpkmongafnaaGreatDoorSsM
set_option linter.unusedVariables false
namespace Go.Proofs.YtmjcpkmongafnaaGreatDoor.Pure
open Go Go.Proofs.YtmjcpkmongafnaaGreatDoor.Ab Go.Proofs.YtmjcpkmongafnaaGreatDoor.TT
theorem PropTests(l:az)(t:ct)(p o f:Int)(a b:al)(hl:∃H cs,(kR aC).reps H cs l)(ht:∃H cs,(kR bn).reps H cs t)(hp:InR .i64 p)(ho:InR .i64 o)(hf:InR .i64 f)(ha:∃H cs,(kR av).reps H cs a)(hb:∃H cs,(kR av).reps H cs b):eW.f l t p o f a b=some true:=Ss.tests hl
end Go.Proofs.YtmjcpkmongafnaaGreatDoor.Pure
