import Derived.Test.YtmjcpkmongafnaaGreatDoorSsM
set_option linter.unusedVariables false
namespace Go.Proofs.YtmjcpkmongafnaaGreatDoor.Pure
open Go Go.Proofs.YtmjcpkmongafnaaGreatDoor.Ab Go.Proofs.YtmjcpkmongafnaaGreatDoor.TT
theorem PropSeen(l:ab)(t:aZ)(o:Int)(s:aa)(f:Int)(hl:∃H cs,(kR aj).reps H cs l)(ht:∃H cs,(kR aL).reps H cs t)(ho:InR .i64 o)(hs:∃H cs,(kR ae).reps H cs s)(hf:InR .i64 f):bu.f l t o s f=some true:=Ss.seens hl
end Go.Proofs.YtmjcpkmongafnaaGreatDoor.Pure
