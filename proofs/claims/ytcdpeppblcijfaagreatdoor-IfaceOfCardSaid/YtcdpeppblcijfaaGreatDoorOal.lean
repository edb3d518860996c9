/- Part. -/
import Derived.Test.YtcdpeppblcijfaaGreatDoorOag
import Derived.Test.YtcdpeppblcijfaaGreatDoorOak
set_option maxRecDepth 999999
set_option maxHeartbeats 0
set_option linter.all false
section
namespace Go.Am.Fe
structure HR (S:Nat->Option Fn):Prop where
 zuReasonsAddq:S ZHb=some (.code ZIO)
 zdSubst:S ZJj=some (.code ZJ6)
 zuPutq:S ZIS=some (.code ZKu)
 zuTypesq:S ZIA=some (.code ZJM)
 zuLayoutq:S ZI7=some (.code ZJw)
 zuFieldq:S ZII=some (.code ZJQ)
 zuReasonsMembersq:S ZHK=some (.code ZIa)
 zuReasonsNominalsq:S ZHE=some (.code ZH6)
 zfProtocol:S ZH1=some (.code ZJq)
 zaEqStrings:S ZHh=some (.code ZID)
 zuShapeq:S ZJn=some (.code ZJP)
 zuReasonsProtocolsq:S ZHw=some (.code ZHY)
 zuConfq:S ZJi=some (.code ZJ1)
 zaEqReq:S ZIY=some (.code ZJD)
 zuConformsq:S ZIC=some (.code ZJe)
 zuReasonsConfsq:S ZHW=some (.code ZIv)
 zuWitnessesq:S ZIq=some (.code ZIZ)
 zfFunc:S ZJV=some (.code ZKs)
 zuStemq:S ZJg=some (.code ZJ2)
 zuRenamed:S ZI6=some (.code ZJv)
 zaEqReqs:S ZIn=some (.code ZJo)
 zuEntryq:S ZI0=some (.code ZJU)
 zuEntry:S ZJC=some (.code ZJ3)
 zuReasonsFuncsq:S ZHU=some (.code ZIw)
 zuMethodq:S ZI2=some (.code ZJy)
 zuHidesq:S ZJm=some (.code ZJO)
 zuReasonsMethodsq:S ZHI=some (.code ZIh)
 zuReasonsFreshq:S ZHT=some (.code ZIx)
 zuReasons:S ZJx=some (.code ZJA)
 zuOf:S ZKB=some (.code ZKT)
 ib: ∀{Q:List A->List (List C)->Prop} (s:List Nat) (c:Nat),c<256->s.length<=300000->(c∉s->Q [pi (-1)] [])->(c∈s->Q [pi ((s.idxOf c:Nat):Int)] [])->Gives S ZHv [ps s,.one (.p (.int .u8 c))] [] Q
end Go.Am.Fe
end
