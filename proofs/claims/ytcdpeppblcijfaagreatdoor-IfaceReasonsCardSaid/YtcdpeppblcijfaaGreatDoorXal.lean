/- Part. -/
import Derived.Test.YtcdpeppblcijfaaGreatDoorXag
import Derived.Test.YtcdpeppblcijfaaGreatDoorXak
set_option maxRecDepth 999999
set_option maxHeartbeats 0
set_option linter.all false
section
namespace Go.Am.Fe
structure HR (S:Nat->Option Fn):Prop where
 zuReasonsAddq:S ZG3=some (.code ZHw)
 zdSubst:S ZHX=some (.code ZHR)
 zuPutq:S ZHC=some (.code ZIz)
 zuTypesq:S ZHx=some (.code ZId)
 zuLayoutq:S ZHK=some (.code ZH3)
 zuFieldq:S ZHy=some (.code ZIa)
 zuReasonsMembersq:S ZHa=some (.code ZHi)
 zuReasonsNominalsq:S ZG6=some (.code ZHg)
 zfProtocol:S ZHl=some (.code ZHM)
 zaEqStrings:S ZHn=some (.code ZHD)
 zuShapeq:S ZHP=some (.code ZH7)
 zuReasonsProtocolsq:S ZG5=some (.code ZHc)
 zuConfq:S ZHQ=some (.code ZIr)
 zaEqReq:S ZHU=some (.code ZIp)
 zuConformsq:S ZHv=some (.code ZHF)
 zuReasonsConfsq:S ZHe=some (.code ZHo)
 zuWitnessesq:S ZHs=some (.code ZHA)
 zfFunc:S ZIm=some (.code ZIy)
 zuStemq:S ZHW=some (.code ZIq)
 zuRenamed:S ZHH=some (.code ZH4)
 zaEqReqs:S ZHS=some (.code ZIc)
 zuEntryq:S ZHB=some (.code ZIe)
 zuEntry:S ZH5=some (.code ZIo)
 zuReasonsFuncsq:S ZHf=some (.code ZHq)
 zuMethodq:S ZHJ=some (.code ZH0)
 zuHidesq:S ZHO=some (.code ZIb)
 zuReasonsMethodsq:S ZG8=some (.code ZHj)
 zuReasonsFreshq:S ZHd=some (.code ZHr)
 zuReasons:S ZHG=some (.code ZH1)
 zuOf:S ZJk=some (.code ZJN)
 ib: ∀{Q:List A->List (List C)->Prop} (s:List Nat) (c:Nat),c<256->s.length<=300000->(c∉s->Q [pi (-1)] [])->(c∈s->Q [pi ((s.idxOf c:Nat):Int)] [])->Gives S ZHm [ps s,.one (.p (.int .u8 c))] [] Q
end Go.Am.Fe
end
