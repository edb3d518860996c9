/- Part. -/
import Derived.Test.YtcdpeppblcijfaaGreatDoorEag
import Derived.Test.YtcdpeppblcijfaaGreatDoorEak
set_option maxRecDepth 999999
set_option maxHeartbeats 0
set_option linter.all false
section
namespace Go.Am.Fe
structure HR (S:Nat->Option Fn):Prop where
 zdSubst:S ZHX=some (.code ZHR)
 zuPutq:S ZHC=some (.code ZIz)
 zaEqStrings:S ZHn=some (.code ZHD)
 zaEqReq:S ZHU=some (.code ZIp)
 zuStemq:S ZHW=some (.code ZIq)
 zuRenamed:S ZHH=some (.code ZH4)
 zaEqReqs:S ZHS=some (.code ZIc)
 zuEntryq:S ZHB=some (.code ZIe)
 zuEntry:S ZH5=some (.code ZIo)
 zuOf:S ZJk=some (.code ZJN)
 ib: ∀{Q:List A->List (List C)->Prop} (s:List Nat) (c:Nat),c<256->s.length<=300000->(c∉s->Q [pi (-1)] [])->(c∈s->Q [pi ((s.idxOf c:Nat):Int)] [])->Gives S ZHm [ps s,.one (.p (.int .u8 c))] [] Q
end Go.Am.Fe
end
