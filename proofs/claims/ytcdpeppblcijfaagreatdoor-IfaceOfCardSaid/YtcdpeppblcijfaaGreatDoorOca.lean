/- Part. -/
import Derived.Test.YtcdpeppblcijfaaGreatDoorObz
import Derived.Test.YtcdpeppblcijfaaGreatDoorObd
set_option maxRecDepth 999999
set_option maxHeartbeats 0
set_option linter.all false
section
namespace Go.Am.Fe
open Go.Proofs
set_option maxRecDepth 1000000
def ZL5:List (Nat×SFunc):=[(ZHb,ZIO),(ZJj,ZJ6),(ZIS,ZKu),(ZIA,ZJM),(ZI7,ZJw),(ZII,ZJQ),(ZHK,ZIa),(ZHE,ZH6),(ZH1,ZJq),(ZHh,ZID),(ZJn,ZJP),(ZHw,ZHY),(ZJi,ZJ1),(ZIY,ZJD),(ZIC,ZJe),(ZHW,ZIv),(ZIq,ZIZ),(ZJV,ZKs),(ZJg,ZJ2),(ZI6,ZJv),(ZIn,ZJo),(ZI0,ZJU),(ZJC,ZJ3),(ZHU,ZIw),(ZI2,ZJy),(ZJm,ZJO),(ZHI,ZIh),(ZHT,ZIx),(ZJx,ZJA),(ZKB,ZKT)]
def ZLF:List (Nat×SFunc):=[(ZH2,ZIT),(ZIX,ZJt),(ZIr,ZIP),(ZIK,ZJd),(ZIb,ZIF),(ZIs,ZIR),(ZHZ,ZIu),(ZI1,ZJs),(ZIp,ZIV),(ZIM,ZI3),(ZH8,ZIQ),(ZJE,ZJY),(ZJh,ZJF),(ZKD,ZLf),(ZHf,ZHe),(ZHc,ZH4),(ZHp,ZHo),(ZHg,ZIo),(ZHR,ZIG),(ZI4,ZJc),(ZJb,ZI5),(ZJf,ZJI),(ZG3,ZG7),(ZIg,ZIy),(ZG2,ZG4),(ZHL,ZHM),(ZHm,ZHV),(ZIm,ZIk),(ZIe,ZIH),(ZG5,ZG9),(ZId,ZIz),(ZG6,ZHa),(ZIi,ZIB),(ZIN,ZI8),(ZH0,ZIt)]
def ZK3:ZL5.all (fun p=>ZiH Tryz.prog p.1 p.2)=true:=by kernel_rfl
def ZKG:ZLF.all (fun p=>ZiH Tryz.prog p.1 p.2)=true:=by kernel_rfl
noncomputable def SP:Nat->Option Fn:=addP 63 (ZBS ixP) (look ZL5 (look ZLF SO))
def ZMi:FnOK Tryz.prog SP:=ZjQ ZLX (ZhB (ZhB ZMh (ZnL ZKG)) (ZnL ZK3))
def ZLt:Has SP:=by constructor<;>kernel_rfl
def ZLa:HasPr SP:=ZvV ZAX ZxB (by kernel_rfl)
def ZK7 (Q:List A->List (List C)->Prop) (h:Q [pb true] []):Gives SP Zd3 [] [] Q:=by
 refine ⟨1,[pb true],[],?_,h⟩
 have e:SP 13=some (.prim Zu4):=by kernel_rfl
 unfold call Zja
 rw [e]
 rfl
theorem ZMa:HG SP:=by
 constructor
 all_goals first
    | kernel_rfl
    | (intro Q a b h;exact ZEQ (S:=SP) (f:=317) (p:=cmpP) (by kernel_rfl) rfl h)
    | (intro Q l hl h;exact ZEQ (S:=SP) (f:=75) (p:=ZBM) (by kernel_rfl) (by show (match Zrq (strs l) with|some xs=>_|none=>_)=_;rw [ZEq];exact if_pos Zo) h)
    | (intro Q s hs h;exact ZEQ (S:=SP) (f:=143) (p:=cutP) (r:=[ps (s.takeWhile (· !=47)),ps ((Lib.cut (s.map UInt8.ofNat) [47]).2.1.map UInt8.toNat),pb (ZFI s)]) (by kernel_rfl) (if_pos Zo) (h _))
    | (intro Q ns h1 h2 h;exact ZGn (S:=SP) (f:=133) (p:=ZBA) (by kernel_rfl) (by show (match Zrq (strs ns) with|some xs=>_|none=>_)=_;rw [ZEq];exact if_pos ⟨by omega,ZFD h1 h2⟩) h)
def ZMg:HR SP:=by
 constructor
 all_goals first
    | kernel_rfl
    | skip
 intro Q s c hc hs h0 h1
 have e:ixP [ps s,A.one (.p (.int .u8 (c:Int)))]=some [pi (ixN s c)]:=by
  show (if 0<=(c:Int)/\(c:Int)<256 then some [A.one (.p (.int .i64 (ixN s (c:Int).toNat)))] else none)=_
  rw [if_pos ⟨by omega,by omega⟩,Int.toNat_natCast]
 refine ZEQ (S:=SP) (f:=63) (p:=ixP) (by kernel_rfl) e ?_
 unfold ixN
 by_cases hm:c∈s
 ·rw [List.elem_eq_mem,decide_eq_true hm,if_pos rfl]
  exact h1 hm
 ·rw [List.elem_eq_mem,decide_eq_false hm,if_neg Zd]
  exact h0 hm
def ZMk:HZ SP:=by constructor<;>kernel_rfl
def ZMf:HY SP:=by
 constructor
 all_goals first
    | kernel_rfl
    | skip
 intro Q s hs h
 refine ZEQ (S:=SP) (f:=82) (p:=hasP) (by kernel_rfl) (show (if (123:Nat)<256 then some [A.one (.p (.bool (s.elem 123)))] else none)=some [pb (s.elem 123)] from if_pos Zd) ?_
 rw [List.elem_eq_mem,decide_eq_false hs]
 exact h
def ZMj {src:List Nat} (h1:Byt src):Gives SP ZH0 [ps src] [] fun rs _=>rs=[pb true]:=
 ZJK ZLt ZMa ZMg ZMk ZMf (by kernel_rfl) ZK7 (fun Q m hm hQ=>ZLn (by kernel_rfl) hm Q hQ) (fun Q hQ=>ZKW ZLt ZLa h1 Q fun m ok hm=>hQ m ok hm (fun x hx=>(hm.n.2 x hx).dz) fun x hx=>(hm.f.2 x hx).2.2.2.2.2) rfl
end Go.Am.Fe
end
