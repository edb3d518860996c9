/- Part. -/
import Derived.Test.YtmofclmogldnjaaGreatDoorCac
set_option maxRecDepth 999999
set_option maxHeartbeats 0
set_option linter.all false
section
namespace Go.Am
@[simp] def ZwO:ZeA=68719476736:=rfl
def Zzl (e:Env) (outs:List Nat):Option (List D)->Option Env
 | some ds=>e.sets outs ds
 | none=>none
@[simp] def Zza {e:Env} {outs:List Nat} {ds:List D}:Zzl e outs (some ds)=e.sets outs ds:=rfl
@[simp] def Zxo {F:ZaQ} {k:K} {ins:List Arg} {tk outs:List Nat} {b:Bool} {e:Env}:ZaT F ⟨k,ins,tk,outs,none,b⟩ e=Zzl (ZaA e tk) outs (ZaI F k (ins.map (Zbl e tk))):=by
 simp only [ZaT,doOp,Zzl];split<;>rename_i h<;>rw [h]
def Gd (F:ZaQ) (d:D) (want:Bool) (o:SOp) (e:Env):Option Env:=match d with
 | .a (.one (.p (.bool b)))=>if b==want then doOp F o e else some (ZdW o e)
 | .tup []=>some (ZdW o e)
 | _=>none
@[simp] def Zwi {F:ZaQ} {k:K} {ins:List Arg} {tk outs:List Nat} {b t:Bool} {j:Nat} {e:Env}:ZaT F ⟨k,ins,tk,outs,some (j,t),b⟩ e=Gd F (e.get j) t ⟨k,ins,tk,outs,none,b⟩ e:=rfl
@[simp] def ZDh {F:ZaQ} {t:Bool} {o:SOp} {e:Env}:Gd F (.tup []) t o e=some (ZdW o e):=rfl
@[simp] def ZDr {F:ZaQ} {o:SOp} {e:Env}:Gd F (.a (.one (.p (.bool true)))) true o e=doOp F o e:=rfl
@[simp] def ZDt {F:ZaQ} {o:SOp} {e:Env}:Gd F (.a (.one (.p (.bool false)))) false o e=doOp F o e:=rfl
@[simp] def ZDv {F:ZaQ} {o:SOp} {e:Env}:Gd F (.a (.one (.p (.bool true)))) false o e=some (ZdW o e):=rfl
@[simp] def ZDs {F:ZaQ} {o:SOp} {e:Env}:Gd F (.a (.one (.p (.bool false)))) true o e=some (ZdW o e):=rfl
@[simp] def ZCU {F:ZaQ} {k:K} {ins:List Arg} {tk outs:List Nat} {b:Bool} {e:Env} {g:Option (Nat×Bool)}:doOp F ⟨k,ins,tk,outs,g,b⟩ e=Zzl (ZaA e tk) outs (ZaI F k (ins.map (Zbl e tk))):=by
 simp only [doOp,Zzl];split<;>rename_i h<;>rw [h]
@[simp] def ZAh {k:K} {ins:List Arg} {tk outs:List Nat} {d:Nat} {e:Env} {g:Option (Nat×Bool)}:ZdW ⟨k,ins,tk,d::outs,g,true⟩ e=(d,.tup [])::e:=rfl
@[simp] def ZzE {k:K} {ins:List Arg} {tk outs:List Nat} {e:Env} {g:Option (Nat×Bool)}:ZdW ⟨k,ins,tk,outs,g,false⟩ e=e:=rfl
@[simp] def Env.sets_nil {e:Env}:e.sets [] []=some e:=rfl
@[simp] def Env.sets_cons {e:Env} {k:Nat} {ks:List Nat} {d:D} {ds:List D}:e.sets (k::ks) (d::ds)=Env.sets ((k,d)::e) ks ds:=rfl
@[simp] def Env.get_cons {e:Env} {k k':Nat} {d:D}:Env.get ((k,d)::e) k'=if k=k' then d else Env.get e k':=by
 by_cases h:k=k'<;>simp [Env.get,h]
@[simp] def Env.get_nil {k:Nat}:Env.get [] k= .undef:=rfl
@[simp] def Zwo {e:Env}:ZaA e []=e:=rfl
@[simp] def Zvi {e:Env} {k:Nat} {ks:List Nat}:ZaA e (k::ks)=ZaA ((k,(e.get k).plain)::e) ks:=rfl
@[simp] def ZCJ {e:Env} {tk:List Nat} {n:Nat}:Zbl e tk (.k n)=if tk.elem n then e.get n else (e.get n).plain:=rfl
@[simp] def ZCE {e:Env} {tk:List Nat} {c:C}:Zbl e tk (.c c)= .a (.one c):=rfl
@[simp] def D.plain_a {x:A}:D.plain (.a x)= .a x.plain:=rfl
@[simp] def D.plain_tup {xs:List A}:D.plain (.tup xs)= .tup (xs.map A.plain):=rfl
@[simp] def D.plain_objs {os:List (List C)}:D.plain (.objs os)= .objs os:=rfl
@[simp] def D.plain_undef:D.plain .undef= .undef:=rfl
@[simp] def A.plain_one {c:C}:A.plain (.one c)= .one c.plain:=rfl
@[simp] def A.plain_agg {cs:List C}:A.plain (.agg cs)= .agg (cs.map C.plain):=rfl
@[simp] def C.plain_p {x:P}:C.plain (.p x)= .p x:=rfl
@[simp] def C.plain_tip {s:Nat} {r:List (List P)}:C.plain (.tip s r)= .p (.sl s r):=rfl
@[simp] def C.plain_ref {r:R}:C.plain (.ref r)= .ref r:=rfl
@[simp] def C.plain_view {r:List P} {o:Nat}:C.plain (.view r o)= .view r o:=rfl
@[simp] def C.plain_clo {f:Nat} {x y:List R}:C.plain (.clo f x y)= .clo f x y:=rfl
@[simp] def C.plain_nilp:C.plain .nilp= .nilp:=rfl
@[simp] def C.plain_uniq {s:Nat} {r:List (List P)}:C.plain (.uniq s r)= .hdr r.length:=rfl
@[simp] def C.plain_map {r:R} {es:List (P×P)}:C.plain (.map r es)= .mptr r:=rfl
@[simp] def C.plain_mptr {r:R}:C.plain (.mptr r)= .mptr r:=rfl
@[simp] def C.plain_own {r:R} {s n:Nat}:C.plain (.own r s n)= .own r s n:=rfl
@[simp] def C.plain_hdr {n:Nat}:C.plain (.hdr n)= .hdr n:=rfl
@[simp] def C.plain_junk:C.plain .junk= .junk:=rfl
@[simp] def C.plain_comp:C.plain∘C.p=C.p:=rfl
@[simp] def A.cells_one {c:C}:A.cells (.one c)=[c]:=rfl
@[simp] def A.cells_agg {cs:List C}:A.cells (.agg cs)=cs:=rfl
@[simp] def C.rows_p {s:Nat} {r:List (List P)}:C.rows (.p (.sl s r))=some (s,r):=rfl
@[simp] def C.rows_tip {s:Nat} {r:List (List P)}:C.rows (.tip s r)=some (s,r):=rfl
@[simp] def C.toP_p {x:P}:C.toP (.p x)=some x:=rfl
@[simp] def C.toP_tip {s:Nat} {r:List (List P)}:C.toP (.tip s r)=some (.sl s r):=rfl
@[simp] def ZBE:toPs []=some []:=rfl
@[simp] def Zwm {x:P} {r:List C}:toPs (.p x::r)=(toPs r).map (x:: ·):=by
 simp only [toPs,C.toP];cases toPs r<;>rfl
@[simp] def Zv9 {l:List P}:toPs (l.map C.p)=some l:=by
 induction l with
 | nil=>rfl
 | cons x r ih=>simp [ih]
@[simp] def ZxD:Zgu []=some []:=rfl
@[simp] theorem Zxv {x:A} {r:List D}:Zgu (.a x::r)=match toPs x.cells,Zgu r with|some row,some rows=>some (row::rows)|_,_=>none:=rfl
section
variable {F:ZaQ}
@[simp] def ZAq {x:D}:ZaI F .mov [x]=some [x]:=rfl
@[simp] def ZyD {b:Bool} {x y:D}:ZaI F .pick [.a (.one (.p (.bool b))),x,y]=some [if b then x else y]:=rfl
@[simp] def Zxu {κ:Nat} {z:List C}:ZaI F (.alloc κ z) []=some [.a (.one (.ref ⟨true,κ,0⟩)),.a (.agg z)]:=rfl
@[simp] def ZzP {κ:Nat} {x:A}:ZaI F (.box κ) [.a x]=some [.a (.one (.ref ⟨true,κ,0⟩)),.a (.agg x.cells)]:=rfl
def bldV:Option (List C)->Option (List D)
 | some cs=>some [.a (.agg cs)]
 | none=>none
@[simp] def ZzY {cs:List C}:bldV (some cs)=some [.a (.agg cs)]:=rfl
@[simp] def Zxi {z:List C} {offs:List (Nat×Nat)} {xs:List D}:ZaI F (.build z offs) xs=bldV (Ze4 z offs xs):=by
 simp only [ZaI,Zi4,bldV];split<;>rename_i h<;>rw [h]
@[simp] def Zy9 {z:List C}:Ze4 z [] []=some z:=rfl
def ZBw (os:List (Nat×Nat)) (r:List D):Option (List C)->Option (List C)
 | some z=>Ze4 z os r
 | none=>none
@[simp] def Zyi {os:List (Nat×Nat)} {r:List D} {z:List C}:ZBw os r (some z)=Ze4 z os r:=rfl
@[simp] def Zxp {z:List C} {o n:Nat} {os:List (Nat×Nat)} {x:A} {r:List D}:Ze4 z ((o,n)::os) (.a x::r)=if x.cells.length=n then ZBw os r (put z o x.cells) else none:=by
 simp only [Ze4,ZBw];split<;>rfl
@[simp] def ZC5 {l xs:List C} {off:Nat}:put l off xs=if off+xs.length<=l.length then some (l.take off++xs++l.drop (off+xs.length)) else none:=rfl
def ldV (n:Option Nat):Option (List C)->Option A
 | some xs=>ZsS n xs
 | none=>none
@[simp] def ZBF {c:C}:ldV none (some [c])=some (.one c):=rfl
@[simp] def ZBe {m:Nat} {cs:List C}:ldV (some m) (some cs)=some (.agg cs):=rfl
def oneV:Option A->Option (List D)
 | some x=>some [.a x]
 | none=>none
@[simp] def Zz5 {x:A}:oneV (some x)=some [.a x]:=rfl
@[simp] def Zyg {n:Option Nat} {row:List P} {off:Nat}:ZaI F (.load n) [.a (.one (.view row off))]=oneV (ldV n ((cut row off (Zfl n)).map fun xs=>xs.map .p)):=by
 simp only [ZaI,Zof];cases cut row off (Zfl n) with
 | none=>rfl
 | some xs=>simp only [YN,ldV,oneV];cases ZsS n (xs.map C.p)<;>rfl
@[simp] def ZDp {α:Type} {l:List α} {off n:Nat}:cut l off n=if off+n<=l.length then some ((l.drop off).take n) else none:=rfl
@[simp] def ZyS:Zfl none=1:=rfl
@[simp] def ZyI {n:Nat}:Zfl (some n)=n:=rfl
@[simp] def Zxr {n:Option Nat} {cs:List C} {off:Nat}:ZbK n cs off=ldV n (cut cs off (Zfl n)):=by
 simp only [ZbK];cases cut cs off (Zfl n)<;>rfl
@[simp] def Zwx {n:Option Nat} {cs:List C} {off:Nat}:ZbQ n cs off=cs.take off++((cs.drop off).take (Zfl n)).map C.plain++cs.drop (off+Zfl n):=rfl
@[simp] def Zxs {κ off:Nat} {n:Option Nat} {cs:List C}:ZaI F (.loadB κ n) [.a (.one (.ref ⟨true,κ,off⟩)),.a (.agg cs)]=oneV ((ZbK n cs off).map A.plain):=by
 simp only [ZaI,ZkR,beq_self_eq_true,if_true];cases ZbK n cs off<;>rfl
@[simp] def Zwj {κ off:Nat} {n:Option Nat} {cs:List C}:ZaI F (.loadBT κ n) [.a (.one (.ref ⟨true,κ,off⟩)),.a (.agg cs)]=(ZbK n cs off).map fun x=>[.a x,.a (.agg (ZbQ n cs off))]:=by
 simp only [ZaI,ZiZ,beq_self_eq_true,if_true];cases ZbK n cs off<;>rfl
def objV:Option (List C)->Nat->Option Nat->Option A
 | some cs,off,n=>ZbK n cs off
 | none,_,_=>none
@[simp] def ZAt {cs:List C} {off:Nat} {n:Option Nat}:objV (some cs) off n=ZbK n cs off:=rfl
@[simp] def ZwZ {k off:Nat} {n:Option Nat} {os:List (List C)}:ZaI F (.loadO n) [.a (.one (.ref ⟨false,k,off⟩)),.objs os]=oneV ((objV os[k]? off n).map A.plain):=by
 simp only [ZaI,Zk6];cases h:os[k]? with
 | none=>rfl
 | some cs=>simp only [objV];cases ZbK n cs off<;>rfl
def aggV:Option (List C)->Option (List D)
 | some cs=>some [.a (.agg cs)]
 | none=>none
@[simp] def ZAy {cs:List C}:aggV (some cs)=some [.a (.agg cs)]:=rfl
@[simp] def Zvk {κ n off:Nat} {x:A} {cs:List C}:ZaI F (.storeB κ n) [.a (.one (.ref ⟨true,κ,off⟩)),.a x,.a (.agg cs)]=if x.cells.length=n then aggV (put cs off x.cells) else none:=by
 simp only [ZaI,ZiJ,beq_self_eq_true,Bool.true_and,beq_iff_eq,aggV];split<;>rfl
def objS (os:List (List C)) (k off:Nat) (xs:List C):Option (List C)->Option (List D)
 | some cs=>(put cs off xs).map fun cs'=>[.objs (os.set k cs')]
 | none=>none
@[simp] def ZzQ {os:List (List C)} {k off:Nat} {xs cs:List C}:objS os k off xs (some cs)=(put cs off xs).map fun cs'=>[.objs (os.set k cs')]:=rfl
@[simp] def ZvH {n k off:Nat} {x:A} {os:List (List C)}:ZaI F (.storeO n) [.a (.one (.ref ⟨false,k,off⟩)),.a x,.objs os]=if x.cells.length=n then objS os k off x.cells os[k]? else none:=by
 simp only [ZaI,Zit,beq_iff_eq];split
 ·cases os[k]? with
  | none=>rfl
  | some cs=>simp only [objS];cases put cs off x.cells<;>rfl
 ·rfl
@[simp] def Zww {r:R}:ZaI F .nilCheck [.a (.one (.ref r))]=some [.a (.one (.ref r))]:=rfl
@[simp] def Zvq {r:List P} {o:Nat}:ZaI F .nilCheck [.a (.one (.view r o))]=some [.a (.one (.view r o))]:=rfl
@[simp] def ZuD {r:R} {o:Nat}:ZaI F (.fieldAddr o) [.a (.one (.ref r))]=some [.a (.one (.ref ⟨r.own,r.k,r.off+o⟩))]:=rfl
@[simp] def ZtE {r:List P} {o o':Nat}:ZaI F (.fieldAddr o) [.a (.one (.view r o'))]=some [.a (.one (.view r (o'+o)))]:=rfl
def ixV:Option (List P)->Option (List D)
 | some row=>some [.a (.one (.view row 0))]
 | none=>none
@[simp] def ZAS {row:List P}:ixV (some row)=some [.a (.one (.view row 0))]:=rfl
@[simp] def Zvo {s s':Nat} {rows:List (List P)} {n:Int}:ZaI F (.indexAddr s) [.a (.one (.p (.sl s' rows))),.a (.one (.p (.int .i64 n)))]=if s'=s/\0<=n then ixV rows[n.toNat]? else none:=by
 simp only [ZaI,ZeU,C.rows_p,ixV];split<;>rfl
@[simp] def ZvL {s s' m:Nat} {r:R} {n:Int}:ZaI F (.indexAddr s) [.a (.one (.own r s' m)),.a (.one (.p (.int .i64 n)))]=if s'=s/\0<=n/\n<m then some [.a (.one (.ref ⟨r.own,r.k,r.off+n.toNat*s⟩))] else none:=rfl
@[simp] def ZxJ {s m:Nat} {r:R}:ZaI F .len [.a (.one (.own r s m))]=some [.a (.one (.p (.int .i64 m)))]:=rfl
@[simp] def Zy7 {m:Nat}:ZaI F .len [.a (.one (.hdr m))]=some [.a (.one (.p (.int .i64 m)))]:=rfl
@[simp] def Zt1 {s s' s'':Nat} {rows more:List (List P)}:ZaI F (.appendU s) [.a (.one (.uniq s' rows)),.a (.one (.tip s'' more))]=if s'=s/\s''=s/\rows.length+more.length<ZeA then some [.a (.one (.uniq s (rows++more)))] else none:=rfl
@[simp] def Zup {s s' s'':Nat} {rows more:List (List P)}:ZaI F (.appendU s) [.a (.one (.uniq s' rows)),.a (.one (.p (.sl s'' more)))]=if s'=s/\s''=s/\rows.length+more.length<ZeA then some [.a (.one (.uniq s (rows++more)))] else none:=rfl
@[simp] def ZwU {s s':Nat} {rows:List (List P)} {h:Int}:ZaI F (.sliceU s) [.a (.one (.uniq s' rows)),.a (.one (.p (.int .i64 h)))]=if s'=s/\0<=h/\h<=rows.length then some [.a (.one (.uniq s (rows.take h.toNat)))] else none:=rfl
@[simp] def ZtB {s:Nat} {z:List P} {n m:Int}:ZaI F (.makeSliceZ s z) [.a (.one (.p (.int .i64 n))),.a (.one (.p (.int .i64 m)))]=if n=m/\0<=n/\n<ZeA/\z.length=s then some [.a (.one (.uniq s (List.replicate n.toNat z)))] else none:=rfl
@[simp] def Zg2 {s:Nat} {n:Int}:ZaI F (.makeSlice s) [.a (.one (.p (.int .i64 0))),.a (.one (.p (.int .i64 n)))]=if 0<=n/\n<ZeA then some [.a (.one (.tip s []))] else none:=rfl
def chV:Option Nat->Option (List D)
 | some b=>some [one (.int .u8 b)]
 | none=>none
@[simp] def ZBX {b:Nat}:chV (some b)=some [one (.int .u8 b)]:=rfl
@[simp] def ZC7 {x:P}:one x= .a (.one (.p x)):=rfl
@[simp] def Zvy {t:List Nat} {n:Int}:ZaI F .indexS [.a (.one (.p (.str t))),.a (.one (.p (.int .i64 n)))]=if 0<=n then chV t[n.toNat]? else none:=by
 simp only [ZaI,ZiQ,chV];split<;>rfl
def pV:Option P->Option (List D)
 | some x=>some [one x]
 | none=>none
@[simp] def ZCH {x:P}:pV (some x)=some [.a (.one (.p x))]:=rfl
@[simp] def ZzJ {op:BinOp} {x y:P}:ZaI F (.bin op) [.a (.one (.p x)),.a (.one (.p y))]=pV (pBin op x y):=by
 simp only [ZaI,ZrW,pV];split<;>rename_i h<;>rw [h]
@[simp] def ZB7 {op:BinOp} {k:IntKind} {x y:Int}:pBin op (.int k x) (.int k y)=ZfP op k x y:=by simp [pBin]
@[simp] def ZBY {op:BinOp} {x y:List Nat}:pBin op (.str x) (.str y)=Zl4 op x y:=rfl
@[simp] def ZyU {k:IntKind} {x y:Int}:ZfP .add k x y=some (.int k (k.wrap (x+y))):=rfl
@[simp] def ZyF {k:IntKind} {x y:Int}:ZfP .sub k x y=some (.int k (k.wrap (x-y))):=rfl
@[simp] def ZyC {k:IntKind} {x y:Int}:ZfP .mul k x y=some (.int k (k.wrap (x*y))):=rfl
@[simp] def Zzu {k:IntKind} {x y:Int}:ZfP .quo k x y=if y=0 then none else some (.int k (k.wrap (x.tdiv y))):=rfl
@[simp] def Zyx {k:IntKind} {x y:Int}:ZfP .rem k x y=if y=0 then none else some (.int k (x.tmod y)):=rfl
@[simp] def Zya {k:IntKind} {x y:Int}:ZfP .eql k x y=some (.bool (decide (x=y))):=rfl
@[simp] def Zyd {k:IntKind} {x y:Int}:ZfP .neq k x y=some (.bool (!decide (x=y))):=rfl
@[simp] def Zzx {k:IntKind} {x y:Int}:ZfP .lss k x y=some (.bool (decide (x<y))):=rfl
@[simp] def ZxR {k:IntKind} {x y:Int}:ZfP .leq k x y=some (.bool (decide (x<=y))):=rfl
@[simp] def ZyT {k:IntKind} {x y:Int}:ZfP .gtr k x y=some (.bool (decide (y<x))):=rfl
@[simp] def Zyo {k:IntKind} {x y:Int}:ZfP .geq k x y=some (.bool (decide (y<=x))):=rfl
def Zrf: ∀(x y:List Nat),eqS x y=decide (x=y)
 | [],[]=>by simp [eqS]
 | [],_::_=>by simp [eqS]
 | _::_,[]=>by simp [eqS]
 | a::x,b::y=>by simp only [eqS,Zrf x y,Yf];by_cases h:a=b<;>simp [h]
@[simp] def ZxQ {x y:List Nat}:Zl4 .eql x y=some (.bool (decide (x=y))):=by simp [Zl4,Zrf]
@[simp] def Zxt {x y:List Nat}:Zl4 .neq x y=some (.bool (!decide (x=y))):=by simp [Zl4,Zrf]
@[simp] def Zyh {x y:List Nat}:Zl4 .add x y=if x.length+y.length<ZeA then some (.str (x++y)) else none:=rfl
@[simp] def ZzD {x y:Bool}:ZaI F (.binB .eql) [.a (.one (.p (.bool x))),.a (.one (.p (.bool y)))]=some [.a (.one (.p (.bool (x==y))))]:=rfl
@[simp] def Zx6 {x y:Bool}:ZaI F (.binB .neq) [.a (.one (.p (.bool x))),.a (.one (.p (.bool y)))]=some [.a (.one (.p (.bool (x !=y))))]:=rfl
@[simp] def ZAw {b:Bool}:ZaI F .not [.a (.one (.p (.bool b)))]=some [.a (.one (.p (.bool (!b))))]:=rfl
@[simp] def ZzS {k:IntKind} {n:Int}:ZaI F .neg [.a (.one (.p (.int k n)))]=some [.a (.one (.p (.int k (k.wrap (0-n)))))]:=rfl
@[simp] def Zzi {k k':IntKind} {n:Int}:ZaI F (.conv k) [.a (.one (.p (.int k' n)))]=some [.a (.one (.p (.int k (k.wrap n))))]:=rfl
def ZCf:Option (List (List P))->Nat->Option (List D)
 | some rows,s=>if rows.all (fun r=>r.length==s) then some [.a (.one (.tip s rows))] else none
 | none,_=>none
@[simp] def Zy2 {rows:List (List P)} {s:Nat}:ZCf (some rows) s=if rows.all (fun r=>r.length==s) then some [.a (.one (.tip s rows))] else none:=rfl
@[simp] def Zd2 {s:Nat} {xs:List D}:ZaI F (.buildSlice s) xs=ZCf (Zgu xs) s:=by
 simp only [ZaI,ZdT,ZCf];split<;>rename_i h<;>rw [h]
@[simp] def ZjT {s s' s'':Nat} {rows more:List (List P)}:ZaI F (.append s) [.a (.one (.tip s' rows)),.a (.one (.tip s'' more))]=if s'=s/\s''=s/\rows.length+more.length<ZeA then some [.a (.one (.tip s (rows++more)))] else none:=by
 simp only [ZaI,Zg6,C.rows_tip]
@[simp] def ZnT {s s' s'':Nat} {rows more:List (List P)}:ZaI F (.append s) [.a (.one (.tip s' rows)),.a (.one (.p (.sl s'' more)))]=if s'=s/\s''=s/\rows.length+more.length<ZeA then some [.a (.one (.tip s (rows++more)))] else none:=by
 simp only [ZaI,Zg6,C.rows_p]
@[simp] def Zzp {t:List Nat}:ZaI F .lenS [.a (.one (.p (.str t)))]=some [.a (.one (.p (.int .i64 t.length)))]:=rfl
@[simp] def ZyB {s:Nat} {rows:List (List P)}:ZaI F .len [.a (.one (.p (.sl s rows)))]=some [.a (.one (.p (.int .i64 rows.length)))]:=rfl
@[simp] def ZxN {s:Nat} {rows:List (List P)}:ZaI F .len [.a (.one (.tip s rows))]=some [.a (.one (.p (.int .i64 rows.length)))]:=rfl
@[simp] def ZAj {k:IntKind} {x y:Int}:ZaI F .min2 [.a (.one (.p (.int k x))),.a (.one (.p (.int k y)))]=some [.a (.one (.p (.int k (if y<x then y else x))))]:=by simp [ZaI,Zst]
@[simp] def ZAl {k:IntKind} {x y:Int}:ZaI F .max2 [.a (.one (.p (.int k x))),.a (.one (.p (.int k y)))]=some [.a (.one (.p (.int k (if y>x then y else x))))]:=by simp [ZaI,Zsx]
def slV (s:Nat) (rows:List (List P)):Option (Nat×Nat×List D)->Option (List D)
 | some (l,h,[])=>some [one (.sl s ((rows.take h).drop l))]
 | _=>none
@[simp] def ZCc {s:Nat} {rows:List (List P)} {l h:Nat}:slV s rows (some (l,h,[]))=some [.a (.one (.p (.sl s ((rows.take h).drop l))))]:=rfl
def Zdz {s s':Nat} {lo hi:Bool} {c:C} {rows:List (List P)} {r:List D} (hc:c.rows=some (s',rows)):Zh5 s lo hi false (.a (.one c)::r)=if s'=s then slV s rows (ZbX lo hi rows.length r) else none:=by
 simp only [Zh5,hc];split
 ·split
  ·rename_i h;rw [h];rfl
  ·rename_i h;rw [h];simp [slV]
  ·rename_i h1 h2;unfold slV;split
   ·rename_i l h hh;exact absurd hh (h1 _ _)
   ·rfl
 ·rfl
@[simp] def Zvs {s s':Nat} {lo hi:Bool} {rows:List (List P)} {r:List D}:ZaI F (.slice s lo hi false) (.a (.one (.p (.sl s' rows)))::r)=if s'=s then slV s rows (ZbX lo hi rows.length r) else none:=Zdz (c:= .p (.sl s' rows)) rfl
def ssV (t:List Nat):Option (Nat×Nat×List D)->Option (List D)
 | some (l,h,[])=>some [one (.str ((t.take h).drop l))]
 | _=>none
@[simp] def ZBT {t:List Nat} {l h:Nat}:ssV t (some (l,h,[]))=some [.a (.one (.p (.str ((t.take h).drop l))))]:=rfl
@[simp] def Zv7 {lo hi:Bool} {t:List Nat} {r:List D}:ZaI F (.sliceS lo hi) (.a (.one (.p (.str t)))::r)=ssV t (ZbX lo hi t.length r):=rfl
@[simp] def ZAz {n:Nat} {i:Int} {r:List D}:ZbX true false n (.a (.one (.p (.int .i64 i)))::r)=if 0<=i/\i<=n then some (i.toNat,n,r) else none:=by
 simp only [ZbX,Zme,if_true];by_cases h:0<=i
 ·have:(i.toNat<=n/\n<=n)↔(0<=i/\i<=n):=by omega
  simp only [h,if_true,Yw,if_false,this]
 ·simp [h]
@[simp] def ZzO {n:Nat} {i j:Int} {r:List D}:ZbX true true n (.a (.one (.p (.int .i64 i))):: .a (.one (.p (.int .i64 j)))::r)=if 0<=i/\i<=j/\j<=n then some (i.toNat,j.toNat,r) else none:=by
 simp only [ZbX,Zme,if_true];by_cases h:0<=i
 ·by_cases h':0<=j
  ·have:(i.toNat<=j.toNat/\j.toNat<=n)↔(0<=i/\i<=j/\j<=n):=by omega
   simp only [h,h',if_true,this]
  ·have: ¬(0<=i/\i<=j/\j<=n):=by omega
   simp only [h,h',this,if_true,if_false];rw [if_neg (fun hh=>this ⟨h,hh.2⟩)]
 ·simp [h]
def bsV:Option (List Nat)->Option (List D)
 | some t=>some [one (.str t)]
 | none=>none
@[simp] def ZBd {t:List Nat}:bsV (some t)=some [.a (.one (.p (.str t)))]:=rfl
@[simp] def ZrG {rows:List (List P)}:ZaI F .convBS [.a (.one (.p (.sl 1 rows)))]=bsV (ZhC rows):=by
 simp only [ZaI,ZiX,C.rows_p,bsV];split<;>rename_i h<;>rw [h]
def refV (f first:Nat):Option (List R)->Option (List D)
 | some rs=>some [.a (.one (.clo f (rs.take first) (rs.drop first)))]
 | none=>none
@[simp] def ZAn {f first:Nat} {rs:List R}:refV f first (some rs)=some [.a (.one (.clo f (rs.take first) (rs.drop first)))]:=rfl
@[simp] def Zjo {f first:Nat} {xs:List D}:ZaI F (.makeFunc f first) xs=refV f first (Zfq xs):=by
 simp only [ZaI,Zhf,refV];split<;>rename_i h<;>rw [h]
@[simp] def Zzy:Zfq []=some []:=rfl
@[simp] def Zwt {r:R} {l:List D}:Zfq (.a (.one (.ref r))::l)=(Zfq l).map (r:: ·):=by
 simp only [Zfq];cases Zfq l<;>rfl
@[simp] def ZrN {i:Nat} {xs:List A}:ZaI F (.extract i) [.tup xs]=oneV xs[i]? :=by
 simp only [ZaI,ZfI,oneV];split<;>rename_i h<;>rw [h]
end
end Go.Am
end
