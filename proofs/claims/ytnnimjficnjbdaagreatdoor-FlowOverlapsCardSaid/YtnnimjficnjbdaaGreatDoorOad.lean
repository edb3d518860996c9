/- Part. -/
import Derived.Test.YtnnimjficnjbdaaGreatDoorOac
set_option maxRecDepth 999999
set_option maxHeartbeats 0
set_option linter.all false
section
namespace Go.Am
@[simp] theorem ZwO:ZeA=68719476736:=rfl
def Zzl (e:Env) (outs:List Nat):Option (List D)->Option Env
 | some ds=>e.sets outs ds
 | none=>none
@[simp] theorem Zza {e:Env} {outs:List Nat} {ds:List D}:Zzl e outs (some ds)=e.sets outs ds:=rfl
@[simp] theorem Zxo {F:ZaQ} {k:K} {ins:List Arg} {tk outs:List Nat} {b:Bool} {e:Env}:ZaT F ⟨k,ins,tk,outs,none,b⟩ e=Zzl (ZaA e tk) outs (ZaI F k (ins.map (Zbl e tk))):=by
 simp only [ZaT,doOp,Zzl]
 split<;>rename_i h<;>rw [h]
def Gd (F:ZaQ) (d:D) (want:Bool) (o:SOp) (e:Env):Option Env:=match d with
 | .a (.one (.p (.bool b)))=>if b==want then doOp F o e else some (ZdW o e)
 | .tup []=>some (ZdW o e)
 | _=>none
@[simp] theorem Zwi {F:ZaQ} {k:K} {ins:List Arg} {tk outs:List Nat} {b t:Bool} {j:Nat} {e:Env}:ZaT F ⟨k,ins,tk,outs,some (j,t),b⟩ e=Gd F (e.get j) t ⟨k,ins,tk,outs,none,b⟩ e:=rfl
@[simp] theorem ZDh {F:ZaQ} {t:Bool} {o:SOp} {e:Env}:Gd F (.tup []) t o e=some (ZdW o e):=rfl
@[simp] theorem ZDr {F:ZaQ} {o:SOp} {e:Env}:Gd F (.a (.one (.p (.bool true)))) true o e=doOp F o e:=rfl
@[simp] theorem ZDt {F:ZaQ} {o:SOp} {e:Env}:Gd F (.a (.one (.p (.bool false)))) false o e=doOp F o e:=rfl
@[simp] theorem ZDv {F:ZaQ} {o:SOp} {e:Env}:Gd F (.a (.one (.p (.bool true)))) false o e=some (ZdW o e):=rfl
@[simp] theorem ZDs {F:ZaQ} {o:SOp} {e:Env}:Gd F (.a (.one (.p (.bool false)))) true o e=some (ZdW o e):=rfl
@[simp] theorem ZCU {F:ZaQ} {k:K} {ins:List Arg} {tk outs:List Nat} {b:Bool} {e:Env} {g:Option (Nat×Bool)}:doOp F ⟨k,ins,tk,outs,g,b⟩ e=Zzl (ZaA e tk) outs (ZaI F k (ins.map (Zbl e tk))):=by
 simp only [doOp,Zzl]
 split<;>rename_i h<;>rw [h]
@[simp] theorem ZAh {k:K} {ins:List Arg} {tk outs:List Nat} {d:Nat} {e:Env} {g:Option (Nat×Bool)}:ZdW ⟨k,ins,tk,d::outs,g,true⟩ e=(d,.tup [])::e:=rfl
@[simp] theorem ZzE {k:K} {ins:List Arg} {tk outs:List Nat} {e:Env} {g:Option (Nat×Bool)}:ZdW ⟨k,ins,tk,outs,g,false⟩ e=e:=rfl
@[simp] theorem Env.sets_nil {e:Env}:e.sets [] []=some e:=rfl
@[simp] theorem Env.sets_cons {e:Env} {k:Nat} {ks:List Nat} {d:D} {ds:List D}:e.sets (k::ks) (d::ds)=Env.sets ((k,d)::e) ks ds:=rfl
@[simp] theorem Env.get_cons {e:Env} {k k':Nat} {d:D}:Env.get ((k,d)::e) k'=if k=k' then d else Env.get e k':=by
 by_cases h:k=k'<;>simp [Env.get,h]
@[simp] theorem Env.get_nil {k:Nat}:Env.get [] k= .undef:=rfl
@[simp] theorem Zwo {e:Env}:ZaA e []=e:=rfl
@[simp] theorem Zvi {e:Env} {k:Nat} {ks:List Nat}:ZaA e (k::ks)=ZaA ((k,(e.get k).plain)::e) ks:=rfl
@[simp] theorem ZCJ {e:Env} {tk:List Nat} {n:Nat}:Zbl e tk (.k n)=if tk.elem n then e.get n else (e.get n).plain:=rfl
@[simp] theorem ZCE {e:Env} {tk:List Nat} {c:C}:Zbl e tk (.c c)= .a (.one c):=rfl
@[simp] theorem D.plain_a {x:A}:D.plain (.a x)= .a x.plain:=rfl
@[simp] theorem D.plain_tup {xs:List A}:D.plain (.tup xs)= .tup (xs.map A.plain):=rfl
@[simp] theorem D.plain_objs {os:List (List C)}:D.plain (.objs os)= .objs os:=rfl
@[simp] theorem D.plain_undef:D.plain .undef= .undef:=rfl
@[simp] theorem A.plain_one {c:C}:A.plain (.one c)= .one c.plain:=rfl
@[simp] theorem A.plain_agg {cs:List C}:A.plain (.agg cs)= .agg (cs.map C.plain):=rfl
@[simp] theorem C.plain_p {x:P}:C.plain (.p x)= .p x:=rfl
@[simp] theorem C.plain_tip {s:Nat} {r:List (List P)}:C.plain (.tip s r)= .p (.sl s r):=rfl
@[simp] theorem C.plain_ref {r:R}:C.plain (.ref r)= .ref r:=rfl
@[simp] theorem C.plain_view {r:List P} {o:Nat}:C.plain (.view r o)= .view r o:=rfl
@[simp] theorem C.plain_clo {f:Nat} {x y:List R}:C.plain (.clo f x y)= .clo f x y:=rfl
@[simp] theorem C.plain_nilp:C.plain .nilp= .nilp:=rfl
@[simp] theorem C.plain_uniq {s:Nat} {r:List (List P)}:C.plain (.uniq s r)= .hdr r.length:=rfl
@[simp] theorem C.plain_map {r:R} {es:List (P×P)}:C.plain (.map r es)= .mptr r:=rfl
@[simp] theorem C.plain_mptr {r:R}:C.plain (.mptr r)= .mptr r:=rfl
@[simp] theorem C.plain_closs {f:Nat} {r:R}:C.plain (.closs f r)= .closs f r:=rfl
@[simp] theorem C.plain_own {r:R} {s n:Nat}:C.plain (.own r s n)= .own r s n:=rfl
@[simp] theorem C.plain_hdr {n:Nat}:C.plain (.hdr n)= .hdr n:=rfl
@[simp] theorem C.plain_junk:C.plain .junk= .junk:=rfl
@[simp] theorem C.plain_bytes {e:Nat} {t:List Nat}:C.plain (.bytes e t)= .hdr t.length:=rfl
@[simp] theorem C.plain_mapc {es:List (MV×MV)}:C.plain (.mapc es)= .mapc es:=rfl
@[simp] theorem C.plain_mapl {es:List (Int×MV)}:C.plain (.mapl es)= .mapl es:=rfl
@[simp] theorem C.plain_comp:C.plain∘C.p=C.p:=rfl
@[simp] theorem A.cells_one {c:C}:A.cells (.one c)=[c]:=rfl
@[simp] theorem A.cells_agg {cs:List C}:A.cells (.agg cs)=cs:=rfl
@[simp] theorem C.rows_p {s:Nat} {r:List (List P)}:C.rows (.p (.sl s r))=some (s,r):=rfl
@[simp] theorem C.rows_tip {s:Nat} {r:List (List P)}:C.rows (.tip s r)=some (s,r):=rfl
@[simp] theorem C.toP_p {x:P}:C.toP (.p x)=some x:=rfl
@[simp] theorem C.toP_tip {s:Nat} {r:List (List P)}:C.toP (.tip s r)=some (.sl s r):=rfl
@[simp] theorem ZBE:toPs []=some []:=rfl
@[simp] theorem Zwm {x:P} {r:List C}:toPs (.p x::r)=(toPs r).map (x:: ·):=by
 simp only [toPs,C.toP];cases toPs r<;>rfl
@[simp] theorem ZxD:Zgu []=some []:=rfl
@[simp] theorem Zxv {x:A} {r:List D}:Zgu (.a x::r)=match toPs x.cells,Zgu r with|some row,some rows=>some (row::rows)|_,_=>none:=rfl
section
variable {F:ZaQ}
@[simp] theorem ZAq {x:D}:ZaI F .mov [x]=some [x]:=rfl
@[simp] theorem ZyD {b:Bool} {x y:D}:ZaI F .pick [.a (.one (.p (.bool b))),x,y]=some [if b then x else y]:=rfl
@[simp] theorem Zxu {κ:Nat} {z:List C}:ZaI F (.alloc κ z) []=some [.a (.one (.ref ⟨true,κ,0⟩)),.a (.agg z)]:=rfl
@[simp] theorem ZzP {κ:Nat} {x:A}:ZaI F (.box κ) [.a x]=some [.a (.one (.ref ⟨true,κ,0⟩)),.a (.agg x.cells)]:=rfl
def bldV:Option (List C)->Option (List D)
 | some cs=>some [.a (.agg cs)]
 | none=>none
@[simp] theorem ZzY {cs:List C}:bldV (some cs)=some [.a (.agg cs)]:=rfl
@[simp] theorem Zy9 {z:List C}:Ze4 z [] []=some z:=rfl
def ZBw (os:List (Nat×Nat)) (r:List D):Option (List C)->Option (List C)
 | some z=>Ze4 z os r
 | none=>none
@[simp] theorem Zyi {os:List (Nat×Nat)} {r:List D} {z:List C}:ZBw os r (some z)=Ze4 z os r:=rfl
@[simp] theorem ZC5 {l xs:List C} {off:Nat}:put l off xs=if off+xs.length<=l.length then some (l.take off++xs++l.drop (off+xs.length)) else none:=rfl
def ldV (n:Option Nat):Option (List C)->Option A
 | some xs=>ZsS n xs
 | none=>none
@[simp] theorem ZBF {c:C}:ldV none (some [c])=some (.one c):=rfl
@[simp] theorem ZBe {m:Nat} {cs:List C}:ldV (some m) (some cs)=some (.agg cs):=rfl
def oneV:Option A->Option (List D)
 | some x=>some [.a x]
 | none=>none
@[simp] theorem Zz5 {x:A}:oneV (some x)=some [.a x]:=rfl
@[simp] theorem Zyg {n:Option Nat} {row:List P} {off:Nat}:ZaI F (.load n) [.a (.one (.view row off))]=oneV (ldV n ((cut row off (Zfl n)).map fun xs=>xs.map .p)):=by
 simp only [ZaI,Zof]
 cases cut row off (Zfl n) with
 | none=>rfl
 | some xs=>simp only [Option.map_some,ldV,oneV];cases ZsS n (xs.map C.p)<;>rfl
@[simp] theorem ZDp {α:Type} {l:List α} {off n:Nat}:cut l off n=if off+n<=l.length then some ((l.drop off).take n) else none:=rfl
@[simp] theorem ZyS:Zfl none=1:=rfl
@[simp] theorem ZyI {n:Nat}:Zfl (some n)=n:=rfl
@[simp] theorem ZQ8 {α:Type} {x:Option α}:notM [] x=x:=rfl
@[simp] theorem ZQQ {α:Type} {c d:C} {l:List C} {x:Option α}:notM (c::d::l) x=x:=by cases c<;>rfl
@[simp] theorem ZRZ {α:Type} {y:P} {x:Option α}:notM [.p y] x=x:=rfl
@[simp] theorem ZQP {α:Type} {s:Nat} {r:List (List P)} {x:Option α}:notM [.tip s r] x=x:=rfl
@[simp] theorem ZQ4 {α:Type} {r:R} {x:Option α}:notM [.ref r] x=x:=rfl
@[simp] theorem ZQi {α:Type} {r:List P} {o:Nat} {x:Option α}:notM [.view r o] x=x:=rfl
@[simp] theorem ZQ9 {α:Type} {f:Nat} {a b:List R} {x:Option α}:notM [.clo f a b] x=x:=rfl
@[simp] theorem ZQh {α:Type} {x:Option α}:notM [.nilp] x=x:=rfl
@[simp] theorem ZQj {α:Type} {s:Nat} {r:List (List P)} {x:Option α}:notM [.uniq s r] x=x:=rfl
@[simp] theorem ZQR {α:Type} {r:R} {s n:Nat} {x:Option α}:notM [.own r s n] x=x:=rfl
@[simp] theorem ZPP {α:Type} {e:Nat} {t:List Nat} {x:Option α}:notM [.bytes e t] x=x:=rfl
@[simp] theorem ZQq {α:Type} {x:Option α}:notM [.junk] x=x:=rfl
@[simp] theorem ZQ0 {α:Type} {n:Nat} {x:Option α}:notM [.hdr n] x=x:=rfl
@[simp] theorem ZQU {α:Type} {r:R} {es:List (P×P)} {x:Option α}:notM [.map r es] x=x:=rfl
@[simp] theorem ZPw {α:Type} {f:Nat} {r:R} {x:Option α}:notM [.closs f r] x=x:=rfl
@[simp] theorem ZQs {α:Type} {r:R} {x:Option α}:notM [.mptr r] x=x:=rfl
@[simp] theorem ZRg {l xs:List C} {off:Nat}:putO l off xs=notM l (put l off xs):=rfl
@[simp] theorem Zxr {n:Option Nat} {cs:List C} {off:Nat}:ZbK n cs off=notM cs (ldV n (cut cs off (Zfl n))):=by
 simp only [ZbK];cases cut cs off (Zfl n)<;>rfl
@[simp] theorem Zwx {n:Option Nat} {cs:List C} {off:Nat}:ZbQ n cs off=cs.take off++((cs.drop off).take (Zfl n)).map C.plain++cs.drop (off+Zfl n):=rfl
@[simp] theorem Zxs {κ off:Nat} {n:Option Nat} {cs:List C}:ZaI F (.loadB κ n) [.a (.one (.ref ⟨true,κ,off⟩)),.a (.agg cs)]=oneV ((ZbK n cs off).map A.plain):=by
 simp only [ZaI,ZkR,beq_self_eq_true,if_true];cases ZbK n cs off<;>rfl
def objV:Option (List C)->Nat->Option Nat->Option A
 | some cs,off,n=>ZbK n cs off
 | none,_,_=>none
@[simp] theorem ZAt {cs:List C} {off:Nat} {n:Option Nat}:objV (some cs) off n=ZbK n cs off:=rfl
def aggV:Option (List C)->Option (List D)
 | some cs=>some [.a (.agg cs)]
 | none=>none
@[simp] theorem ZAy {cs:List C}:aggV (some cs)=some [.a (.agg cs)]:=rfl
@[simp] theorem Zvk {κ n off:Nat} {x:A} {cs:List C}:ZaI F (.storeB κ n) [.a (.one (.ref ⟨true,κ,off⟩)),.a x,.a (.agg cs)]=if x.cells.length=n then aggV (putO cs off x.cells) else none:=by
 simp only [ZaI,ZiJ,beq_self_eq_true,Bool.true_and,beq_iff_eq,aggV];split<;>rfl
def objS (os:List (List C)) (k off:Nat) (xs:List C):Option (List C)->Option (List D)
 | some cs=>(putO cs off xs).map fun cs'=>[.objs (os.set k cs')]
 | none=>none
@[simp] theorem ZzQ {os:List (List C)} {k off:Nat} {xs cs:List C}:objS os k off xs (some cs)=(putO cs off xs).map fun cs'=>[.objs (os.set k cs')]:=rfl
@[simp] theorem Zww {r:R}:ZaI F .nilCheck [.a (.one (.ref r))]=some [.a (.one (.ref r))]:=rfl
@[simp] theorem Zvq {r:List P} {o:Nat}:ZaI F .nilCheck [.a (.one (.view r o))]=some [.a (.one (.view r o))]:=rfl
@[simp] theorem ZuD {r:R} {o:Nat}:ZaI F (.fieldAddr o) [.a (.one (.ref r))]=some [.a (.one (.ref ⟨r.own,r.k,r.off+o⟩))]:=rfl
@[simp] theorem ZtE {r:List P} {o o':Nat}:ZaI F (.fieldAddr o) [.a (.one (.view r o'))]=some [.a (.one (.view r (o'+o)))]:=rfl
def ixV:Option (List P)->Option (List D)
 | some row=>some [.a (.one (.view row 0))]
 | none=>none
@[simp] theorem ZAS {row:List P}:ixV (some row)=some [.a (.one (.view row 0))]:=rfl
@[simp] theorem Zvo {s s':Nat} {rows:List (List P)} {n:Int}:ZaI F (.indexAddr s) [.a (.one (.p (.sl s' rows))),.a (.one (.p (.int .i64 n)))]=if s'=s/\0<=n then ixV rows[n.toNat]? else none:=by
 simp only [ZaI,ZeU,C.rows_p,ixV];split<;>rfl
@[simp] theorem ZvL {s s' m:Nat} {r:R} {n:Int}:ZaI F (.indexAddr s) [.a (.one (.own r s' m)),.a (.one (.p (.int .i64 n)))]=if s'=s/\0<=n/\n<m then some [.a (.one (.ref ⟨r.own,r.k,r.off+n.toNat*s⟩))] else none:=rfl
@[simp] theorem ZxJ {s m:Nat} {r:R}:ZaI F .len [.a (.one (.own r s m))]=some [.a (.one (.p (.int .i64 m)))]:=rfl
@[simp] theorem Zy7 {m:Nat}:ZaI F .len [.a (.one (.hdr m))]=some [.a (.one (.p (.int .i64 m)))]:=rfl
@[simp] theorem Zt1 {s s' s'':Nat} {rows more:List (List P)}:ZaI F (.appendU s) [.a (.one (.uniq s' rows)),.a (.one (.tip s'' more))]=if s'=s/\s''=s/\rows.length+more.length<ZeA then some [.a (.one (.uniq s (rows++more)))] else none:=rfl
@[simp] theorem Zup {s s' s'':Nat} {rows more:List (List P)}:ZaI F (.appendU s) [.a (.one (.uniq s' rows)),.a (.one (.p (.sl s'' more)))]=if s'=s/\s''=s/\rows.length+more.length<ZeA then some [.a (.one (.uniq s (rows++more)))] else none:=rfl
@[simp] theorem ZwU {s s':Nat} {rows:List (List P)} {h:Int}:ZaI F (.sliceU s) [.a (.one (.uniq s' rows)),.a (.one (.p (.int .i64 h)))]=if s'=s/\0<=h/\h<=rows.length then some [.a (.one (.uniq s (rows.take h.toNat)))] else none:=rfl
@[simp] theorem ZtB {s:Nat} {z:List P} {n m:Int}:ZaI F (.makeSliceZ s z) [.a (.one (.p (.int .i64 n))),.a (.one (.p (.int .i64 m)))]=if n<=m/\0<=n/\m<ZeA/\z.length=s then some [.a (.one (.uniq s (List.replicate n.toNat z)))] else none:=rfl
@[simp] theorem ZvF {κ:Nat}:ZaI F (.makeMap κ) []=some [.a (.one (.map ⟨true,κ,0⟩ []))]:=rfl
def lkV (z:P) (r:R) (es:List (P×P)):Option (Option (Nat×P))->Option (List D)
 | some (some (_,x))=>some [one x,.a (.one (.map r es))]
 | some none=>some [one z,.a (.one (.map r es))]
 | none=>none
@[simp] theorem ZBn {z x:P} {r:R} {es:List (P×P)} {j:Nat}:lkV z r es (some (some (j,x)))=some [one x,.a (.one (.map r es))]:=rfl
@[simp] theorem ZAL {z:P} {r:R} {es:List (P×P)}:lkV z r es (some none)=some [one z,.a (.one (.map r es))]:=rfl
def upV (r:R) (es:List (P×P)) (k x:P):Option (Option (Nat×P))->Option (List D)
 | some (some (j,_))=>some [.a (.one (.map r (es.set j (k,x))))]
 | some none=>some [.a (.one (.map r (es++[(k,x)])))]
 | none=>none
@[simp] theorem ZBB {r:R} {es:List (P×P)} {k x y:P} {j:Nat}:upV r es k x (some (some (j,y)))=some [.a (.one (.map r (es.set j (k,x))))]:=rfl
@[simp] theorem ZA7 {r:R} {es:List (P×P)} {k x:P}:upV r es k x (some none)=some [.a (.one (.map r (es++[(k,x)])))]:=rfl
@[simp] theorem ZNG {κ:Nat}:ZaI F (.makeMapX κ) []=some [.a (.one (.mptr ⟨true,κ,0⟩)),.a (.agg [.mapc []])]:=rfl
@[simp] theorem ZNB {κ:Nat}:ZaI F (.makeMapL κ) []=some [.a (.one (.mptr ⟨true,κ,0⟩)),.a (.agg [.mapl []])]:=rfl
@[simp] theorem ZR0 {x:P}:mvOf (.one (.p x))=some (.one x):=rfl
@[simp] theorem ZRa {s:Nat} {r:List (List P)}:mvOf (.one (.tip s r))=some (.one (.sl s r)):=rfl
@[simp] theorem ZQ2 {cs:List C}:mvOf (.agg cs)=(toPs cs).map .agg:=rfl
@[simp] theorem ZQl {es:List (MV×MV)}:ZN5 [.mapc es]=some es:=rfl
def lkR (z:MV) (ok:Bool):Option (Option (Nat×MV))->Option (List D)
 | some r=>some [ZQk z ok r]
 | none=>none
def lkX (ks:MK) (z:MV) (ok:Bool):Option (List (MV×MV))->Option MV->Option (List D)
 | some es,some k=>if k.kind=ks then lkR z ok (ZLf es k 0) else none
 | _,_=>none
@[simp] theorem ZQH {z:MV} {ok:Bool} {r:Option (Nat×MV)}:lkR z ok (some r)=some [ZQk z ok r]:=rfl
@[simp] theorem ZQD {ks:MK} {z k:MV} {ok:Bool} {es:List (MV×MV)}:lkX ks z ok (some es) (some k)=if k.kind=ks then lkR z ok (ZLf es k 0) else none:=rfl
def ZRR:Option (List C)->Option (List (MV×MV))
 | some cs=>ZN5 cs
 | none=>none
@[simp] theorem ZP2 {cs:List C}:ZRR (some cs)=ZN5 cs:=rfl
def upR (f:List (MV×MV)->List D) (es:List (MV×MV)) (k x:MV):Option (Option (Nat×MV))->Option (List D)
 | some q=>some (f (putE es k x q))
 | none=>none
def upX (f:List (MV×MV)->List D) (ks:MK):Option (List (MV×MV))->Option MV->Option MV->Option (List D)
 | some es,some k,some x=>if k.kind=ks then upR f es k x (ZLf es k 0) else none
 | _,_,_=>none
@[simp] theorem ZQS {f:List (MV×MV)->List D} {es:List (MV×MV)} {k x:MV} {q:Option (Nat×MV)}:upR f es k x (some q)=some (f (putE es k x q)):=rfl
@[simp] theorem ZQX {f:List (MV×MV)->List D} {ks:MK} {es:List (MV×MV)} {k x:MV}:upX f ks (some es) (some k) (some x)=if k.kind=ks then upR f es k x (ZLf es k 0) else none:=rfl
@[simp] theorem Zg2 {s:Nat} {n:Int}:ZaI F (.makeSlice s) [.a (.one (.p (.int .i64 0))),.a (.one (.p (.int .i64 n)))]=if 0<=n/\n<ZeA then some [.a (.one (.tip s []))] else none:=rfl
def chV:Option Nat->Option (List D)
 | some b=>some [one (.int .u8 b)]
 | none=>none
@[simp] theorem ZBX {b:Nat}:chV (some b)=some [one (.int .u8 b)]:=rfl
@[simp] theorem ZC7 {x:P}:one x= .a (.one (.p x)):=rfl
def pV:Option P->Option (List D)
 | some x=>some [one x]
 | none=>none
@[simp] theorem ZCH {x:P}:pV (some x)=some [.a (.one (.p x))]:=rfl
@[simp] theorem ZzJ {op:BinOp} {x y:P}:ZaI F (.bin op) [.a (.one (.p x)),.a (.one (.p y))]=pV (pBin op x y):=by
 simp only [ZaI,ZrW,pV];split<;>rename_i h<;>rw [h]
@[simp] theorem ZB7 {op:BinOp} {k:IntKind} {x y:Int}:pBin op (.int k x) (.int k y)=ZfP op k x y:=by simp [pBin]
@[simp] theorem ZBY {op:BinOp} {x y:List Nat}:pBin op (.str x) (.str y)=Zl4 op x y:=rfl
@[simp] theorem ZyU {k:IntKind} {x y:Int}:ZfP .add k x y=some (.int k (k.wrap (x+y))):=rfl
@[simp] theorem ZyF {k:IntKind} {x y:Int}:ZfP .sub k x y=some (.int k (k.wrap (x-y))):=rfl
@[simp] theorem ZyC {k:IntKind} {x y:Int}:ZfP .mul k x y=some (.int k (k.wrap (x*y))):=rfl
@[simp] theorem Zzu {k:IntKind} {x y:Int}:ZfP .quo k x y=if y=0 then none else some (.int k (k.wrap (x.tdiv y))):=rfl
@[simp] theorem Zyx {k:IntKind} {x y:Int}:ZfP .rem k x y=if y=0 then none else some (.int k (x.tmod y)):=rfl
@[simp] theorem Zya {k:IntKind} {x y:Int}:ZfP .eql k x y=some (.bool (decide (x=y))):=rfl
@[simp] theorem Zyd {k:IntKind} {x y:Int}:ZfP .neq k x y=some (.bool (!decide (x=y))):=rfl
@[simp] theorem Zzx {k:IntKind} {x y:Int}:ZfP .lss k x y=some (.bool (decide (x<y))):=rfl
@[simp] theorem ZxR {k:IntKind} {x y:Int}:ZfP .leq k x y=some (.bool (decide (x<=y))):=rfl
@[simp] theorem ZyT {k:IntKind} {x y:Int}:ZfP .gtr k x y=some (.bool (decide (y<x))):=rfl
@[simp] theorem Zyo {k:IntKind} {x y:Int}:ZfP .geq k x y=some (.bool (decide (y<=x))):=rfl
theorem Zrf: ∀(x y:List Nat),eqS x y=decide (x=y)
 | [],[]=>by simp [eqS]
 | [],_::_=>by simp [eqS]
 | _::_,[]=>by simp [eqS]
 | a::x,b::y=>by simp only [eqS,Zrf x y,List.cons.injEq];by_cases h:a=b<;>simp [h]
@[simp] theorem ZxQ {x y:List Nat}:Zl4 .eql x y=some (.bool (decide (x=y))):=by simp [Zl4,Zrf]
@[simp] theorem Zxt {x y:List Nat}:Zl4 .neq x y=some (.bool (!decide (x=y))):=by simp [Zl4,Zrf]
@[simp] theorem Zyh {x y:List Nat}:Zl4 .add x y=if x.length+y.length<ZeA then some (.str (x++y)) else none:=rfl
@[simp] theorem ZzD {x y:Bool}:ZaI F (.binB .eql) [.a (.one (.p (.bool x))),.a (.one (.p (.bool y)))]=some [.a (.one (.p (.bool (x==y))))]:=rfl
@[simp] theorem Zx6 {x y:Bool}:ZaI F (.binB .neq) [.a (.one (.p (.bool x))),.a (.one (.p (.bool y)))]=some [.a (.one (.p (.bool (x !=y))))]:=rfl
@[simp] theorem ZAw {b:Bool}:ZaI F .not [.a (.one (.p (.bool b)))]=some [.a (.one (.p (.bool (!b))))]:=rfl
@[simp] theorem ZzS {k:IntKind} {n:Int}:ZaI F .neg [.a (.one (.p (.int k n)))]=some [.a (.one (.p (.int k (k.wrap (0-n)))))]:=rfl
@[simp] theorem Zzi {k k':IntKind} {n:Int}:ZaI F (.conv k) [.a (.one (.p (.int k' n)))]=some [.a (.one (.p (.int k (k.wrap n))))]:=rfl
def ZCf:Option (List (List P))->Nat->Option (List D)
 | some rows,s=>if rows.all (fun r=>r.length==s) then some [.a (.one (.tip s rows))] else none
 | none,_=>none
@[simp] theorem Zy2 {rows:List (List P)} {s:Nat}:ZCf (some rows) s=if rows.all (fun r=>r.length==s) then some [.a (.one (.tip s rows))] else none:=rfl
@[simp] theorem Zd2 {s:Nat} {xs:List D}:ZaI F (.buildSlice s) xs=ZCf (Zgu xs) s:=by
 simp only [ZaI,ZdT,ZCf];split<;>rename_i h<;>rw [h]
@[simp] theorem ZnT {s s' s'':Nat} {rows more:List (List P)}:ZaI F (.append s) [.a (.one (.tip s' rows)),.a (.one (.p (.sl s'' more)))]=if s'=s/\s''=s/\rows.length+more.length<ZeA then some [.a (.one (.tip s (rows++more)))] else none:=by
 simp only [ZaI,Zg6,C.rows_p]
@[simp] theorem Zzp {t:List Nat}:ZaI F .lenS [.a (.one (.p (.str t)))]=some [.a (.one (.p (.int .i64 t.length)))]:=rfl
@[simp] theorem ZyB {s:Nat} {rows:List (List P)}:ZaI F .len [.a (.one (.p (.sl s rows)))]=some [.a (.one (.p (.int .i64 rows.length)))]:=rfl
@[simp] theorem ZxN {s:Nat} {rows:List (List P)}:ZaI F .len [.a (.one (.tip s rows))]=some [.a (.one (.p (.int .i64 rows.length)))]:=rfl
@[simp] theorem ZAj {k:IntKind} {x y:Int}:ZaI F .min2 [.a (.one (.p (.int k x))),.a (.one (.p (.int k y)))]=some [.a (.one (.p (.int k (if y<x then y else x))))]:=by simp [ZaI,Zst]
def slV (s:Nat) (rows:List (List P)):Option (Nat×Nat×List D)->Option (List D)
 | some (l,h,[])=>some [one (.sl s ((rows.take h).drop l))]
 | _=>none
@[simp] theorem ZCc {s:Nat} {rows:List (List P)} {l h:Nat}:slV s rows (some (l,h,[]))=some [.a (.one (.p (.sl s ((rows.take h).drop l))))]:=rfl
theorem Zdz {s s':Nat} {lo hi:Bool} {c:C} {rows:List (List P)} {r:List D} (hc:c.rows=some (s',rows)):Zh5 s lo hi false (.a (.one c)::r)=if s'=s then slV s rows (ZbX lo hi rows.length r) else none:=by
 simp only [Zh5,hc]
 split
 ·split
  ·rename_i h;rw [h];rfl
  ·rename_i h;rw [h];simp [slV]
  ·rename_i h1 h2
   unfold slV;split
   ·rename_i l h hh;exact absurd hh (h1 _ _)
   ·rfl
 ·rfl
@[simp] theorem Zvs {s s':Nat} {lo hi:Bool} {rows:List (List P)} {r:List D}:ZaI F (.slice s lo hi false) (.a (.one (.p (.sl s' rows)))::r)=if s'=s then slV s rows (ZbX lo hi rows.length r) else none:=Zdz (c:= .p (.sl s' rows)) rfl
def ssV (t:List Nat):Option (Nat×Nat×List D)->Option (List D)
 | some (l,h,[])=>some [one (.str ((t.take h).drop l))]
 | _=>none
@[simp] theorem ZBT {t:List Nat} {l h:Nat}:ssV t (some (l,h,[]))=some [.a (.one (.p (.str ((t.take h).drop l))))]:=rfl
@[simp] theorem Zv7 {lo hi:Bool} {t:List Nat} {r:List D}:ZaI F (.sliceS lo hi) (.a (.one (.p (.str t)))::r)=ssV t (ZbX lo hi t.length r):=rfl
@[simp] theorem ZAu {n:Nat} {i:Int} {r:List D}:ZbX false true n (.a (.one (.p (.int .i64 i)))::r)=if 0<=i/\i<=n then some (0,i.toNat,r) else none:=by
 simp only [ZbX,Zme,if_true]
 by_cases h:0<=i
 ·have:(0<=i.toNat/\i.toNat<=n)↔(0<=i/\i<=n):=by omega
  simp only [h,if_true,Bool.false_eq_true,if_false,this]
 ·simp [h]
def bsV:Option (List Nat)->Option (List D)
 | some t=>some [one (.str t)]
 | none=>none
@[simp] theorem ZBd {t:List Nat}:bsV (some t)=some [.a (.one (.p (.str t)))]:=rfl
def refV (f first:Nat):Option (List R)->Option (List D)
 | some rs=>some [.a (.one (.clo f (rs.take first) (rs.drop first)))]
 | none=>none
@[simp] theorem ZAn {f first:Nat} {rs:List R}:refV f first (some rs)=some [.a (.one (.clo f (rs.take first) (rs.drop first)))]:=rfl
@[simp] theorem ZNh {f:Nat} {r:R}:ZaI F (.makeFuncS f) [.a (.agg [.ref r])]=some [.a (.one (.closs f r))]:=rfl
@[simp] theorem Zzy:Zfq []=some []:=rfl
@[simp] theorem ZOh {i:Nat} {cs:List C}:ZaI F (.fieldV i) [.a (.agg cs)]=(match cs[i]? with|some (.p x)=>some [.a (.one (.p x))]|_=>none):=rfl
@[simp] theorem ZrN {i:Nat} {xs:List A}:ZaI F (.extract i) [.tup xs]=oneV xs[i]? :=by
 simp only [ZaI,ZfI,oneV];split<;>rename_i h<;>rw [h]
end
end Go.Am
end
