/- Part. -/
import Derived.Test.YtmofclmogldnjaaGreatDoorSad
set_option maxRecDepth 999999
set_option maxHeartbeats 0
set_option linter.all false
section
namespace Go.Am
@[simp] def Zyo:Zim=68719476736:=rfl
def Zvk (e:Env) (outs:List Nat):Option (List D)->Option Env
 | some ds=>e.sets outs ds
 | none=>none
@[simp] def ZvJ {e:Env} {outs:List Nat} {ds:List D}:Zvk e outs (some ds)=e.sets outs ds:=rfl
@[simp] def ZtH {F:Zae} {k:K} {ins:List Arg} {tk outs:List Nat} {b:Bool} {e:Env}:Zar F ⟨k,ins,tk,outs,none,b⟩ e=Zvk (Zag e tk) outs (Zai F k (ins.map (Zaw e tk))):=by
 simp only [Zar,doOp,Zvk]
 split<;>rename_i h<;>rw [h]
def Gd (F:Zae) (d:D) (want:Bool) (o:SOp) (e:Env):Option Env:=match d with
 | .a (.one (.p (.bool b)))=>if b==want then doOp F o e else some (Zb7 o e)
 | .tup []=>some (Zb7 o e)
 | _=>none
@[simp] def ZsW {F:Zae} {k:K} {ins:List Arg} {tk outs:List Nat} {b t:Bool} {j:Nat} {e:Env}:Zar F ⟨k,ins,tk,outs,some (j,t),b⟩ e=Gd F (e.get j) t ⟨k,ins,tk,outs,none,b⟩ e:=rfl
@[simp] def Zz1 {F:Zae} {t:Bool} {o:SOp} {e:Env}:Gd F (.tup []) t o e=some (Zb7 o e):=rfl
@[simp] def ZAh {F:Zae} {o:SOp} {e:Env}:Gd F (.a (.one (.p (.bool true)))) true o e=doOp F o e:=rfl
@[simp] def ZAj {F:Zae} {o:SOp} {e:Env}:Gd F (.a (.one (.p (.bool false)))) false o e=doOp F o e:=rfl
@[simp] def ZAf {F:Zae} {o:SOp} {e:Env}:Gd F (.a (.one (.p (.bool true)))) false o e=some (Zb7 o e):=rfl
@[simp] def ZAi {F:Zae} {o:SOp} {e:Env}:Gd F (.a (.one (.p (.bool false)))) true o e=some (Zb7 o e):=rfl
@[simp] def Zy1 {F:Zae} {k:K} {ins:List Arg} {tk outs:List Nat} {b:Bool} {e:Env} {g:Option (Nat×Bool)}:doOp F ⟨k,ins,tk,outs,g,b⟩ e=Zvk (Zag e tk) outs (Zai F k (ins.map (Zaw e tk))):=by
 simp only [doOp,Zvk]
 split<;>rename_i h<;>rw [h]
@[simp] def Zv3 {k:K} {ins:List Arg} {tk outs:List Nat} {d:Nat} {e:Env} {g:Option (Nat×Bool)}:Zb7 ⟨k,ins,tk,d::outs,g,true⟩ e=(d,.tup [])::e:=rfl
@[simp] def Zvw {k:K} {ins:List Arg} {tk outs:List Nat} {e:Env} {g:Option (Nat×Bool)}:Zb7 ⟨k,ins,tk,outs,g,false⟩ e=e:=rfl
@[simp] def Env.sets_nil {e:Env}:e.sets [] []=some e:=rfl
@[simp] def Env.sets_cons {e:Env} {k:Nat} {ks:List Nat} {d:D} {ds:List D}:e.sets (k::ks) (d::ds)=Env.sets ((k,d)::e) ks ds:=rfl
@[simp] def Env.get_cons {e:Env} {k k':Nat} {d:D}:Env.get ((k,d)::e) k'=if k=k' then d else Env.get e k':=by
 by_cases h:k=k'<;>simp [Env.get,h]
@[simp] def Env.get_nil {k:Nat}:Env.get [] k= .undef:=rfl
@[simp] def Zr6 {e:Env}:Zag e []=e:=rfl
@[simp] def Zq2 {e:Env} {k:Nat} {ks:List Nat}:Zag e (k::ks)=Zag ((k,(e.get k).plain)::e) ks:=rfl
@[simp] def Zy5 {e:Env} {tk:List Nat} {n:Nat}:Zaw e tk (.k n)=if tk.elem n then e.get n else (e.get n).plain:=rfl
@[simp] def Zzr {e:Env} {tk:List Nat} {c:C}:Zaw e tk (.c c)= .a (.one c):=rfl
@[simp] def D.plain_a {x:A}:D.plain (.a x)= .a x.plain:=rfl
@[simp] def D.plain_tup {xs:List A}:D.plain (.tup xs)= .tup (xs.map A.plain):=rfl
@[simp] def D.plain_objs {os:List (List C)}:D.plain (.objs os)= .objs os:=rfl
@[simp] def D.plain_undef:D.plain .undef= .undef:=rfl
@[simp] def A.plain_one {c:C}:A.plain (.one c)= .one c.plain:=rfl
@[simp] def A.plain_agg {cs:List C}:A.plain (.agg cs)= .agg (cs.map C.plain):=rfl
@[simp] def C.plain_p {x:P}:C.plain (.p x)= .p x:=rfl
@[simp] def C.plain_tip {s:Nat} {r:List (List P)}:C.plain (.tip s r)= .p (.sl s r):=rfl
@[simp] def C.plain_ref {r:R}:C.plain (.ref r)= .ref r:=rfl
@[simp] def C.plain_view {r:List P} {o:Nat}:C.plain (.view r o)= .view r o:=rfl
@[simp] def C.plain_clo {f:Nat} {x y:List R}:C.plain (.clo f x y)= .clo f x y:=rfl
@[simp] def C.plain_nilp:C.plain .nilp= .nilp:=rfl
@[simp] def C.plain_uniq {s:Nat} {r:List (List P)}:C.plain (.uniq s r)= .hdr r.length:=rfl
@[simp] def C.plain_map {r:R} {es:List (P×P)}:C.plain (.map r es)= .mptr r:=rfl
@[simp] def C.plain_mptr {r:R}:C.plain (.mptr r)= .mptr r:=rfl
@[simp] def C.plain_own {r:R} {s n:Nat}:C.plain (.own r s n)= .own r s n:=rfl
@[simp] def C.plain_hdr {n:Nat}:C.plain (.hdr n)= .hdr n:=rfl
@[simp] def C.plain_junk:C.plain .junk= .junk:=rfl
@[simp] def C.plain_comp:C.plain∘C.p=C.p:=rfl
@[simp] def A.cells_one {c:C}:A.cells (.one c)=[c]:=rfl
@[simp] def A.cells_agg {cs:List C}:A.cells (.agg cs)=cs:=rfl
@[simp] def C.rows_p {s:Nat} {r:List (List P)}:C.rows (.p (.sl s r))=some (s,r):=rfl
@[simp] def C.rows_tip {s:Nat} {r:List (List P)}:C.rows (.tip s r)=some (s,r):=rfl
@[simp] def C.toP_p {x:P}:C.toP (.p x)=some x:=rfl
@[simp] def C.toP_tip {s:Nat} {r:List (List P)}:C.toP (.tip s r)=some (.sl s r):=rfl
@[simp] def ZwU:toPs []=some []:=rfl
@[simp] def Ztq {x:P} {r:List C}:toPs (.p x::r)=(toPs r).map (x:: ·):=by
 simp only [toPs,C.toP];cases toPs r<;>rfl
@[simp] def ZuX:ZdC []=some []:=rfl
@[simp] theorem ZtC {x:A} {r:List D}:ZdC (.a x::r)=match toPs x.cells,ZdC r with|some row,some rows=>some (row::rows)|_,_=>none:=rfl
section
variable {F:Zae}
@[simp] def Zv2 {x:D}:Zai F .mov [x]=some [x]:=rfl
@[simp] def ZvP {b:Bool} {x y:D}:Zai F .pick [.a (.one (.p (.bool b))),x,y]=some [if b then x else y]:=rfl
@[simp] def ZtG {κ:Nat} {z:List C}:Zai F (.alloc κ z) []=some [.a (.one (.ref ⟨true,κ,0⟩)),.a (.agg z)]:=rfl
@[simp] def ZwK {κ:Nat} {x:A}:Zai F (.box κ) [.a x]=some [.a (.one (.ref ⟨true,κ,0⟩)),.a (.agg x.cells)]:=rfl
def bldV:Option (List C)->Option (List D)
 | some cs=>some [.a (.agg cs)]
 | none=>none
@[simp] def ZwN {cs:List C}:bldV (some cs)=some [.a (.agg cs)]:=rfl
@[simp] def ZtD {z:List C} {offs:List (Nat×Nat)} {xs:List D}:Zai F (.build z offs) xs=bldV (Zc3 z offs xs):=by
 simp only [Zai,ZhB,bldV];split<;>rename_i h<;>rw [h]
@[simp] def ZvV {z:List C}:Zc3 z [] []=some z:=rfl
def Zz8 (os:List (Nat×Nat)) (r:List D):Option (List C)->Option (List C)
 | some z=>Zc3 z os r
 | none=>none
@[simp] def Zub {os:List (Nat×Nat)} {r:List D} {z:List C}:Zz8 os r (some z)=Zc3 z os r:=rfl
@[simp] def Zz9 {l xs:List C} {off:Nat}:put l off xs=if off+xs.length<=l.length then some (l.take off++xs++l.drop (off+xs.length)) else none:=rfl
def ldV (n:Option Nat):Option (List C)->Option A
 | some xs=>ZoD n xs
 | none=>none
@[simp] def Zyr {c:C}:ldV none (some [c])=some (.one c):=rfl
@[simp] def ZyQ {m:Nat} {cs:List C}:ldV (some m) (some cs)=some (.agg cs):=rfl
def oneV:Option A->Option (List D)
 | some x=>some [.a x]
 | none=>none
@[simp] def Zwk {x:A}:oneV (some x)=some [.a x]:=rfl
@[simp] def Zuk {n:Option Nat} {row:List P} {off:Nat}:Zai F (.load n) [.a (.one (.view row off))]=oneV (ldV n ((cut row off (ZcU n)).map fun xs=>xs.map .p)):=by
 simp only [Zai,ZlW]
 cases cut row off (ZcU n) with
 | none=>rfl
 | some xs=>simp only [YN,ldV,oneV];cases ZoD n (xs.map C.p)<;>rfl
@[simp] def ZzV {α:Type} {l:List α} {off n:Nat}:cut l off n=if off+n<=l.length then some ((l.drop off).take n) else none:=rfl
@[simp] def Zvx:ZcU none=1:=rfl
@[simp] def ZtY {n:Nat}:ZcU (some n)=n:=rfl
@[simp] def Zye {α:Type} {x:Option α}:notM [] x=x:=rfl
@[simp] def Zyv {α:Type} {c d:C} {l:List C} {x:Option α}:notM (c::d::l) x=x:=by cases c<;>rfl
@[simp] def ZzP {α:Type} {y:P} {x:Option α}:notM [.p y] x=x:=rfl
@[simp] def ZyK {α:Type} {s:Nat} {r:List (List P)} {x:Option α}:notM [.tip s r] x=x:=rfl
@[simp] def Zw3 {α:Type} {r:R} {x:Option α}:notM [.ref r] x=x:=rfl
@[simp] def ZwD {α:Type} {r:List P} {o:Nat} {x:Option α}:notM [.view r o] x=x:=rfl
@[simp] def ZyG {α:Type} {f:Nat} {a b:List R} {x:Option α}:notM [.clo f a b] x=x:=rfl
@[simp] def Zv5 {α:Type} {x:Option α}:notM [.nilp] x=x:=rfl
@[simp] def Zwe {α:Type} {s:Nat} {r:List (List P)} {x:Option α}:notM [.uniq s r] x=x:=rfl
@[simp] def Zw2 {α:Type} {r:R} {s n:Nat} {x:Option α}:notM [.own r s n] x=x:=rfl
@[simp] def Zwa {α:Type} {x:Option α}:notM [.junk] x=x:=rfl
@[simp] def ZxZ {α:Type} {n:Nat} {x:Option α}:notM [.hdr n] x=x:=rfl
@[simp] def Zyw {α:Type} {r:R} {es:List (P×P)} {x:Option α}:notM [.map r es] x=x:=rfl
@[simp] def Zwc {α:Type} {r:R} {x:Option α}:notM [.mptr r] x=x:=rfl
@[simp] def Zzi {l xs:List C} {off:Nat}:putO l off xs=notM l (put l off xs):=rfl
@[simp] def Zto {n:Option Nat} {cs:List C} {off:Nat}:ZaZ n cs off=notM cs (ldV n (cut cs off (ZcU n))):=by
 simp only [ZaZ];cases cut cs off (ZcU n)<;>rfl
@[simp] def Zr5 {n:Option Nat} {cs:List C} {off:Nat}:ZaM n cs off=cs.take off++((cs.drop off).take (ZcU n)).map C.plain++cs.drop (off+ZcU n):=rfl
@[simp] def Ztm {κ off:Nat} {n:Option Nat} {cs:List C}:Zai F (.loadB κ n) [.a (.one (.ref ⟨true,κ,off⟩)),.a (.agg cs)]=oneV ((ZaZ n cs off).map A.plain):=by
 simp only [Zai,Zji,beq_self_eq_true,if_true];cases ZaZ n cs off<;>rfl
@[simp] def ZsJ {κ off:Nat} {n:Option Nat} {cs:List C}:Zai F (.loadBT κ n) [.a (.one (.ref ⟨true,κ,off⟩)),.a (.agg cs)]=(ZaZ n cs off).map fun x=>[.a x,.a (.agg (ZaM n cs off))]:=by
 simp only [Zai,Zgv,beq_self_eq_true,if_true];cases ZaZ n cs off<;>rfl
def objV:Option (List C)->Nat->Option Nat->Option A
 | some cs,off,n=>ZaZ n cs off
 | none,_,_=>none
@[simp] def ZwF {cs:List C} {off:Nat} {n:Option Nat}:objV (some cs) off n=ZaZ n cs off:=rfl
@[simp] def Ztr {k off:Nat} {n:Option Nat} {os:List (List C)}:Zai F (.loadO n) [.a (.one (.ref ⟨false,k,off⟩)),.objs os]=oneV ((objV os[k]? off n).map A.plain):=by
 simp only [Zai,Zi5];cases h:os[k]? with
 | none=>rfl
 | some cs=>simp only [objV];cases ZaZ n cs off<;>rfl
@[simp] def Zsf {k off:Nat} {n:Option Nat} {os:List (List C)}:Zai F (.loadOT n) [.a (.one (.ref ⟨false,k,off⟩)),.objs os]=(objV os[k]? off n).map fun x=>[.a x,.objs (os.set k (ZaM n (os[k]?.getD []) off))]:=by
 simp only [Zai,Zgy];cases h:os[k]? with
 | none=>rfl
 | some cs=>simp only [objV,Option.getD];cases ZaZ n cs off<;>rfl
def aggV:Option (List C)->Option (List D)
 | some cs=>some [.a (.agg cs)]
 | none=>none
@[simp] def ZwP {cs:List C}:aggV (some cs)=some [.a (.agg cs)]:=rfl
@[simp] def ZrH {κ n off:Nat} {x:A} {cs:List C}:Zai F (.storeB κ n) [.a (.one (.ref ⟨true,κ,off⟩)),.a x,.a (.agg cs)]=if x.cells.length=n then aggV (putO cs off x.cells) else none:=by
 simp only [Zai,Zgs,beq_self_eq_true,Bool.true_and,beq_iff_eq,aggV];split<;>rfl
def objS (os:List (List C)) (k off:Nat) (xs:List C):Option (List C)->Option (List D)
 | some cs=>(putO cs off xs).map fun cs'=>[.objs (os.set k cs')]
 | none=>none
@[simp] def ZwQ {os:List (List C)} {k off:Nat} {xs cs:List C}:objS os k off xs (some cs)=(putO cs off xs).map fun cs'=>[.objs (os.set k cs')]:=rfl
@[simp] def Zso {n k off:Nat} {x:A} {os:List (List C)}:Zai F (.storeO n) [.a (.one (.ref ⟨false,k,off⟩)),.a x,.objs os]=if x.cells.length=n then objS os k off x.cells os[k]? else none:=by
 simp only [Zai,Zgg,beq_iff_eq];split
 ·cases os[k]? with
  | none=>rfl
  | some cs=>simp only [objS];cases putO cs off x.cells<;>rfl
 ·rfl
@[simp] def ZrF {r:R}:Zai F .nilCheck [.a (.one (.ref r))]=some [.a (.one (.ref r))]:=rfl
@[simp] def ZqI {r:List P} {o:Nat}:Zai F .nilCheck [.a (.one (.view r o))]=some [.a (.one (.view r o))]:=rfl
@[simp] def ZpI {r:R} {o:Nat}:Zai F (.fieldAddr o) [.a (.one (.ref r))]=some [.a (.one (.ref ⟨r.own,r.k,r.off+o⟩))]:=rfl
@[simp] def Zpk {r:List P} {o o':Nat}:Zai F (.fieldAddr o) [.a (.one (.view r o'))]=some [.a (.one (.view r (o'+o)))]:=rfl
def ixV:Option (List P)->Option (List D)
 | some row=>some [.a (.one (.view row 0))]
 | none=>none
@[simp] def ZwT {row:List P}:ixV (some row)=some [.a (.one (.view row 0))]:=rfl
@[simp] def Ztb {s s':Nat} {rows:List (List P)} {n:Int}:Zai F (.indexAddr s) [.a (.one (.p (.sl s' rows))),.a (.one (.p (.int .i64 n)))]=if s'=s/\0<=n then ixV rows[n.toNat]? else none:=by
 simp only [Zai,Zdn,C.rows_p,ixV];split<;>rfl
@[simp] def ZrD {s s' m:Nat} {r:R} {n:Int}:Zai F (.indexAddr s) [.a (.one (.own r s' m)),.a (.one (.p (.int .i64 n)))]=if s'=s/\0<=n/\n<m then some [.a (.one (.ref ⟨r.own,r.k,r.off+n.toNat*s⟩))] else none:=rfl
@[simp] def ZtN {s m:Nat} {r:R}:Zai F .len [.a (.one (.own r s m))]=some [.a (.one (.p (.int .i64 m)))]:=rfl
@[simp] def ZvO {m:Nat}:Zai F .len [.a (.one (.hdr m))]=some [.a (.one (.p (.int .i64 m)))]:=rfl
@[simp] def ZqF {s s' s'':Nat} {rows more:List (List P)}:Zai F (.appendU s) [.a (.one (.uniq s' rows)),.a (.one (.tip s'' more))]=if s'=s/\s''=s/\rows.length+more.length<Zim then some [.a (.one (.uniq s (rows++more)))] else none:=rfl
@[simp] def ZpC {s s' s'':Nat} {rows more:List (List P)}:Zai F (.appendU s) [.a (.one (.uniq s' rows)),.a (.one (.p (.sl s'' more)))]=if s'=s/\s''=s/\rows.length+more.length<Zim then some [.a (.one (.uniq s (rows++more)))] else none:=rfl
@[simp] def Ztc {s s':Nat} {rows:List (List P)} {h:Int}:Zai F (.sliceU s) [.a (.one (.uniq s' rows)),.a (.one (.p (.int .i64 h)))]=if s'=s/\0<=h/\h<=rows.length then some [.a (.one (.uniq s (rows.take h.toNat)))] else none:=rfl
@[simp] def ZnK {s:Nat} {z:List P} {n m:Int}:Zai F (.makeSliceZ s z) [.a (.one (.p (.int .i64 n))),.a (.one (.p (.int .i64 m)))]=if n<=m/\0<=n/\m<Zim/\z.length=s then some [.a (.one (.uniq s (List.replicate n.toNat z)))] else none:=rfl
@[simp] def Zrk {κ:Nat}:Zai F (.makeMap κ) []=some [.a (.one (.map ⟨true,κ,0⟩ []))]:=rfl
def lkV (z:P) (r:R) (es:List (P×P)):Option (Option (Nat×P))->Option (List D)
 | some (some (_,x))=>some [one x,.a (.one (.map r es))]
 | some none=>some [one z,.a (.one (.map r es))]
 | none=>none
@[simp] def Zw8 {z x:P} {r:R} {es:List (P×P)} {j:Nat}:lkV z r es (some (some (j,x)))=some [one x,.a (.one (.map r es))]:=rfl
@[simp] def ZxW {z:P} {r:R} {es:List (P×P)}:lkV z r es (some none)=some [one z,.a (.one (.map r es))]:=rfl
def upV (r:R) (es:List (P×P)) (k x:P):Option (Option (Nat×P))->Option (List D)
 | some (some (j,_))=>some [.a (.one (.map r (es.set j (k,x))))]
 | some none=>some [.a (.one (.map r (es++[(k,x)])))]
 | none=>none
@[simp] def Zyh {r:R} {es:List (P×P)} {k x y:P} {j:Nat}:upV r es k x (some (some (j,y)))=some [.a (.one (.map r (es.set j (k,x))))]:=rfl
@[simp] def ZyH {r:R} {es:List (P×P)} {k x:P}:upV r es k x (some none)=some [.a (.one (.map r (es++[(k,x)])))]:=rfl
@[simp] def Zqr {κ:Nat}:Zai F (.makeMapX κ) []=some [.a (.one (.mptr ⟨true,κ,0⟩)),.a (.agg [.mapc []])]:=rfl
@[simp] def ZzN {x:P}:mvOf (.one (.p x))=some (.one x):=rfl
@[simp] def Zyj {s:Nat} {r:List (List P)}:mvOf (.one (.tip s r))=some (.one (.sl s r)):=rfl
@[simp] def ZxB {cs:List C}:mvOf (.agg cs)=(toPs cs).map .agg:=rfl
@[simp] def Zwf {es:List (MV×MV)}:Zq6 [.mapc es]=some es:=rfl
def lkR (z:MV) (ok:Bool):Option (Option (Nat×MV))->Option (List D)
 | some r=>some [Zwy z ok r]
 | none=>none
def lkX (ks:MK) (z:MV) (ok:Bool):Option (List (MV×MV))->Option MV->Option (List D)
 | some es,some k=>if k.kind=ks then lkR z ok (Zpc es k 0) else none
 | _,_=>none
@[simp] def Zw0 {z:MV} {ok:Bool} {r:Option (Nat×MV)}:lkR z ok (some r)=some [Zwy z ok r]:=rfl
@[simp] def Zyz {ks:MK} {z k:MV} {ok:Bool} {es:List (MV×MV)}:lkX ks z ok (some es) (some k)=if k.kind=ks then lkR z ok (Zpc es k 0) else none:=rfl
def Zz4:Option (List C)->Option (List (MV×MV))
 | some cs=>Zq6 cs
 | none=>none
@[simp] def Zu9 {cs:List C}:Zz4 (some cs)=Zq6 cs:=rfl
def upR (f:List (MV×MV)->List D) (es:List (MV×MV)) (k x:MV):Option (Option (Nat×MV))->Option (List D)
 | some q=>some (f (putE es k x q))
 | none=>none
def upX (f:List (MV×MV)->List D) (ks:MK):Option (List (MV×MV))->Option MV->Option MV->Option (List D)
 | some es,some k,some x=>if k.kind=ks then upR f es k x (Zpc es k 0) else none
 | _,_,_=>none
@[simp] def ZxJ {f:List (MV×MV)->List D} {es:List (MV×MV)} {k x:MV} {q:Option (Nat×MV)}:upR f es k x (some q)=some (f (putE es k x q)):=rfl
@[simp] def ZyJ {f:List (MV×MV)->List D} {ks:MK} {es:List (MV×MV)} {k x:MV}:upX f ks (some es) (some k) (some x)=if k.kind=ks then upR f es k x (Zpc es k 0) else none:=rfl
@[simp] def Zoc {s:Nat} {n:Int}:Zai F (.makeSlice s) [.a (.one (.p (.int .i64 0))),.a (.one (.p (.int .i64 n)))]=if 0<=n/\n<Zim then some [.a (.one (.tip s []))] else none:=rfl
def chV:Option Nat->Option (List D)
 | some b=>some [one (.int .u8 b)]
 | none=>none
@[simp] def ZyS {b:Nat}:chV (some b)=some [one (.int .u8 b)]:=rfl
@[simp] def ZzY {x:P}:one x= .a (.one (.p x)):=rfl
@[simp] def ZrJ {t:List Nat} {n:Int}:Zai F .indexS [.a (.one (.p (.str t))),.a (.one (.p (.int .i64 n)))]=if 0<=n then chV t[n.toNat]? else none:=by
 simp only [Zai,Zgq,chV];split<;>rfl
def pV:Option P->Option (List D)
 | some x=>some [one x]
 | none=>none
@[simp] def Zzc {x:P}:pV (some x)=some [.a (.one (.p x))]:=rfl
@[simp] def ZwC {op:BinOp} {x y:P}:Zai F (.bin op) [.a (.one (.p x)),.a (.one (.p y))]=pV (pBin op x y):=by
 simp only [Zai,ZqA,pV];split<;>rename_i h<;>rw [h]
@[simp] def ZwZ {op:BinOp} {k:IntKind} {x y:Int}:pBin op (.int k x) (.int k y)=ZcM op k x y:=by simp [pBin]
@[simp] def Zxn {k k':IntKind} {x y:Int}:pBin .shl (.int k x) (.int k' y)=shlP k x y:=by
 simp [pBin,ZcM]
@[simp] def Zxw {op:BinOp} {x y:List Nat}:pBin op (.str x) (.str y)=Zg5 op x y:=rfl
@[simp] def ZvC {k:IntKind} {x y:Int}:ZcM .add k x y=some (.int k (k.wrap (x+y))):=rfl
@[simp] def ZuB {k:IntKind} {x y:Int}:ZcM .sub k x y=some (.int k (k.wrap (x-y))):=rfl
@[simp] def ZvA {k:IntKind} {x y:Int}:ZcM .mul k x y=some (.int k (k.wrap (x*y))):=rfl
@[simp] def ZuR {k:IntKind} {x y:Int}:ZcM .quo k x y=if y=0 then none else some (.int k (k.wrap (x.tdiv y))):=rfl
@[simp] def Zuq {k:IntKind} {x y:Int}:ZcM .rem k x y=if y=0 then none else some (.int k (x.tmod y)):=rfl
@[simp] def Zus {k:IntKind} {x y:Int}:ZcM .eql k x y=some (.bool (decide (x=y))):=rfl
@[simp] def ZtI {k:IntKind} {x y:Int}:ZcM .neq k x y=some (.bool (!decide (x=y))):=rfl
@[simp] def Zvh {k:IntKind} {x y:Int}:ZcM .lss k x y=some (.bool (decide (x<y))):=rfl
@[simp] def ZtX {k:IntKind} {x y:Int}:ZcM .leq k x y=some (.bool (decide (x<=y))):=rfl
@[simp] def ZtZ {k:IntKind} {x y:Int}:ZcM .gtr k x y=some (.bool (decide (y<x))):=rfl
@[simp] def Zt1 {k:IntKind} {x y:Int}:ZcM .geq k x y=some (.bool (decide (y<=x))):=rfl
def ZmR: ∀(x y:List Nat),eqS x y=decide (x=y)
 | [],[]=>by simp [eqS]
 | [],_::_=>by simp [eqS]
 | _::_,[]=>by simp [eqS]
 | a::x,b::y=>by simp only [eqS,ZmR x y,Yf];by_cases h:a=b<;>simp [h]
@[simp] def ZuC {x y:List Nat}:Zg5 .eql x y=some (.bool (decide (x=y))):=by simp [Zg5,ZmR]
@[simp] def ZvK {x y:List Nat}:Zg5 .add x y=if x.length+y.length<Zim then some (.str (x++y)) else none:=rfl
@[simp] def Zvo {x y:Bool}:Zai F (.binB .eql) [.a (.one (.p (.bool x))),.a (.one (.p (.bool y)))]=some [.a (.one (.p (.bool (x==y))))]:=rfl
@[simp] def Zuc {x y:Bool}:Zai F (.binB .neq) [.a (.one (.p (.bool x))),.a (.one (.p (.bool y)))]=some [.a (.one (.p (.bool (x !=y))))]:=rfl
@[simp] def ZwR {b:Bool}:Zai F .not [.a (.one (.p (.bool b)))]=some [.a (.one (.p (.bool (!b))))]:=rfl
@[simp] def Zwl {k:IntKind} {n:Int}:Zai F .neg [.a (.one (.p (.int k n)))]=some [.a (.one (.p (.int k (k.wrap (0-n)))))]:=rfl
@[simp] def ZvD {k k':IntKind} {n:Int}:Zai F (.conv k) [.a (.one (.p (.int k' n)))]=some [.a (.one (.p (.int k (k.wrap n))))]:=rfl
def Zyu:Option (List (List P))->Nat->Option (List D)
 | some rows,s=>if rows.all (fun r=>r.length==s) then some [.a (.one (.tip s rows))] else none
 | none,_=>none
@[simp] def Zut {rows:List (List P)} {s:Nat}:Zyu (some rows) s=if rows.all (fun r=>r.length==s) then some [.a (.one (.tip s rows))] else none:=rfl
@[simp] def ZnF {s:Nat} {xs:List D}:Zai F (.buildSlice s) xs=Zyu (ZdC xs) s:=by
 simp only [Zai,ZcB,Zyu];split<;>rename_i h<;>rw [h]
@[simp] def Zrw {s s' s'':Nat} {rows more:List (List P)}:Zai F (.append s) [.a (.one (.tip s' rows)),.a (.one (.p (.sl s'' more)))]=if s'=s/\s''=s/\rows.length+more.length<Zim then some [.a (.one (.tip s (rows++more)))] else none:=by
 simp only [Zai,Zgl,C.rows_p]
@[simp] def Zug {t:List Nat}:Zai F .lenS [.a (.one (.p (.str t)))]=some [.a (.one (.p (.int .i64 t.length)))]:=rfl
@[simp] def ZuL {s:Nat} {rows:List (List P)}:Zai F .len [.a (.one (.p (.sl s rows)))]=some [.a (.one (.p (.int .i64 rows.length)))]:=rfl
@[simp] def ZuW {s:Nat} {rows:List (List P)}:Zai F .len [.a (.one (.tip s rows))]=some [.a (.one (.p (.int .i64 rows.length)))]:=rfl
@[simp] def ZwE {k:IntKind} {x y:Int}:Zai F .min2 [.a (.one (.p (.int k x))),.a (.one (.p (.int k y)))]=some [.a (.one (.p (.int k (if y<x then y else x))))]:=by simp [Zai,Zpy]
def slV (s:Nat) (rows:List (List P)):Option (Nat×Nat×List D)->Option (List D)
 | some (l,h,[])=>some [one (.sl s ((rows.take h).drop l))]
 | _=>none
@[simp] def Zxp {s:Nat} {rows:List (List P)} {l h:Nat}:slV s rows (some (l,h,[]))=some [.a (.one (.p (.sl s ((rows.take h).drop l))))]:=rfl
def ssV (t:List Nat):Option (Nat×Nat×List D)->Option (List D)
 | some (l,h,[])=>some [one (.str ((t.take h).drop l))]
 | _=>none
@[simp] def ZyM {t:List Nat} {l h:Nat}:ssV t (some (l,h,[]))=some [.a (.one (.p (.str ((t.take h).drop l))))]:=rfl
@[simp] def Zsi {lo hi:Bool} {t:List Nat} {r:List D}:Zai F (.sliceS lo hi) (.a (.one (.p (.str t)))::r)=ssV t (Zbz lo hi t.length r):=rfl
def bsV:Option (List Nat)->Option (List D)
 | some t=>some [one (.str t)]
 | none=>none
@[simp] def ZxP {t:List Nat}:bsV (some t)=some [.a (.one (.p (.str t)))]:=rfl
def refV (f first:Nat):Option (List R)->Option (List D)
 | some rs=>some [.a (.one (.clo f (rs.take first) (rs.drop first)))]
 | none=>none
@[simp] def ZwO {f first:Nat} {rs:List R}:refV f first (some rs)=some [.a (.one (.clo f (rs.take first) (rs.drop first)))]:=rfl
@[simp] def Zpx {f first:Nat} {xs:List D}:Zai F (.makeFunc f first) xs=refV f first (ZbV xs):=by
 simp only [Zai,Zd7,refV];split<;>rename_i h<;>rw [h]
@[simp] def Zu2:ZbV []=some []:=rfl
@[simp] def ZtB {r:R} {l:List D}:ZbV (.a (.one (.ref r))::l)=(ZbV l).map (r:: ·):=by
 simp only [ZbV];cases ZbV l<;>rfl
@[simp] theorem ZsR {i:Nat} {cs:List C}:Zai F (.fieldV i) [.a (.agg cs)]=(match cs[i]? with|some (.p x)=>some [.a (.one (.p x))]|_=>none):=rfl
@[simp] def Zq9 {i:Nat} {xs:List A}:Zai F (.extract i) [.tup xs]=oneV xs[i]? :=by
 simp only [Zai,ZdT,oneV];split<;>rename_i h<;>rw [h]
end
end Go.Am
end
