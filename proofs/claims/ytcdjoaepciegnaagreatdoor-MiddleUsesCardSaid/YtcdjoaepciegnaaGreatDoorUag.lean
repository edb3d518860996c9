/- Part. -/
import Derived.Test.YtcdjoaepciegnaaGreatDoorUaf
import Derived.Test.YtcdjoaepciegnaaGreatDoorUaa
set_option maxRecDepth 999999
set_option maxHeartbeats 0
set_option linter.all false
section
namespace Go.Am.Fe
open Go.Am.Tx
variable {S:Nat->Option Fn} {Q:List A->List LC->Prop}
attribute [simp] Tx.o Tx.og Tx.m Tx.mt Tx.r Tx.q Tx.i Tx.e Tx.v Tx.n Tx.s Tx.z Tx.b
abbrev pi (x:Int):A:= .one (.i x)
abbrev pb (x:Bool):A:= .one (.p (.bool x))
abbrev ps (x:LN):A:= .one (.s x)
def ZbO {x:Int} (h1: -9223372036854775808<=x) (h2:x<=9223372036854775807):IntKind.i64.wrap x=x:=by
 unfold IntKind.wrap IntKind.bits IntKind.signed
 simp
 omega
def Byt (s:LN):Prop:= ∀c∈s,c<256
end Go.Am.Fe
end
section
namespace Go.Am.Fe
variable {S:Nat->Option Fn} {Q:List A->List LC->Prop}
attribute [local simp] ZbO if_pos if_neg decide_eq_true decide_eq_false
def Sg (x:Nat):Prop:=x=47∨x=58∨x=123
def Wd (s:LN):Prop:= ∀x∈s,¬Sg x
structure Tok where
 kind:Int
 text:LN
 at_:Int
 len:Int
def Tok.enc (t:Tok):List P:=[.i t.kind,.str t.text,.i t.at_,.i t.len]
end Go.Am.Fe
end
section
namespace Go.Am.Fe
variable {S:Nat->Option Fn} {Q:List A->List LC->Prop}
attribute [local simp] ZbO if_pos if_neg decide_eq_true decide_eq_false Yi Yj
def ZaX (l:List Int):LP:=l.map fun x=>[.i x]
def ZmH (l:List Int):LC:=l.map fun x=> .i x
@[simp] def Zpp {l:List Int}:(ZaX l).length=l.length:=by simp [ZaX]
@[simp] def Zwg {l:List Int}:(ZmH l).length=l.length:=by simp [ZmH]
def Zti {l:List Int}:(ZaX l).flatten.map C.p=ZmH l:=by simp [ZaX,ZmH,Zro]
def Zto {l:List Int}:toPs (ZmH l)=some (l.map fun x=> .i x):=Zux
def Zth {l:List Int}:Zo0 1 l.length (l.map fun x=>P.int .i64 x)=ZaX l:=ZmQ
def Zf8 {k κ:Nat} {e:Env} {l:List Int} (h:0<l.length):Zpk k 0 κ 1 e (.a (.one (.uniq 1 (ZaX l))))=(κ,.a (.agg (ZmH l)))::(k,.a (.one (.own ⟨true,κ,0⟩ 1 l.length)))::e:=by
 rw [Zq1 (by simpa using h) Zd,Zti,Zpp]
@[simp] def Zxs {l:List Int}:List.map C.plain (ZmH l)=ZmH l:=by simp [ZmH]
def toks (l:List Tok):LP:=l.map Tok.enc
end Go.Am.Fe
end
section
namespace Go.Am.Fe
variable {S:Nat->Option Fn} {Q:List A->List LC->Prop}
attribute [local simp] ZbO if_pos if_neg decide_eq_true decide_eq_false Yi Yj
inductive Ty where
 | mk (k:Int) (s:LN) (n:Int) (args:List Ty)
inductive Nd where
 | mk (op:Int) (s:LN) (n:Int) (t:Ty) (ts:List Ty) (l:List Nd) (at_:Int)
def In64 (n:Int):Prop:= -9223372036854775808<=n/\n<=9223372036854775807
def Str (s:LN):Prop:=s.length<=8000/\Byt s
mutual
def Ty.enc:Ty->List P
 | .mk k s n args=>[.i k,.str s,.i n,.sl 4 (Ty.encs args)]
def Ty.encs:List Ty->LP
 | []=>[]
 | t::l=>t.enc::Ty.encs l
end
mutual
def Ty.sz:Ty->Nat
 | .mk _ _ _ args=>1+Ty.szs args
def Ty.szs:List Ty->Nat
 | []=>0
 | t::l=>t.sz+Ty.szs l
end
mutual
def Ty.good:Ty->Prop
 | .mk k s _ args=>Str s/\(((k=5∨k=8∨k=11)->args≠[])/\k≠7/\Wd s)/\Ty.goods args
def Ty.goods:List Ty->Prop
 | []=>True
 | t::l=>t.good/\Ty.goods l
end
mutual
def Nd.enc:Nd->List P
 | .mk op s n (.mk k s2 n2 args) ts l a=>[.i op,.str s,.i n,.i k,.str s2,.i n2,.sl 4 (Ty.encs args),.sl 4 (Ty.encs ts),.sl 10 (Nd.encs l),.i a]
def Nd.encs:List Nd->LP
 | []=>[]
 | t::l=>t.enc::Nd.encs l
end
mutual
def Nd.sz:Nd->Nat
 | .mk _ _ _ t ts l _=>1+t.sz+Ty.szs ts+Nd.szs l
def Nd.szs:List Nd->Nat
 | []=>0
 | t::l=>t.sz+Nd.szs l
end
def Nd.op:Nd->Int
 | .mk op _ _ _ _ _ _=>op
def Nd.hd:List Nd->Prop
 | []=>False
 | x::_=>x.op≠0
mutual
def Nd.good:Nd->Prop
 | .mk op s n t ts l _=>Str s/\t.good/\Ty.goods ts/\Nd.goods l/\(op=15->Nd.hd l)/\(op=12->n=2->ts≠[])/\((op=42∨op=50)->In64 n)/\(op<18->Wd s)
def Nd.goods:List Nd->Prop
 | []=>True
 | t::l=>t.good/\Nd.goods l
end
def Ty.encs_length: ∀{a:List Ty},(Ty.encs a).length=a.length
 | []=>rfl
 | x::a=>by simp [Ty.encs,Ty.encs_length (a:=a)]
def Ty.len_le: ∀{a:List Ty},a.length<=Ty.szs a
 | []=>by simp [Ty.szs]
 | .mk _ _ _ _::a=>by have:=Ty.len_le (a:=a);simp [Ty.szs,Ty.sz];omega
def Nd.len_le: ∀{a:List Nd},a.length<=Nd.szs a
 | []=>by simp [Nd.szs]
 | .mk _ _ _ _ _ _ _::a=>by have:=Nd.len_le (a:=a);simp [Nd.szs,Nd.sz];omega
@[reducible] def rd (l:List Tok) (en:Int) (i:Nat) (pl:Int):LC:=[.l 4 (toks l),.i en,.i i,.i pl]
@[reducible] def me:A:= .one (.ref ⟨false,0,0⟩)
variable {l:List Tok} {en pl:Int} {i:Nat}
def slc (s:Nat) (b:Bool) (rows:LP):C:=cond b (.tip s rows) (.p (.sl s rows))
@[simp] def ZC3 {s:Nat} {rows:LP}:slc s true rows= .tip s rows:=rfl
@[simp] def ZCY {s:Nat} {rows:LP}:slc s false rows= .p (.sl s rows):=rfl
end Go.Am.Fe
end
section
namespace Go.Am.Fe
variable {S:Nat->Option Fn} {Q:List A->List LC->Prop}
attribute [local simp] ZbO if_pos if_neg decide_eq_true decide_eq_false Yi Yj
variable {l:List Tok} {en pl:Int} {i:Nat}
end Go.Am.Fe
end
section
namespace Go.Am.Fe
variable {S:Nat->Option Fn} {Q:List A->List LC->Prop}
attribute [local simp] ZbO if_pos if_neg decide_eq_true decide_eq_false Yi Yj
variable {l:List Tok} {en pl:Int} {i:Nat}
def RdN {α:Type} (st:α->Env) (Pr:α->Prop) (μ:α->Nat) (a:α) (e:Env):Prop:= ∃a',e=st a'/\Pr a'/\μ a'<μ a
def ZgF {α:Type} {live:LN} {st:α->Env} {Pr:α->Prop} {μ:α->Nat} {a:α} {e:Env}:Rd live st Pr μ a e=RdN st Pr μ a (e.norm live):=rfl
def RdN.mk {α:Type} {st:α->Env} {Pr:α->Prop} {μ:α->Nat} {a:α} {e:Env} (a':α) (h:e=st a') (hp:Pr a') (hm:μ a'<μ a):RdN st Pr μ a e:=⟨a',h,hp,hm⟩
attribute [local simp] ZgF
end Go.Am.Fe
end
section
namespace Go.Am.Fe
variable {S:Nat->Option Fn} {Q:List A->List LC->Prop}
attribute [local simp] ZbO if_pos if_neg decide_eq_true decide_eq_false Yi Yj ZgF
variable {l:List Tok} {en pl:Int} {i:Nat}
end Go.Am.Fe
end
section
namespace Go.Am.Fe
variable {S:Nat->Option Fn} {Q:List A->List LC->Prop}
attribute [local simp] ZbO if_pos if_neg decide_eq_true decide_eq_false Yi Yj ZgF
def ZaL (rs:LP):Prop:= ∀r∈rs,∃s,r=[.str s]/\Byt s
def wt:LP->Nat
 | []=>0
 | [.str s]::l=>s.length+1+wt l
 | _::l=>1+wt l
def stS (key κ' κ:Nat) (box:LC) (b:LP×Nat):Env:=[(0,.a (.one (.tip 1 b.1))),(κ',.a (.one (.ref ⟨true,κ,0⟩))),(key,.a (pi b.2)),(9999,.objs []),(κ,.a (.agg box))]
def prS (n W:Nat) (f:Nat->Nat) (b:LP×Nat):Prop:=ZaL b.1/\wt b.1<=W+40000*f b.2/\b.2<=n
def Lp.strs {live:LN} {b:SCode} {kk:List Fr} {Q':X->Env->Prop} {key κ' κ:Nat} {box:LC} {rows:LP} (n W:Nat) (f:Nat->Nat) (h0:ZaL rows) (h1:wt rows<=W+40000*f 0)
  (h: ∀(rows:LP) (j:Nat),ZaL rows->wt rows<=W+40000*f j->j<=n->Go S b [(0,.a (.one (.tip 1 rows))),(κ',.a (.one (.ref ⟨true,κ,0⟩))),(key,.a (pi j)),(9999,.objs []),(κ,.a (.agg box))] (.inv (Rd live (stS key κ' κ box) (prS n W f) (fun b=>n-b.2) (rows,j))::kk) Q'):
  Lp S live b [(0,.a (.one (.tip 1 rows))),(κ',.a (.one (.ref ⟨true,κ,0⟩))),(key,.a (.one (.i 0))),(9999,.objs []),(κ,.a (.agg box))] kk Q':=
 Lp.rule (stS key κ' κ box) (prS n W f) (fun b=>n-b.2) (a₀:=(rows,0)) rfl ⟨h0,h1,Yd _⟩ fun a ha=>h a.1 a.2 ha.1 ha.2.1 ha.2.2
end Go.Am.Fe
end
section
namespace Go.Am.Fe
variable {S:Nat->Option Fn} {Q:List A->List LC->Prop}
attribute [local simp] ZbO if_pos if_neg decide_eq_true decide_eq_false Yi Yj ZgF
def Sn (s:LN):Prop:=s.length<=8000/\Byt s
mutual
def Ty.fit:Ty->Prop
 | .mk k s n args=>Sn s/\args.length<=100000/\(((k=5∨k=8∨k=11)->args≠[])/\(k=7->n=0/\args=[])/\(k≠7->Wd s))/\Ty.fits args
def Ty.fits:List Ty->Prop
 | []=>True
 | t::l=>t.fit/\Ty.fits l
end
def Ty.nm:Ty->LN
 | .mk _ s _ _=>s
def Ty.good_nm {t:Ty} (h:t.good):Wd t.nm:=by cases t;exact h.2.1.2.2
mutual
def Ty.kn (gs:List LN):Ty->Prop
 | .mk k s _ a=>(k=7->s∈gs)/\Ty.kns gs a
def Ty.kns (gs:List LN):List Ty->Prop
 | []=>True
 | t::l=>t.kn gs/\Ty.kns gs l
end
mutual
def Ty.good_kn {gs:List LN}: ∀(t:Ty),t.good->t.kn gs
 | .mk _ _ _ a,h=>⟨fun e=>absurd e h.2.1.2.1,Ty.goods_kns a h.2.2⟩
def Ty.goods_kns {gs:List LN}: ∀(l:List Ty),Ty.goods l->Ty.kns gs l
 | [],_=>trivial
 | t::l,h=>⟨Ty.good_kn t h.1,Ty.goods_kns l h.2⟩
end
mutual
def Ty.enc_inj: ∀{t u:Ty},t.enc=u.enc->t=u
  | .mk _ _ _ _,.mk _ _ _ _,h=>by
    simp only [Ty.enc,Yf,P.int.injEq,P.str.injEq,P.sl.injEq,true_and,and_true] at h
    obtain ⟨rfl,rfl,rfl,h⟩:=h
    rw [Ty.encs_inj h]
def Ty.encs_inj: ∀{a b:List Ty},Ty.encs a=Ty.encs b->a=b
  | [],[],_=>rfl
  | [],u::b,h=>by simp [Ty.encs] at h
  | t::a,[],h=>by simp [Ty.encs] at h
  | t::a,u::b,h=>by
    simp only [Ty.encs,Yf] at h
    rw [Ty.enc_inj h.1,Ty.encs_inj h.2]
end
mutual
def Ty.kn_mono {gs hs:List LN} (h: ∀s∈gs,s∈hs): ∀(t:Ty),t.kn gs->t.kn hs
 | .mk _ _ _ a,g=>⟨fun e=>h _ (g.1 e),Ty.kns_mono h a g.2⟩
def Ty.kns_mono {gs hs:List LN} (h: ∀s∈gs,s∈hs): ∀(l:List Ty),Ty.kns gs l->Ty.kns hs l
 | [],_=>trivial
 | t::l,g=>⟨Ty.kn_mono h t g.1,Ty.kns_mono h l g.2⟩
end
mutual
def Nd.fit:Nd->Prop
 | .mk op s n t ts l _=>Sn s/\t.fit/\ts.length<=100000/\Ty.fits ts/\l.length<=100000/\Nd.fits l/\(op=15->Nd.hd l)/\(op=12->n=2->ts≠[])/\Wd t.nm/\t.kn []/\Ty.kns [] ts/\(op<18->Wd s)
def Nd.fits:List Nd->Prop
 | []=>True
 | t::l=>t.fit/\Nd.fits l
end
def Str.sn {s:LN} (h:Str s):Sn s:=h
mutual
def Ty.good_fit: ∀(t:Ty),t.good->t.sz<=100000->t.fit
  | .mk k s n args,h,hs=>by
    obtain ⟨h1,h2,h3⟩:=h
    have hs:1+Ty.szs args<=100000:=hs
    have:=Ty.len_le (a:=args)
    exact ⟨h1.sn,by omega,⟨h2.1,fun h=>absurd h h2.2.1,fun _=>h2.2.2⟩,Ty.goods_fits args h3 Zo⟩
def Ty.goods_fits: ∀(l:List Ty),Ty.goods l->Ty.szs l<=100000->Ty.fits l
  | [],_,_=>trivial
  | t::l,h,hs=>by
    have hs:t.sz+Ty.szs l<=100000:=hs
    exact ⟨Ty.good_fit t h.1 Zo,Ty.goods_fits l h.2 Zo⟩
end
mutual
def Nd.good_fit: ∀(t:Nd),t.good->t.sz<=100000->t.fit
  | .mk op s n t ts l a,h,hs=>by
    obtain ⟨h1,h2,h3,h4,h5,h6,_,h8⟩:=h
    have hs:1+t.sz+Ty.szs ts+Nd.szs l<=100000:=hs
    have:=Ty.len_le (a:=ts)
    have:=Nd.len_le (a:=l)
    exact ⟨h1.sn,Ty.good_fit t h2 Zo,by omega,Ty.goods_fits ts h3 Zo,by omega,Nd.goods_fits l h4 Zo,h5,h6,Ty.good_nm h2,Ty.good_kn _ h2,Ty.goods_kns _ h3,h8⟩
def Nd.goods_fits: ∀(l:List Nd),Nd.goods l->Nd.szs l<=100000->Nd.fits l
  | [],_,_=>trivial
  | t::l,h,hs=>by
    have hs:t.sz+Nd.szs l<=100000:=hs
    exact ⟨Nd.good_fit t h.1 Zo,Nd.goods_fits l h.2 Zo⟩
end
def strs (l:List LN):LP:=l.map fun x=>[.str x]
@[simp] def ZAG {l:List LN}:(strs l).length=l.length:=by simp [strs]
end Go.Am.Fe
end
section
namespace Go.Am.Fe
variable {S:Nat->Option Fn} {Q:List A->List LC->Prop}
attribute [local simp] ZbO if_pos if_neg decide_eq_true decide_eq_false Yi Yj ZgF
end Go.Am.Fe
end
section
namespace Go.Am.Fe
def Ty.k:Ty->Int| .mk k _ _ _=>k
def Ty.s:Ty->List Nat| .mk _ s _ _=>s
def Ty.n:Ty->Int| .mk _ _ n _=>n
def Ty.a:Ty->List Ty| .mk _ _ _ a=>a
abbrev Ty.row (t:Ty):List P:=[.int .i64 t.k,.str t.s,.int .i64 t.n,.sl 4 (Ty.encs t.a)]
abbrev Ty.cs (t:Ty):List C:=[.p (.int .i64 t.k),.p (.str t.s),.p (.int .i64 t.n),.p (.sl 4 (Ty.encs t.a))]
def Ty.enc_row (t:Ty):t.enc=t.row:=by cases t;rfl
def Ty.encs_rows: ∀(l:List Ty),Ty.encs l=l.map Ty.row
 | []=>rfl
 | t::l=>by rw [Ty.encs,Ty.encs_rows l,Ty.enc_row];rfl
attribute [local simp] Ty.encs_length
def Ty.encs_get {l:List Ty} {j:Nat} (h:j<(Ty.encs l).length):(Ty.encs l)[j]=(l[j]'(by simpa using h)).row:=by
 simp only [Ty.encs_rows,List.getElem_map]
def Ok {α:Type} (p:α->Prop) (l:List α):Prop:=l.length<=9223372036854775807/\ ∀x∈l,p x
def Ok.get {α:Type} {p:α->Prop} {l:List α} (h:Ok p l) {j:Nat} (hj:j<l.length):p l[j]:=h.2 _ (Yl hj)
mutual
def Ty.fw:Ty->Prop
 | .mk _ _ _ args=>args.length<=9223372036854775807/\Ty.fws args
def Ty.fws:List Ty->Prop
 | []=>True
 | t::l=>t.fw/\Ty.fws l
end
mutual
def Ty.fit_fw: ∀(t:Ty),t.fit->t.fw
 | .mk _ _ _ a,h=>⟨Yy h.2.1 Zd,Ty.fits_fw a h.2.2.2⟩
def Ty.fits_fw: ∀(l:List Ty),Ty.fits l->Ty.fws l
 | [],_=>trivial
 | t::l,h=>⟨Ty.fit_fw t h.1,Ty.fits_fw l h.2⟩
end
def Ty.fws_get: ∀{l:List Ty} {j:Nat} (_:Ty.fws l) (h:j<l.length),l[j].fw
 | t::l,0,hf,_=>hf.1
 | t::l,j+1,hf,h=>Ty.fws_get (l:=l) hf.2 (by simpa using h)
def Ty.szs_get: ∀{l:List Ty} {j:Nat} (h:j<l.length),l[j].sz<=Ty.szs l
 | t::l,0,_=>by simp [Ty.szs]
 | t::l,j+1,h=>by have:=Ty.szs_get (l:=l) (j:=j) (by simpa using h);simp [Ty.szs];omega
def Ty.fw_len {t:Ty} (h:t.fw):t.a.length<=9223372036854775807:=by cases t;exact h.1
def Ty.fw_a {t:Ty} (h:t.fw):Ty.fws t.a:=by cases t;exact h.2
def Ty.sz_a {t:Ty}:Ty.szs t.a<t.sz:=by cases t;simp [Ty.sz,Ty.a]
def Nd.s:Nd->List Nat| .mk _ s _ _ _ _ _=>s
def Nd.t:Nd->Ty| .mk _ _ _ t _ _ _=>t
def Nd.ts:Nd->List Ty| .mk _ _ _ _ t _ _=>t
def Nd.l:Nd->List Nd| .mk _ _ _ _ _ l _=>l
def Ty.mem_fws: ∀{l:List Ty},(∀t∈l,t.fw)->Ty.fws l
 | [],_=>trivial
 | t::l,h=>⟨h t Yr,Ty.mem_fws fun u hu=>h u (Yk _ hu)⟩
mutual
def Nd.fw:Nd->Prop
 | .mk _ _ _ t ts l _=>t.fw/\ts.length<=9223372036854775807/\Ty.fws ts/\l.length<=9223372036854775807/\Nd.fws l
def Nd.fws:List Nd->Prop
 | []=>True
 | t::l=>t.fw/\Nd.fws l
end
mutual
def Nd.fit_fw: ∀(t:Nd),t.fit->t.fw
 | .mk _ _ _ t ts l _,h=>⟨Ty.fit_fw t h.2.1,Yy h.2.2.1 Zd,Ty.fits_fw ts h.2.2.2.1,Yy h.2.2.2.2.1 Zd,Nd.fits_fw l h.2.2.2.2.2.1⟩
def Nd.fits_fw: ∀(l:List Nd),Nd.fits l->Nd.fws l
 | [],_=>trivial
 | t::l,h=>⟨Nd.fit_fw t h.1,Nd.fits_fw l h.2⟩
end
end Go.Am.Fe
end
section
namespace Go.Am.Fe
end Go.Am.Fe
end
