/- Part. -/
import Derived.Test.YtmofclmogldnjaaGreatDoorCba
import Derived.MapKept
import Derived.Carry
set_option maxRecDepth 999999
set_option maxHeartbeats 0
set_option linter.all false
def qS:=@List.any_eq_false
def jF:=@Bool.or_false
def jO:=@Bool.or_eq_false_iff
def xC:=@List.any_cons
section
namespace Go.Am
variable [WI]
variable {Pg:Program}
open Go.MapKept Go.RowKit
def ZsC {a b:ByteArray} (h:ZbJ a=ZbJ b):a=b:=by
 obtain ⟨a⟩:=a;obtain ⟨b⟩:=b;unfold ZbJ at h;have:=(List.map_inj_right (fun x y h=>UInt8.toNat_inj.1 h)).1 h;have e:a=b:=Array.toList_inj.1 this;subst e;rfl
section each
variable {F:ZaQ} {g:G} {e e':Env} {a:Act} {w:World}
end each
end Go.Am
end
section
namespace Go.Am
variable [WI]
variable {Pg:Program}
def C.quiet:C->Bool
 | .ref _=>false
 | .clo _ [] []=>true
 | .clo _ _ _=>false
 | .own _ _ _=>false
 | .mptr _=>false
 | .map _ _=>false
 | _=>true
def C.quiet_ment {c:C} (h:c.quiet=true) (κ:Nat):c.ment κ=false:=by
 cases c with
 | ref r=>cases h
 | own r s n=>cases h
 | mptr r=>cases h
 | map r es=>cases h
 | clo f p q=>cases p<;>cases q<;>first|rfl|cases h
 | _=>rfl
def Zqr {cs:List C} (h:cs.all C.quiet=true) (κ:Nat):cs.any (C.ment κ)=false:=by
 rw [qS];intro c hc;rw [C.quiet_ment (List.all_eq_true.1 h c hc) κ];simp
def K.quiet:K->Bool
 | .alloc _ z=>z.all C.quiet
 | .build z _=>z.all C.quiet
 | _=>true
def SOp.quiet (s:SOp):Bool:=s.kind.quiet && s.ins.all fun| .c c=>c.quiet|_=>true
def ZmS {cs:List C} {κ n:Nat} (h:cs.any (C.ment κ)=false):(cs.take n).any (C.ment κ)=false:=by
 rw [qS] at*;exact fun c hc=>h c (kW hc)
def ZmW {cs:List C} {κ n:Nat} (h:cs.any (C.ment κ)=false):(cs.drop n).any (C.ment κ)=false:=by
 rw [qS] at*;exact fun c hc=>h c (kC hc)
def ZtH {cs:List C} {κ:Nat} (h:cs.any (C.ment κ)=false):(cs.map C.plain).any (C.ment κ)=false:=by
 rw [qS] at*;intro c hc;obtain ⟨y,hy,rfl⟩:=List.mem_map.1 hc;rw [plain_ment];exact h y hy
def Zwv {cs xs:List C} {off n κ:Nat} (h:cut cs off n=some xs) (hm:cs.any (C.ment κ)=false):xs.any (C.ment κ)=false:=by
 unfold cut at h;split at h
 ·cases h;exact ZmS (ZmW hm)
 ·cases h
def Zqa {cs xs ys:List C} {off κ:Nat} (h:put cs off xs=some ys) (hm:cs.any (C.ment κ)=false) (hx:xs.any (C.ment κ)=false):ys.any (C.ment κ)=false:=by
 obtain ⟨_,rfl⟩:=ZgW h;rw [List.any_append,List.any_append,ZmS hm,ZmW hm,hx];rfl
def Zn7 {n:Option Nat} {cs:List C} {x:A} {κ:Nat} (h:ZsS n cs=some x) (hm:cs.any (C.ment κ)=false):x.ment κ=false:=by
 unfold ZsS at h;split at h
 ·cases h;exact hm
 ·cases h
 ·cases h;exact hm
def Ze9 {n:Option Nat} {cs:List C} {off κ:Nat} {x:A} (h:ZbK n cs off=some x) (hm:cs.any (C.ment κ)=false):x.ment κ=false:=by
 unfold ZbK at h;split at h
 ·rename_i xs hx;exact Zn7 h (Zwv hx hm)
 ·cases h
def ZiF {n:Option Nat} {cs:List C} {off κ:Nat} (hm:cs.any (C.ment κ)=false):(ZbQ n cs off).any (C.ment κ)=false:=by
 unfold ZbQ;rw [List.any_append,List.any_append,ZmS hm,ZmW hm,ZtH (ZmS (ZmW hm))];rfl
def ZmD {κ:Nat}: ∀{offs:List (Nat×Nat)} {ds:List D} {z cs:List C},Ze4 z offs ds=some cs->z.any (C.ment κ)=false->(∀d∈ds,d.ment κ=false)->cs.any (C.ment κ)=false
 | [],[],z,cs,h,hz,_=>by simp only [Ze4,Ye] at h;subst h;exact hz
 | (o,n)::os,.a x::r,z,cs,h,hz,hd=>by
   simp only [Ze4] at h;split at h
   · split at h
     · rename_i z' hz';exact ZmD h (Zqa hz' hz (hd _ Yr)) fun d hd'=>hd d (Yk _ hd')
     · cases h
   · cases h
 | [],_::_,_,_,h,_,_=>by simp [Ze4] at h
 | _::_,[],_,_,h,_,_=>by simp [Ze4] at h
 | _::_,.undef::_,_,_,h,_,_=>by simp [Ze4] at h
 | _::_,.tup _::_,_,_,h,_,_=>by simp [Ze4] at h
 | _::_,.objs _::_,_,_,h,_,_=>by simp [Ze4] at h
def ZjP {os:List (List C)} {k κ:Nat} {cs:List C} (h:os.any (fun cs=>cs.any (C.ment κ))=false) (hc:cs.any (C.ment κ)=false):(os.set k cs).any (fun cs=>cs.any (C.ment κ))=false:=by
 rw [qS] at h⊢;intro c hm;rcases List.mem_or_eq_of_mem_set hm with hm|rfl
 ·exact h c hm
 ·rw [hc];simp
def ZgO {os:List (List C)} {k κ:Nat} {cs:List C} (h:os.any (fun cs=>cs.any (C.ment κ))=false) (hc:os[k]? =some cs):cs.any (C.ment κ)=false:=by
 rw [qS] at h;simpa using h cs (YA hc)
def Zmz {κ:Nat}: ∀{ds:List D} {rs:List R},Zfq ds=some rs->(∀d∈ds,d.ment κ=false)-> ∀r∈rs,(r.own && r.k==κ)=false
 | [],rs,h,_,r,hr=>by simp [Zfq] at h;subst h;cases hr
 | .a (.one (.ref q))::rest,rs,h,hd,r,hr=>by
   simp only [Zfq] at h;split at h
   · rename_i rs' h';cases h;rcases List.mem_cons.1 hr with rfl|hr
     · have:=hd _ Yr;simpa [D.ment,A.ment,A.cells,C.ment] using this
     · exact Zmz h' (fun d hd'=>hd d (Yk _ hd')) r hr
   · cases h
 | .a (.one (.p _))::_,_,h,_,_,_=>by simp [Zfq] at h
 | .a (.one (.tip _ _))::_,_,h,_,_,_=>by simp [Zfq] at h
 | .a (.one (.view _ _))::_,_,h,_,_,_=>by simp [Zfq] at h
 | .a (.one (.clo _ _ _))::_,_,h,_,_,_=>by simp [Zfq] at h
 | .a (.one .nilp)::_,_,h,_,_,_=>by simp [Zfq] at h
 | .a (.one (.uniq _ _))::_,_,h,_,_,_=>by simp [Zfq] at h
 | .a (.one (.own _ _ _))::_,_,h,_,_,_=>by simp [Zfq] at h
 | .a (.one .junk)::_,_,h,_,_,_=>by simp [Zfq] at h
 | .a (.agg _)::_,_,h,_,_,_=>by simp [Zfq] at h
 | .undef::_,_,h,_,_,_=>by simp [Zfq] at h
 | .tup _::_,_,h,_,_,_=>by simp [Zfq] at h
 | .objs _::_,_,h,_,_,_=>by simp [Zfq] at h
def mem1 {P:D->Prop} {x:D} (h:P x): ∀d∈[x],P d:=by intro d hd;simp at hd;subst hd;exact h
def mem2 {P:D->Prop} {x y:D} (h:P x) (h':P y): ∀d∈[x,y],P d:=by intro d hd;simp at hd;rcases hd with rfl|rfl<;>assumption
def Ztm {F:ZaQ} {k:K} {ds ds':List D} {κ:Nat} (h:ZaI F k ds=some ds') (hcall:k.isCall=false) (hq:k.quiet=true) (hcr:k.creates≠some κ) (hd: ∀d∈ds,d.ment κ=false):
   ∀d∈ds',d.ment κ=false:=by
 cases k with
 | call=>cases hcall
 | callv=>cases hcall
 | mov=>
   simp only [ZaI] at h;unfold ZrX at h;split at h
   · cases h;exact hd
   · cases h
 | pick=>
   simp only [ZaI] at h;unfold ZqZ at h;split at h
   · rename_i b x y;cases h;refine mem1 ?_;cases b
     · exact hd y Zs
     · exact hd x Zs
   · cases h
 | alloc κ' z=>
   simp only [ZaI] at h;unfold ZnH at h;split at h
   · cases h;refine mem2 ?_ (Zqr hq κ);simp only [D.ment,A.ment,A.cells,C.ment,xC,List.any_nil,Bool.true_and,jF,beq_eq_false_iff_ne];exact fun hh=>hcr (by rw [hh];rfl)
   · cases h
 | box κ'=>
   simp only [ZaI] at h;unfold Ztb at h;split at h
   · rename_i x;cases h;refine mem2 ?_ (hd (.a x) Zs);simp only [D.ment,A.ment,A.cells,C.ment,xC,List.any_nil,Bool.true_and,jF,beq_eq_false_iff_ne];exact fun hh=>hcr (by rw [hh];rfl)
   · cases h
 | build z offs=>
   simp only [ZaI] at h;unfold Zi4 at h;split at h
   · rename_i cs hcs;cases h;exact mem1 (ZmD hcs (Zqr hq κ) hd)
   · cases h
 | load n=>
   simp only [ZaI] at h;unfold Zof at h;split at h
   · split at h
     · split at h
       · rename_i xs hxs x hx;cases h;refine mem1 (Zn7 hx ?_);rw [List.any_map,qS];intro p _;simp [C.ment]
       · cases h
     · cases h
   · cases h
 | loadB κ' n=>
   simp only [ZaI] at h;unfold ZkR at h;split at h
   · rename_i κ'' off cs;split at h
     · split at h
       · rename_i x hx;cases h;refine mem1 ?_;simp only [D.ment];rw [A.plain_ment];exact Ze9 hx (hd (.a (.agg cs)) Zs)
       · cases h
     · cases h
   · cases h
 | loadBT κ' n=>
   simp only [ZaI] at h;unfold ZiZ at h;split at h
   · rename_i κ'' off cs;split at h
     · split at h
       · rename_i x hx;cases h;have:=hd (.a (.agg cs)) Zs;exact mem2 (Ze9 hx this) (ZiF this)
       · cases h
     · cases h
   · cases h
 | loadO n=>
   simp only [ZaI] at h;unfold Zk6 at h;split at h
   · rename_i k off os;split at h
     · rename_i cs hcs;split at h
       · rename_i x hx;cases h;refine mem1 ?_;simp only [D.ment];rw [A.plain_ment];exact Ze9 hx (ZgO (hd (.objs os) Zs) hcs)
       · cases h
     · cases h
   · cases h
 | loadOT n=>simp [ZaI] at h
 | storeB κ' n=>
   simp only [ZaI] at h;unfold ZiJ at h;split at h
   · rename_i κ'' off x cs;split at h
     · split at h
       · rename_i cs' hcs';cases h;exact mem1 (Zqa hcs' (hd (.a (.agg cs)) Zs) (hd (.a x) Zs))
       · cases h
     · cases h
   · cases h
 | storeO n=>
   simp only [ZaI] at h;unfold Zit at h;split at h
   · rename_i k off x os;split at h
     · split at h
       · rename_i cs hcs;split at h
         · rename_i cs' hcs';cases h;have h0:=hd (.objs os) Zs;exact mem1 (ZjP h0 (Zqa hcs' (ZgO h0 hcs) (hd (.a x) Zs)))
         · cases h
       · cases h
     · cases h
   · cases h
 | nilCheck=>
   simp only [ZaI] at h;unfold Zhj at h;split at h
   · cases h;exact hd
   · cases h;exact hd
   · cases h
 | fieldAddr o=>
   simp only [ZaI] at h;unfold Zgl at h;split at h
   · rename_i r;cases h;have:=hd (.a (.one (.ref r))) Zs;exact mem1 (by simpa [D.ment,A.ment,A.cells,C.ment] using this)
   · cases h;exact mem1 rfl
   · cases h
 | indexAddr s=>
   simp only [ZaI] at h;unfold ZeU at h;split at h
   · rename_i r s' m n;split at h
     · cases h;have:=hd (.a (.one (.own r s' m))) Zs;exact mem1 (by simpa [D.ment,A.ment,A.cells,C.ment] using this)
     · cases h
   · split at h
     · split at h
       · split at h
         · cases h;exact mem1 rfl
         · cases h
       · cases h
     · cases h
   · cases h
 | indexS=>
   simp only [ZaI] at h;unfold ZiQ at h;split at h
   · split at h
     · split at h
       · cases h;exact mem1 rfl
       · cases h
     · cases h
   · cases h
 | bin op=>
   simp only [ZaI] at h;unfold ZrW at h;split at h
   · split at h
     · cases h;exact mem1 rfl
     · cases h
   · cases h
 | binB op=>
   simp only [ZaI] at h;unfold Zqu at h;split at h
   · split at h
     · cases h;exact mem1 rfl
     · cases h;exact mem1 rfl
     · cases h
   · cases h
 | neqS=>simp [ZaI] at h
 | not=>
   simp only [ZaI] at h;unfold Zuy at h;split at h
   · cases h;exact mem1 rfl
   · cases h
 | neg=>
   simp only [ZaI] at h;unfold ZuC at h;split at h
   · cases h;exact mem1 rfl
   · cases h
 | conv k=>
   simp only [ZaI] at h;unfold ZqP at h;split at h
   · cases h;exact mem1 rfl
   · cases h
 | convBS=>
   simp only [ZaI] at h;unfold ZiX at h;split at h
   · split at h
     · split at h
       · cases h;exact mem1 rfl
       · cases h
     · cases h
   · cases h
 | buildSlice s=>
   simp only [ZaI] at h;unfold ZdT at h;split at h
   · split at h
     · cases h;exact mem1 rfl
     · cases h
   · cases h
 | append s=>
   simp only [ZaI] at h;unfold Zg6 at h;split at h
   · split at h
     · split at h
       · cases h;exact mem1 rfl
       · cases h
     · cases h
   · cases h
 | len=>
   simp only [ZaI] at h;unfold ZtS at h;split at h
   · cases h;exact mem1 rfl
   · cases h;exact mem1 rfl
   · split at h
     · cases h;exact mem1 rfl
     · cases h
   · cases h
 | lenS=>
   simp only [ZaI] at h;unfold ZqI at h;split at h
   · cases h;exact mem1 rfl
   · cases h
 | min2=>
   simp only [ZaI] at h;unfold Zst at h;split at h
   · split at h
     · cases h;exact mem1 rfl
     · cases h
   · cases h
 | max2=>
   simp only [ZaI] at h;unfold Zsx at h;split at h
   · split at h
     · cases h;exact mem1 rfl
     · cases h
   · cases h
 | slice s lo hi mx=>
   simp only [ZaI] at h;unfold Zh5 at h;split at h
   · split at h
     · split at h
       · split at h
         · split at h
           · cases h
           · cases h;exact mem1 rfl
         · split at h
           · cases h;exact mem1 rfl
           · cases h
         · cases h
       · cases h
     · cases h
   · cases h
 | sliceS lo hi=>
   simp only [ZaI] at h;unfold Zku at h;split at h
   · split at h
     · cases h;exact mem1 rfl
     · cases h
   · cases h
 | extract i=>
   simp only [ZaI] at h;unfold ZfI at h;split at h
   · rename_i xs;split at h
     · rename_i x hx;cases h;refine mem1 ?_;have:=hd (.tup xs) Zs;simp only [D.ment,qS] at this;have:=this x (YA hx);simpa [D.ment] using this
     · cases h
   · cases h
 | makeFunc f first=>
   simp only [ZaI] at h;unfold Zhf at h;split at h
   · rename_i rs hrs;cases h;refine mem1 ?_;have:=Zmz hrs hd;simp only [D.ment,A.ment,A.cells,C.ment,xC,List.any_nil,jF,jO,qS];refine ⟨fun r hr=>?_,fun r hr=>?_⟩
     · simpa using this r (kW hr)
     · simpa using this r (kC hr)
   · cases h
 | makeSlice s=>
   simp only [ZaI] at h;unfold Zgn at h;split at h
   · split at h
     · cases h;exact mem1 rfl
     · cases h
   · cases h
 | makeSliceZ s z=>
   simp only [ZaI] at h;unfold Ze6 at h;split at h
   · split at h
     · cases h;exact mem1 rfl
     · cases h
   · cases h
 | sliceU s=>
   simp only [ZaI] at h;unfold Zko at h;split at h
   · split at h
     · cases h;exact mem1 rfl
     · cases h
   · cases h
 | appendU s=>
   simp only [ZaI] at h;unfold ZiL at h;split at h
   · split at h
     · split at h
       · cases h;exact mem1 rfl
       · cases h
     · cases h
   · cases h
 | makeMap κ'=>simp [ZaI] at h
 | lookup kk z=>simp [ZaI] at h
 | update kk=>simp [ZaI] at h
 | fail=>simp [ZaI] at h
def SOp.restOK (s:SOp):Bool:=
 match s.kind with
 | .call _ pass own na=>Zq6 (s.ins.drop na) ((if pass then [.k OBJS] else [])++own.map .k) && own.all (fun κ=>s.takes.elem κ) && (!pass||s.takes.elem OBJS)
 | .callv pass own na=>Zq6 (s.ins.drop (na+1)) ((if pass then [.k OBJS] else [])++own.map .k) && own.all (fun κ=>s.takes.elem κ) && (!pass||s.takes.elem OBJS)
 | _=>true
def Zml {m:Option Nat} {own:List Nat} {κ:Nat} (hκ:κ∉own) {r r':R} (h:R.up m own r=some r'):(r'.own && r'.k==κ)=false:=by
 unfold R.up at h;split at h
 · cases h
 · rename_i ho;split at h
   · cases h;simp [ho]
   · cases hq:own[r.k-m.getD 0]? with
     | none=>rw [hq] at h;cases h
     | some q=>
       rw [hq] at h;cases h;simp only [Bool.true_and,beq_eq_false_iff_ne];rintro rfl;exact hκ (YA hq)
def ZpK {φ:R->Option R} {p:R->Bool} (hp: ∀r r',φ r=some r'->p r'=false): ∀{l l':List R},l.mapM φ=some l'->l'.any p=false
 | [],l',h=>by simp at h;subst h;rfl
 | r::l,l',h=>by
   rw [yD] at h;cases h1:φ r with
   | none=>rw [h1] at h;cases h
   | some x=>
     rw [h1] at h;cases h2:l.mapM φ with
     | none=>rw [h2] at h;cases h
     | some y=>
       rw [h2] at h;have:x::y=l':=by simpa using h
       subst this;rw [xC,hp r x h1,ZpK hp h2];rfl
def ZqX {m:Option Nat} {own:List Nat} {κ:Nat} (hκ:κ∉own) {c c':C} (h:c.mapR (R.up m own)=some c'):c'.ment κ=false:=by
 cases c with
 | ref r=>
   simp only [C.mapR] at h;cases h1:R.up m own r with
   | none=>rw [h1] at h;cases h
   | some q=>rw [h1] at h;cases h;exact Zml hκ h1
 | clo f p q=>
   simp only [C.mapR] at h;split at h
   · rename_i x y hx hy;cases h;simp only [C.ment,ZpK (fun r r'=>Zml hκ) hx,ZpK (fun r r'=>Zml hκ) hy,jF]
   · cases h
 | own r s n=>
   simp only [C.mapR] at h;split at h
   · rename_i q h1;cases h;exact Zml hκ h1
   · cases h;rfl
 | mptr r=>
   simp only [C.mapR] at h;split at h
   · rename_i q h1;cases h;exact Zml hκ h1
   · cases h;rfl
 | map r es=>
   simp only [C.mapR] at h;split at h
   · rename_i q h1;cases h;exact Zml hκ h1
   · cases h;rfl
 | _=>cases h;rfl
def Zos {m:Option Nat} {own:List Nat} {κ:Nat} (hκ:κ∉own) {cs cs':List C} (h:Zl9 (R.up m own) cs=some cs'):cs'.any (C.ment κ)=false:=by
 rw [qS];intro c hc;obtain ⟨i,hi,rfl⟩:=YE hc;obtain ⟨y,_,hy⟩:=(Zhe h).2 i _ (Ya hi);rw [ZqX hκ hy];simp
def Zuj {m:Option Nat} {own:List Nat} {κ:Nat} (hκ:κ∉own) {x x':A} (h:x.mapR (R.up m own)=some x'):x'.ment κ=false:=by
 cases x with
 | one c=>
   simp only [A.mapR] at h;cases h1:c.mapR (R.up m own) with
   | none=>rw [h1] at h;cases h
   | some q=>
     rw [h1] at h;cases h;simp [A.ment,A.cells,ZqX hκ h1]
 | agg cs=>
   simp only [A.mapR] at h;cases h1:Zl9 (R.up m own) cs with
   | none=>rw [h1] at h;cases h
   | some q=>
     rw [h1] at h;cases h;exact Zos hκ h1
def Zj5 {F:ZaQ} {f:Nat} {pass:Bool} {own:List Nat} {args:List A} {rest ds:List D} (h:ZcU F f pass own args rest=some ds) {κ:Nat} (hκ:κ∉own): ∀d∈ds,d.ment κ=false:=by
 obtain ⟨os,bs,css,xs,os',rs,os'',_,_,_,_,_,hback⟩:=ZgJ h;obtain ⟨_,rs',os₂,hrs',hos₂,rfl⟩:=ZjY hback;have hA: ∀x∈rs',x.ment κ=false:=fun x hx=>by
   obtain ⟨i,hi,rfl⟩:=YE hx;obtain ⟨y,_,hy⟩:=(Zip hrs').2 i _ (Ya hi);exact Zuj hκ hy
 have hO: ∀cs∈os₂,cs.any (C.ment κ)=false:=fun cs hcs=>by
   obtain ⟨i,hi,rfl⟩:=YE hcs;obtain ⟨y,_,hy⟩:=(Zkr hos₂).2 i _ (Ya hi);exact Zos hκ hy
 intro d hd;rcases List.mem_cons.1 hd with rfl|hd
 · unfold resD;split
   · rename_i x;exact hA x Zs
   · simp only [D.ment,qS];intro x hx;rw [hA x hx];simp
 · rcases List.mem_append.1 hd with hd|hd
   · cases pass with
     | false=>cases hd
     | true=>
       simp at hd;subst hd;simp only [D.ment,qS];intro cs hcs;rw [hO cs (kW hcs)];simp
   · obtain ⟨cs,hcs,rfl⟩:=List.mem_map.1 hd;exact hO cs (kC hcs)
def ZoS: ∀{ks:List Nat} {ds:List D} {e e':Env},e.sets ks ds=some e'-> ∀k,(k∉ks/\e'.get k=e.get k)∨ ∃d∈ds,e'.get k=d
 | [],[],e,e',h,k=>by simp [Env.sets] at h;subst h;exact .inl ⟨by simp,rfl⟩
 | x::ks,d::ds,e,e',h,k=>by
   simp only [Env.sets] at h;rcases ZoS h k with ⟨h1,h2⟩|⟨d',h1,h2⟩
   · by_cases hx:x=k
     · subst hx;rw [Env.get_set_same] at h2;exact .inr ⟨d,by simp,h2⟩
     · rw [Env.get_set_ne _ _ hx] at h2;exact .inl ⟨by simp [h1,qY hx],h2⟩
   · exact .inr ⟨d',Yk _ h1,h2⟩
 | [],_::_,_,_,h,_=>by simp [Env.sets] at h
 | _::_,[],_,_,h,_=>by simp [Env.sets] at h
def ZhM: ∀{ks:List Nat} {ds:List D} {e e':Env},e.sets ks ds=some e'-> ∀{k},k∉ks->e'.get k=e.get k
 | [],[],e,e',h,k,_=>by simp [Env.sets] at h;subst h;rfl
 | x::ks,d::ds,e,e',h,k,hk=>by
   simp only [Env.sets] at h;rw [Yv,not_or] at hk;rw [ZhM h hk.2,Env.get_set_ne _ _ (qY hk.1)]
 | [],_::_,_,_,h,_,_=>by simp [Env.sets] at h
 | _::_,[],_,_,h,_,_=>by simp [Env.sets] at h
def Zs5 {e:Env} {κ:Nat} (hno:ZlQ e κ) {s:SOp} (hq:s.quiet=true): ∀d∈s.ins.map (Zbl e s.takes),d.ment κ=false:=by
 intro d hd;obtain ⟨y,hy,rfl⟩:=List.mem_map.1 hd;simp only [SOp.quiet,Yb] at hq;cases y with
 | k m=>
   simp only [Zbl];split
   · exact hno.2 m
   · rw [D.plain_ment];exact hno.2 m
 | c c=>
   have:=List.all_eq_true.1 hq.2 _ hy;simp only [Zbl,D.ment,A.ment,A.cells,xC,List.any_nil,jF];exact C.quiet_ment this κ
def Zvw {pass:Bool} {own:List Nat} {rest:List Arg} {takes:List Nat} {e:Env} {κ:Nat} (hno:ZlQ e κ) (hr:rest=(if pass then [.k OBJS] else [])++own.map .k) (ht:own.all (fun κ=>takes.elem κ)=true) (ho:(!pass||takes.elem OBJS)=true)
  {F:ZaQ} {f:Nat} {args:List A} {ds:List D} (h:ZcU F f pass own args (rest.map (Zbl e takes))=some ds):κ∉own:=by
 obtain ⟨os,bs,css,xs,os',rs,os'',hsp,hbs,_⟩:=ZgJ h;have hrd:rest.map (Zbl e takes)=(if pass then [e.get OBJS] else [])++own.map e.get:=by
  rw [hr,YC];congr 1
  ·cases hps:pass with
   | false=>rfl
   | true=>rw [hps] at ho;simp at ho;simp [Zbl,ho]
  ·rw [YL];refine YD fun κ hκ=>?_;have:=List.all_eq_true.1 ht κ hκ;simp only [Function.comp,Zbl];rw [if_pos this]
 rw [hrd] at hsp;obtain ⟨rfl,_,_⟩:=ZnX hsp;intro hm;obtain ⟨i,hi,hik⟩:=YE hm;obtain ⟨hl,hg⟩:=Zjz hbs;rw [Yh] at hl;have:=hg i _ (Ya Zo);rw [Yn,Ya hi,hik] at this;simp only [YN,Ye,hno.1] at this;cases this
def ZoJ {F:ZaQ} {s:SOp} {e e':Env} {κ:Nat} (hno:ZlQ e κ) (h:doOp F s e=some e') (hq:s.quiet=true) (hr:s.restOK=true) (hcr:s.kind.creates≠some κ) (hout:κ∉s.outs):ZlQ e' κ:=by
 unfold doOp at h;split at h
 · cases h
 · rename_i ds hs;have hm: ∀d∈ds,d.ment κ=false:=by
     have hargs:=Zs5 hno hq;cases hk:s.kind with
     | call f pass own na=>
       rw [hk] at hs;simp only [ZaI,Zj7] at hs;simp only [SOp.restOK,hk,Yb] at hr;split at hs
       · rw [<-kN] at hs;exact Zj5 hs (Zvw hno (Zg7 hr.1.1) hr.1.2 hr.2 hs)
       · cases hs
     | callv pass own na=>
       rw [hk] at hs;simp only [ZaI] at hs;simp only [SOp.restOK,hk,Yb] at hr;unfold Zju at hs;split at hs
       · rename_i f first caps xs heq
         split at hs
         · have hd:xs.drop na=(s.ins.drop (na+1)).map (Zbl e s.takes):=by
             rw [kN,heq];rfl
           rw [hd] at hs;exact Zj5 hs (Zvw hno (Zg7 hr.1.1) hr.1.2 hr.2 hs)
         · cases hs
       · cases hs
     | _=>
       refine Ztm hs (by rw [hk];rfl) ?_ hcr hargs;simp only [SOp.quiet,Yb] at hq;exact hq.1
   have key: ∀k,(ZaA e s.takes).get k=e.get k∨(ZaA e s.takes).get k=(e.get k).plain:=fun k=>(ZhS s.takes e k).imp id (·.2);refine ⟨?_,fun k=>?_⟩
   · rw [ZhM h hout];rcases key κ with h2|h2
     · rw [h2];exact hno.1
     · rw [h2,hno.1];rfl
   · rcases ZoS h k with ⟨_,h1⟩|⟨d,h1,h2⟩
     · rw [h1];rcases key k with h2|h2
       · rw [h2];exact hno.2 k
       · rw [h2,D.plain_ment];exact hno.2 k
     · rw [h2];exact hm d h1
end Go.Am
end
section
namespace Go.Am
variable [WI]
variable {Pg:Program} {F:ZaQ}
def Same (e e':Env):Prop:= ∀k,e.get k=e'.get k
def Same.refl (e:Env):Same e e:=fun _=>rfl
def Same.symm {e e':Env} (h:Same e e'):Same e' e:=fun k=>(h k).symm
def Same.trans {e e' e'':Env} (h:Same e e') (h':Same e' e''):Same e e'':=fun k=>(h k).trans (h' k)
def ZsA:List Arg->List Nat
 | []=>[]
 | .k n::r=>n::ZsA r
 | .c _::r=>ZsA r
def ZqA:Option (Nat×Bool)->List Nat
 | some (g,_)=>[g]
 | none=>[]
def SOp.reads (s:SOp):List Nat:=ZqA s.guard++(ZsA s.ins++s.takes)
def SOp.writes (s:SOp):List Nat:=s.takes++s.outs
def Zxc (xs ys:List Nat):Bool:=xs.all fun x=> !ys.elem x
def ZkZ {xs ys:List Nat} (h:Zxc xs ys=true) {k:Nat} (hx:k∈xs):k∉ys:=by
 have:=List.all_eq_true.1 h k hx;simpa using this
def SOp.indep (s t:SOp):Bool:=Zxc s.writes t.reads && Zxc t.writes s.reads && Zxc s.writes t.writes
def Zr7 {l:List Arg} {n:Nat} (h:Arg.k n∈l):n∈ZsA l:=by
 induction l with
 | nil=>cases h
 | cons y r ih=>
   rcases List.mem_cons.1 h with rfl|h'
   · exact Yr
   · cases y with
     | k m=>exact Yk _ (ih h')
     | c c=>exact ih h'
def ZsV {e u₀:Env} {ins:List Arg} {takes:List Nat} (h: ∀k∈ZsA ins,e.get k=u₀.get k):ins.map (Zbl e takes)=ins.map (Zbl u₀ takes):=by
 refine YD fun y hy=>?_;cases y with
 | k n=>simp only [Zbl,h n (Zr7 hy)]
 | c c=>rfl
def Zis: ∀(ks:List Nat) {e u₀:Env} {k:Nat},e.get k=u₀.get k->(ZaA e ks).get k=(ZaA u₀ ks).get k
 | [],_,_,_,h=>h
 | x::ks,e,u₀,k,h=>by
   simp only [ZaA];refine Zis ks ?_;by_cases hx:x=k
   · subst hx;rw [Env.get_set_same,Env.get_set_same,h]
   · rw [Env.get_set_ne _ _ hx,Env.get_set_ne _ _ hx,h]
def Zoo: ∀{ks:List Nat} {ds:List D} {e u₀ e':Env},e.sets ks ds=some e'-> ∃u',u₀.sets ks ds=some u'/\ ∀k,e.get k=u₀.get k->e'.get k=u'.get k
 | [],[],e,u₀,e',h=>by simp [Env.sets] at h;subst h;exact ⟨u₀,rfl,fun _ h=>h⟩
 | x::ks,d::ds,e,u₀,e',h=>by
   simp only [Env.sets] at h;obtain ⟨u',h1,h2⟩:=Zoo (u₀:=u₀.set x d) h;refine ⟨u',h1,fun k hk=>h2 k ?_⟩;by_cases hx:x=k
   · subst hx;rw [Env.get_set_same,Env.get_set_same]
   · rw [Env.get_set_ne _ _ hx,Env.get_set_ne _ _ hx,hk]
 | [],_::_,_,_,_,h=>by simp [Env.sets] at h
 | _::_,[],_,_,_,h=>by simp [Env.sets] at h
def Zoi {s:SOp} {e u₀ e':Env} (hr: ∀k∈s.reads,e.get k=u₀.get k) (h:doOp F s e=some e'): ∃u',doOp F s u₀=some u'/\ ∀k,e.get k=u₀.get k->e'.get k=u'.get k:=by
 have ha:=ZsV (takes:=s.takes) (fun k hk=>hr k (List.mem_append_right _ (List.mem_append_left _ hk)));unfold doOp at h⊢;rw [ha] at h;split at h
 ·cases h
 ·rename_i ds hs;obtain ⟨u',h1,h2⟩:=Zoo (u₀:=ZaA u₀ s.takes) h;exact ⟨u',h1,fun k hk=>h2 k (Zis _ hk)⟩
def ZkW {s:SOp} {e u₀:Env} {k:Nat} (h:e.get k=u₀.get k):(ZdW s e).get k=(ZdW s u₀).get k:=by
 unfold ZdW;split
 ·rename_i x _ _ _;by_cases hx:x=k
  ·subst hx;rw [Env.get_set_same,Env.get_set_same]
  ·rw [Env.get_set_ne _ _ hx,Env.get_set_ne _ _ hx,h]
 ·exact h
def ZkU {s:SOp} {e u₀ e':Env} (hr: ∀k∈s.reads,e.get k=u₀.get k) (h:ZaT F s e=some e'): ∃u',ZaT F s u₀=some u'/\ ∀k,e.get k=u₀.get k->e'.get k=u'.get k:=by
 unfold ZaT at h⊢;split at h
 ·exact Zoi hr h
 ·rename_i gk want hg;have hgk:e.get gk=u₀.get gk:=hr gk (by simp [SOp.reads,hg,ZqA]);rw [hgk] at h;split at h
  ·split at h
   ·rename_i hb;rw [if_pos hb];exact Zoi hr h
   ·rename_i hb;rw [if_neg hb];cases h;exact ⟨_,rfl,fun k hk=>ZkW hk⟩
  ·cases h;exact ⟨_,rfl,fun k hk=>ZkW hk⟩
  ·cases h
def ZoO {s:SOp} {e e':Env} (h:doOp F s e=some e') {k:Nat} (hk:k∉s.writes):e'.get k=e.get k:=by
 unfold doOp at h;split at h
 ·cases h
 ·simp only [SOp.writes,Ys,not_or] at hk;rw [ZhM h hk.2,ZeP hk.1]
def Zlt {s:SOp} {e:Env} {k:Nat} (hk:k∉s.writes):(ZdW s e).get k=e.get k:=by
 unfold ZdW;split
 ·rename_i x _ _ ho;refine Env.get_set_ne _ _ fun hh=>hk ?_;simp [SOp.writes,ho,hh]
 ·rfl
def ZfW {s:SOp} {e e':Env} (h:ZaT F s e=some e') {k:Nat} (hk:k∉s.writes):e'.get k=e.get k:=by
 unfold ZaT at h;split at h
 ·exact ZoO h hk
 ·split at h
  ·split at h
   ·exact ZoO h hk
   ·cases h;exact Zlt hk
  ·cases h;exact Zlt hk
  ·cases h
def ZuS {s t:SOp} (hi:s.indep t=true) {e e1 e2:Env} (h1:ZaT F s e=some e1) (h2:ZaT F t e1=some e2):
  ∃e1' e2',ZaT F t e=some e1'/\ZaT F s e1'=some e2'/\Same e2 e2':=by
 simp only [SOp.indep,Yb] at hi;obtain ⟨⟨i1,i2⟩,i3⟩:=hi;have hst: ∀k∈t.reads,e1.get k=e.get k:=fun k hk=>ZfW h1 fun hw=>ZkZ i1 hw hk;obtain ⟨e1',q1,q2⟩:=ZkU hst h2;have hts: ∀k∈s.reads,e.get k=e1'.get k:=fun k hk=>(ZfW q1 fun hw=>ZkZ i2 hw hk).symm;obtain ⟨e2',r1,r2⟩:=ZkU hts h1;refine ⟨e1',e2',q1,r1,fun k=>?_⟩;by_cases hk:k∈s.writes
 ·have hkt:=ZkZ i3 hk;rw [ZfW h2 hkt];exact r2 k (ZfW q1 hkt).symm
 ·rw [ZfW r1 hk];exact q2 k (ZfW h1 hk)
def Zqz: ∀{l:List SOp} {e u₀ e':Env},Same e u₀->Zdo F l e=some e'-> ∃u',Zdo F l u₀=some u'/\Same e' u'
 | [],e,u₀,e',hs,h=>by simp [Zdo] at h;subst h;exact ⟨u₀,rfl,hs⟩
 | s::l,e,u₀,e',hs,h=>by
   simp only [Zdo] at h⊢;split at h
   · rename_i e1 h1;obtain ⟨u₁,q1,q2⟩:=ZkU (fun k _=>hs k) h1;rw [q1];exact Zqz (fun k=>q2 k (hs k)) h
   · cases h
def Zqt: ∀{pre:List SOp} {s:SOp} {post:List SOp} {e ef:Env},(∀p∈pre,p.indep s=true)->Zdo F (pre++s::post) e=some ef->
   ∃e1 ef',ZaT F s e=some e1/\Zdo F (pre++post) e1=some ef'/\Same ef ef'
 | [],s,post,e,ef,_,h=>by
   simp only [YP,Zdo] at h;split at h
   · rename_i e1 h1;exact ⟨e1,ef,h1,h,.refl _⟩
   · cases h
 | p::pre,s,post,e,ef,hp,h=>by
   simp only [List.cons_append,Zdo] at h;split at h
   · rename_i e1 h1;obtain ⟨e2,ef',q1,q2,q3⟩:=Zqt (fun p hp'=>hp p (Yk _ hp')) h;obtain ⟨e1',e2',r1,r2,r3⟩:=ZuS (hp p Yr) h1 q1;obtain ⟨ef'',t1,t2⟩:=Zqz r3 q2;refine ⟨e1',ef'',r1,?_,q3.trans t2⟩;simp only [List.cons_append,Zdo,r2];exact t1
   · cases h
def rem (L:Nat->Bool):Nat->List SOp->List SOp
 | _,[]=>[]
 | i,s::ss=>if L i then rem L (i+1) ss else s::rem L (i+1) ss
def ZtQ {L L':Nat->Bool} {j:Nat} {s:SOp} (hL': ∀i,L' i=(L i||i==j)) (hj:L j=false): ∀(i:Nat) (ss:List SOp),i<=j->ss[j-i]? =some s->
   ∃pre post,rem L i ss=pre++s::post/\rem L' i ss=pre++post/\ ∀p∈pre,∃m,i<=m/\m<j/\L m=false/\ss[m-i]? =some p:=by
 intro i ss
 induction ss generalizing i with
 | nil=>intro _ h;simp at h
 | cons x ss ih=>
   intro hi hs;rcases Nat.eq_or_lt_of_le hi with rfl|hlt
   · simp at hs;subst hs;refine ⟨[],rem L (i+1) ss,by simp [rem,hj],?_,by simp⟩;have hir: ∀(m:Nat) (l:List SOp),i<m->rem L' m l=rem L m l:=by
       intro m l
       induction l generalizing m with
       | nil=>intro _;rfl
       | cons y l ih'=>
         intro hm;have:L' m=L m:=by rw [hL'];simp;omega
         simp only [rem,this,ih' (m+1) Zo]
     simp only [rem,hL',beq_self_eq_true,Bool.or_true,if_true,YP];exact hir _ _ Zo
   · have hs':ss[j-(i+1)]? =some s:=by
       rw [show j-i=(j-(i+1))+1 by omega] at hs;simpa using hs
     obtain ⟨pre,post,h1,h2,h3⟩:=ih (i+1) hlt hs';have hLi:L' i=L i:=by rw [hL'];simp;omega
     have hsh: ∀p∈pre,∃m,i<=m/\m<j/\L m=false/\(x::ss)[m-i]? =some p:=fun p hp=>by
       obtain ⟨m,m1,m2,m3,m4⟩:=h3 p hp;refine ⟨m,by omega,m2,m3,?_⟩;rw [show m-i=(m-(i+1))+1 by omega];simpa using m4
     cases hc:L i with
     | true=>exact ⟨pre,post,by simp [rem,hc,h1],by simp [rem,hLi,hc,h2],hsh⟩
     | false=>
       refine ⟨x::pre,post,by simp [rem,hc,h1],by simp [rem,hLi,hc,h2],fun p hp=>?_⟩;rcases List.mem_cons.1 hp with rfl|hp
       · exact ⟨i,Yc _,hlt,hc,by simp⟩
       · exact hsh p hp
def Zvu {L:Nat->Bool}: ∀(i:Nat) (ss:List SOp),(∀m,i<=m->m<i+ss.length->L m=true)->rem L i ss=[]
 | _,[],_=>rfl
 | i,s::ss,h=>by
   simp only [rem,h i (Yc _) Zs,if_true];exact Zvu (i+1) ss fun m h1 h2=>h m Zo Ze
def Zpl {L:Nat->Bool}: ∀(i:Nat) (ss:List SOp),(∀m,i<=m->m<i+ss.length->L m=false)->rem L i ss=ss
 | _,[],_=>rfl
 | i,s::ss,h=>by
   simp only [rem,h i (Yc _) Zs,Yw,if_false];rw [Zpl (i+1) ss fun m h1 h2=>h m Zo Ze]
end Go.Am
end
