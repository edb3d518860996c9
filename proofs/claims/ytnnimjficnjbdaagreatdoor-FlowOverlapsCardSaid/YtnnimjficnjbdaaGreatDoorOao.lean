/- Part. -/
import Derived.Test.YtnnimjficnjbdaaGreatDoorOak
import Derived.ChangeArms
import Derived.WideShapes
import Derived.ChangeShapes
import Derived.DataReads
set_option maxRecDepth 999999
set_option maxHeartbeats 0
set_option linter.all false
section
namespace Go.Am
abbrev wiB:WI:=⟨fun _ _=>True,fun _ _ _=>trivial⟩
attribute [local instance] wiB
open Go.ChangeShapes Go.WideShapes
def Shp (Pg:Program):Nat->TypeId->List P->Prop
 | 0,_,_=>False
 | n+1,t,xs=>match Pg.underlying t with
   | some .bool=> ∃b,xs=[.bool b]
   | some (.int k)=> ∃v,xs=[.int k v]/\k.min<=v/\v<=k.max
   | some .string=> ∃s:ByteArray,xs=[.str (ZbJ s)]/\s.size<=maxLen
   | some (.slice e)=> ∃rows,xs=[.sl (Pg.cellsOf e) rows]/\rows.length<=9223372036854775807/\ ∀row∈rows,Shp Pg n e row
   | some (.struct fs)=>xs.length=Pg.cellsOf t/\ ∀f∈fs.toList,Shp Pg n f.type ((xs.drop f.offset).take (Pg.cellsOf f.type))
   | some (.array k e)=>xs.length=Pg.cellsOf t/\ ∀i,i<k->Shp Pg n e ((xs.drop (i*Pg.cellsOf e)).take (Pg.cellsOf e))
   | _=>False
def tile (Pg:Program):List Field->Nat->Option Nat
 | [],m=>some m
 | f::r,m=>if f.offset=m then tile Pg r (m+Pg.cellsOf f.type) else none
def okSh (Pg:Program) (S:List TypeId) (t:TypeId):Bool:=match Pg.underlying t with
 | some .bool=>true
 | some (.int _)=>true
 | some .string=>true
 | some (.slice e)=>S.elem e && Nat.blt 0 (Pg.cellsOf e)
 | some (.struct fs)=>tile Pg fs.toList 0==some (Pg.cellsOf t) && fs.toList.all fun f=>S.elem f.type
 | some (.array k e)=>k*Pg.cellsOf e==Pg.cellsOf t && S.elem e
 | _=>false
variable {Pg:Program} {W:World} {pr:Nat->Nat} {H:Type} {enc:TypeId×Value->H} {base:Nat} {spare:Nat->Bool} {held:Bool}
def RepL (pr:Nat->Nat) (W:World) (cs:List Value) (xs:List P):Prop:=xs.length=cs.length/\ ∀(i:Nat) v x,cs[i]? =some v->xs[i]? =some x->RepP pr W v x
theorem RepL.one {v:Value} {x:P} (h:RepP pr W v x):RepL pr W [v] [x]:=⟨rfl,fun i u y hu hy=>by
 cases i with
 | zero=>simp at hu hy;subst hu;subst hy;exact h
 | succ i=>simp at hu⟩
theorem RepL.append {a b:List Value} {x y:List P} (h:RepL pr W a x) (h':RepL pr W b y):RepL pr W (a++b) (x++y):=by
 refine ⟨by simp [h.1,h'.1],fun i v z hv hz=>?_⟩
 rcases Nat.lt_or_ge i a.length with hi|hi
 ·rw [List.getElem?_append_left hi] at hv
  rw [List.getElem?_append_left (by rw [h.1];exact hi)] at hz
  exact h.2 i v z hv hz
 ·rw [List.getElem?_append_right hi] at hv
  rw [List.getElem?_append_right (by rw [h.1];exact hi),h.1] at hz
  exact h'.2 _ v z hv hz
theorem ZKq {Q:TypeId->List P->Prop}: ∀(fs:List Field) (m z:Nat) (cs:List Value),tile Pg fs m=some z->m<=cs.length->z=cs.length->
   (∀f∈fs,∃xs,RepL pr W ((cs.drop f.offset).take (Pg.cellsOf f.type)) xs/\Q f.type xs)->
   ∃xs,RepL pr W (cs.drop m) xs/\ ∀f∈fs,m<=f.offset/\Q f.type ((xs.drop (f.offset-m)).take (Pg.cellsOf f.type))
 | [],m,z,cs,ht,hm,hz,_=>by
   simp only [tile,Option.some.injEq] at ht
   subst ht
   exact ⟨[],⟨by simp [hz],fun i v x hv hx=>by simp at hx⟩,fun f hf=>by cases hf⟩
 | f::fs,m,z,cs,ht,hm,hz,h=>by
   simp only [tile] at ht
   split at ht
   · rename_i ho
     have hle: ∀(l:List Field) (k y:Nat),tile Pg l k=some y->k<=y:=by
       intro l
       induction l with
       | nil=>intro k y hy;simp [tile] at hy;omega
       | cons a l ih=>
         intro k y hy
         simp only [tile] at hy
         split at hy
         · have:=ih _ _ hy;omega
         · cases hy
     have hk:=hle _ _ _ ht
     obtain ⟨x,hx,hq⟩:=h f Zs
     rw [ho] at hx
     obtain ⟨xs,hxs,hf⟩:=ZKq fs (m+Pg.cellsOf f.type) z cs ht Zo hz (fun f' hf'=>h f' (by simp [hf']))
     have hlen:x.length=Pg.cellsOf f.type:=by rw [hx.1];simp;omega
     refine ⟨x++xs,?_,fun f' hf'=>?_⟩
     · have:=hx.append hxs
       rwa [show cs.drop (m+Pg.cellsOf f.type)=(cs.drop m).drop (Pg.cellsOf f.type) by rw [List.drop_drop],List.take_append_drop] at this
     · rcases List.mem_cons.1 hf' with rfl|hf'
       · refine ⟨by omega,?_⟩
         rw [ho,Nat.sub_self,List.drop_zero,List.take_left' hlen];exact hq
       · obtain ⟨q1,q2⟩:=hf f' hf'
         refine ⟨by omega,?_⟩
         rw [show f'.offset-m=Pg.cellsOf f.type+(f'.offset-(m+Pg.cellsOf f.type)) by omega,<-List.drop_drop,List.drop_left' hlen]
         exact q2
   · cases ht
theorem ZKA {Q:List P->Prop} {s:Nat}: ∀(k m:Nat) (cs:List Value),cs.length=(m+k)*s->(∀i,m<=i->i<m+k-> ∃xs,RepL pr W ((cs.drop (i*s)).take s) xs/\Q xs)->
   ∃xs,RepL pr W (cs.drop (m*s)) xs/\ ∀i,i<k->Q ((xs.drop (i*s)).take s)
 | 0,m,cs,hl,_=>⟨[],⟨by simp [hl],fun i v x hv hx=>by simp at hx⟩,fun i hi=>by omega⟩
 | k+1,m,cs,hl,h=>by
   obtain ⟨x,hx,hq⟩:=h m (Nat.le_refl _) Zo
   obtain ⟨xs,hxs,hf⟩:=ZKA k (m+1) cs (by rw [hl];congr 1;omega) (fun i h1 h2=>h i Zo Zo)
   have hml:(m+(k+1))*s=m*s+(s+k*s):=by rw [Nat.add_mul,Nat.add_mul];omega
   have hlen:x.length=s:=by rw [hx.1];simp;omega
   refine ⟨x++xs,?_,fun i hi=>?_⟩
   · have:=hx.append hxs
     rwa [show cs.drop ((m+1)*s)=(cs.drop (m*s)).drop s by rw [List.drop_drop,Nat.add_mul,Nat.one_mul],List.take_append_drop] at this
   · cases i with
     | zero=>rw [Nat.zero_mul,List.drop_zero,List.take_left' hlen];exact hq
     | succ i=>
       rw [show (i+1)*s=s+i*s by rw [Nat.add_mul];omega,<-List.drop_drop,List.drop_left' hlen]
       exact hf i Zo
theorem ZPs {S:List TypeId} (hS: ∀t∈S,okSh Pg S t=true) (hpr: ∀b o v,W.cell? ⟨b,o,none⟩=some v->o<pr b): ∀(n:Nat) (t:TypeId) (cs:List Value) (x:DataW H×List MemPlace),t∈S->DataW.trod enc Pg W base spare held n t cs=some x->
   ∃xs,RepL pr W cs xs/\Shp Pg n t xs
 | 0,t,cs,x,_,h=>by simp [DataW.trod] at h
 | n+1,t,cs,x,ht,h=>by
   have ih:=ZPs hS hpr n
   have hok:=hS t ht
   unfold okSh at hok
   split at hok
   · rename_i hu
     unfold DataW.trod at h
     rw [hu] at h
     split at h<;>simp_all
     exact ⟨_,.one (.bool _),by simp only [Shp,hu];exact ⟨_,rfl⟩⟩
   · rename_i k hu
     unfold DataW.trod at h
     rw [hu] at h
     split at h<;>simp_all
     obtain ⟨⟨rfl,hw⟩,_⟩:=h
     simp only [Lit.wf,Bool.and_eq_true,decide_eq_true_eq] at hw
     exact ⟨_,.one (.int _ _),by simp only [Shp,hu];exact ⟨_,rfl,hw⟩⟩
   · rename_i hu
     unfold DataW.trod at h
     rw [hu] at h
     split at h<;>simp_all
     rename_i s
     exact ⟨_,.one (.str _ _ rfl),by simp only [Shp,hu];exact ⟨s,rfl,h.1⟩⟩
   · rename_i e hu
     simp only [Bool.and_eq_true,Nat.blt_eq] at hok
     obtain ⟨he,h0⟩:=hok
     have he:e∈S:=by simpa using he
     rcases DataW.trod_slice hu h with ⟨rfl,_⟩|⟨a,len,cap,elems,rest,m,hm,rfl,_,hb,hl,hmx,hlen,hel,_,_⟩
     · exact ⟨_,.one (.nils none 0 (Pg.cellsOf e)),by simp only [Shp,hu];exact ⟨[],rfl,by simp,fun _ h=>by cases h⟩⟩
     · have hm:n=m:=by omega
       subst hm
       obtain ⟨rws,hrl,hrw⟩:=Zmh (List.range len) (fun i (_:Nat) (r:List P)=> ∃csi,W.cells? base (a.add (i*Pg.cellsOf e)) (Pg.cellsOf e)=some csi/\RepL pr W csi r/\Shp Pg n e r) (fun i j hj=>by
         have hi:=Zaq hj
         simp at hi
         have hx:elems[i]? =some (elems[i]'(by omega)):=List.getElem?_eq_getElem _
         have:=hel i hi
         rw [hx,Option.bind_eq_some_iff] at this
         obtain ⟨csi,c1,c2⟩:=this
         obtain ⟨r,r1,r2⟩:=ih e csi _ he c2
         exact ⟨r,csi,c1,r1,r2⟩)
       rw [List.length_range] at hrl
       have hrow: ∀i r,rws[i]? =some r-> ∃csi,W.cells? base (a.add (i*Pg.cellsOf e)) (Pg.cellsOf e)=some csi/\RepL pr W csi r/\Shp Pg n e r:=fun i r hr=>by
         have hi:=Zaq hr
         exact hrw i i r (List.getElem?_range Zo) hr
       have hshp:Shp Pg (n+1) t [.sl (Pg.cellsOf e) rws]:=by
         simp only [Shp,hu]
         refine ⟨rws,rfl,by unfold maxLen at hmx;omega,fun row hr=>?_⟩
         obtain ⟨i,hi⟩:=List.mem_iff_getElem?.1 hr
         obtain ⟨_,_,_,h3⟩:=hrow i row hi
         exact h3
       by_cases hl0:len=0
       · subst hl0
         have:rws=[]:=by simpa using hrl
         subst this
         exact ⟨_,.one (.nils (some a) cap _),hshp⟩
       · obtain ⟨b,off,spot⟩:=a
         have hr0:rws[0]? =some (rws[0]'(by omega)):=List.getElem?_eq_getElem _
         have hspot:spot=none:=by
           obtain ⟨csi,c1,c2,_⟩:=hrow 0 _ hr0
           obtain ⟨_,c3,c4⟩:=World.cells?_some c1
           have hv:csi[0]? =some (csi[0]'(by omega)):=List.getElem?_eq_getElem _
           have:=c4 0 h0
           rw [hv] at this
           have h1:=World.cell?_spot this
           simpa [Addr.add] using h1
         subst hspot
         have hcell: ∀i r,rws[i]? =some r->r.length=Pg.cellsOf e/\ ∀j,j<Pg.cellsOf e-> ∃v,W.cell? ⟨b,off+i*Pg.cellsOf e+j,none⟩=some v/\ ∀x,r[j]? =some x->RepP pr W v x:=fun i r hr=>by
           obtain ⟨csi,c1,c2,_⟩:=hrow i r hr
           obtain ⟨_,c3,c4⟩:=World.cells?_some c1
           refine ⟨by rw [c2.1,c3],fun j hj=>?_⟩
           have hv:csi[j]? =some (csi[j]'(by omega)):=List.getElem?_eq_getElem _
           refine ⟨_,?_,fun x hx=>c2.2 j _ x hv hx⟩
           have:=c4 j hj
           rw [Addr.add_eq,Addr.add_eq,hv] at this
           exact this
         refine ⟨_,.one (.sl b off len cap (Pg.cellsOf e) rws (fun i j=>(W.cell? ⟨b,off+i*Pg.cellsOf e+j,none⟩).getD undef) hrl.symm hl ?_ (fun i r hr=>(hcell i r hr).1) (fun i j hi hj=>?_) (fun i r j x hr hx=>?_)),hshp⟩
         · have hz:rws[len-1]? =some (rws[len-1]'(by omega)):=List.getElem?_eq_getElem _
           obtain ⟨v,hv,_⟩:=(hcell (len-1) _ hz).2 (Pg.cellsOf e-1) Zo
           have:=hpr b _ v hv
           have hmul:len*Pg.cellsOf e=(len-1)*Pg.cellsOf e+Pg.cellsOf e:=by
             have h1:len=(len-1)+1:=by omega
             conv=>lhs;rw [h1,Nat.add_mul,Nat.one_mul]
           omega
         · have hr:rws[i]? =some (rws[i]'(by omega)):=List.getElem?_eq_getElem _
           obtain ⟨v,hv,_⟩:=(hcell i _ hr).2 j hj
           rw [hv];rfl
         · obtain ⟨hl',hc⟩:=hcell i r hr
           have hj:=Zaq hx
           obtain ⟨v,hv,hq⟩:=hc j Zo
           rw [hv];exact hq x hx
   · rename_i fs hu
     simp only [Bool.and_eq_true,beq_iff_eq] at hok
     obtain ⟨htl,hall⟩:=hok
     unfold DataW.trod at h
     rw [hu] at h
     simp only at h
     split at h
     · rename_i hcl
       simp only [Option.map_eq_some_iff] at h
       obtain ⟨xs,hxs,_⟩:=h
       have each:=mapM_each hxs
       obtain ⟨ys,h1,h2⟩:=ZKq (pr:=pr) (W:=W) (Q:=Shp Pg n) fs.toList 0 _ cs htl (Nat.zero_le _) hcl.symm (fun f hf=>by
         obtain ⟨y,hy⟩:=each f hf
         exact ih f.type _ y (by have:=List.all_eq_true.1 hall f hf;simpa using this) hy)
       refine ⟨ys,h1,?_⟩
       simp only [Shp,hu]
       exact ⟨by rw [h1.1];exact hcl,fun f hf=>(h2 f hf).2⟩
     · cases h
   · rename_i k e hu
     simp only [Bool.and_eq_true,beq_iff_eq] at hok
     obtain ⟨hk,he⟩:=hok
     have he:e∈S:=by simpa using he
     unfold DataW.trod at h
     rw [hu] at h
     simp only at h
     split at h
     · rename_i hcl
       simp only [Option.map_eq_some_iff] at h
       obtain ⟨xs,hxs,_⟩:=h
       have each:=mapM_each hxs
       obtain ⟨ys,h1,h2⟩:=ZKA (pr:=pr) (W:=W) (Q:=Shp Pg n e) (s:=Pg.cellsOf e) k 0 cs (by rw [Nat.zero_add,hk];exact hcl) (fun i _ hi=>by
         obtain ⟨y,hy⟩:=each i Ze
         exact ih e _ y he hy)
       refine ⟨ys,by simpa using h1,?_⟩
       simp only [Shp,hu]
       exact ⟨by rw [h1.1];simpa using hcl,h2⟩
     · cases h
   · cases hok
end Go.Am
end
