/- Texts A37 A38 A39 A40 C1 A41 C2 A62 A63 (made short by a program) -/
import Derived.Test.YtkmclibmmlgogaaGreatB4
import Derived.OpenShut
import Derived.SizedLaws
set_option linter.unusedVariables false
set_option linter.unusedSimpArgs false
open Bool renaming false_eq_true → b7
open List renaming getElem?_append_left → x9, getElem?_append_right → s7, getElem?_eq_getElem → s9, getElem?_eq_none → A8, mem_cons → C6, replicate → c9
open Nat renaming add_assoc → H9, le_refl → n5, lt_or_ge → u9
namespace Go.y3
inductive CT where
 |bool
 |int (k:IntKind)
 |str
 |slice (e:List CT)
mutual
def Fits:CT->Data->Prop
 | .bool,d=>∃ b,d= .bool b
 | .int k,d=>∃ n,d= .int k n/\(Lit.int k n).wf=true
 | .str,d=>∃ s:List UInt8,d= .str s/\s.length<=maxLen
 | .slice e,d=>∃ rows:List (List Data),d= .slice rows.length rows.flatten/\rows.length<=maxLen/\∀ r,r ∈ rows->W9 e r
def W9:List CT->List Data->Prop
 |[],ds=>ds=[]
 |c::cs,ds=>∃ d r,ds=d::r/\Fits c d/\W9 cs r
end
theorem W9.length:∀ (l:List CT) (ds:List Data),W9 l ds->ds.length=l.length
 |[],ds,h=>by simp_all [W9]
 |c::cs,ds,h=>by
  obtain ⟨d,r,rfl,_,h3⟩:=h;simp [W9.length cs r h3]
theorem kr:∀ {l m:List CT} {ds es:List Data},W9 l ds->W9 m es->W9 (l++m) (ds++es)
 |[],m,ds,es,h,k=>by simp_all [W9]
 |c::cs,m,ds,es,h,k=>by
  obtain ⟨d,r,rfl,h2,h3⟩:=h;exact ⟨d,r++es,rfl,h2,kr h3 k⟩
theorem Ob (a:Addr)(m n:Nat):a.add (m+n)=(a.add m).add n:=by
 grind [Addr.add,H9]
def HE (P:Program)(lay:TypeId->List CT->Bool):List Field->Nat->List CT->Bool
 |[],_,l=>l.isEmpty
 |f::fs,o,l=>f.offset==o&&decide (P.cellsOf f.type<=l.length)&&lay f.type (l.take (P.cellsOf f.type))&&HE P lay fs (o+P.cellsOf f.type) (l.drop (P.cellsOf f.type))
def Ms (lay:List CT->Bool)(c:Nat):Nat->List CT->Bool
 |0,l=>l.isEmpty
 |m+1,l=>decide (c<=l.length)&&lay (l.take c)&&Ms lay c m (l.drop c)
def Lay (P:Program):Nat->TypeId->List CT->Bool
 |0,_,_=>false
 |n+1,t,l=>match P.underlying t with
  |some .bool=>(match l with
   |[.bool]=>true
   |_=>false)
  |some (.int k)=>(match l with
   |[.int k']=>k==k'
   |_=>false)
  |some .string=>(match l with
   |[.str]=>true
   |_=>false)
  |some (.slice e)=>(match l with
   |[.slice le]=>Lay P n e le&&P.cellsOf e==le.length&&decide (0<le.length)
   |_=>false)
  |some (.struct fs)=>P.cellsOf t==l.length&&HE P (Lay P n) fs.toList 0 l
  |some (.array m e)=>P.cellsOf t==l.length&&Ms (Lay P n e) (P.cellsOf e) m l
  |_=>false
abbrev I0:T0:=fun _=>(0,0)
abbrev N0:Nat->Prop:=fun _=>False
theorem Kept.cell {w w' :World}(h:Kept w w'){a:Addr}{v:Value}(hv:w.cell? a=some v):w'.cell? a=some v:=by
 have:a.block<w.heap.size:=by
  grind [u9,World.cell?,Array.getElem?_eq_none]
 have e:w'.cell? a=w.cell? a:=by
  unfold World.cell?;rw [h.old _ this]
 simp_all
theorem gC {α β:Type}{f g:α->Option β}:∀ {l:List α} {ys:List β},(∀ x y,x ∈ l->y ∈ ys->f x=some y->g x=some y)->l.mapM f=some ys->l.mapM g=some ys
 |[],ys,_,h=>by simpa using h
 |x::xs,ys,hfg,h=>by
  rw [List.mapM_cons] at h ⊢;cases hf:f x with
  |none=>simp_all
  |some y =>
   rw [hf] at h;cases hr:xs.mapM f with
   |none=>simp_all
   |some r =>
    simp [hr] at h;subst h;rw [hfg x y (by simp) (by simp) hf,gC (fun a b ha hb=>hfg a b (by simp [ha]) (by simp [hb])) hr];rfl
theorem gj {α β:Type}{f:α->Option β}:∀ {l:List α} {ys:List β},l.mapM f=some ys->ys.length=l.length/\∀ (i:Nat) x,l[i]? =some x->∃ y,ys[i]? =some y/\f x=some y
 |[],ys,h=>by simp_all
 |x::xs,ys,h=>by
  rw [List.mapM_cons] at h;cases hf:f x with
  |none=>simp_all
  |some y =>
   rw [hf] at h;cases hr:xs.mapM f with
   |none=>simp_all
   |some r =>
    simp  at h;obtain ⟨h1,h2⟩:=gj hr
    grind
theorem Kept.cells {w w' :World}(h:Kept w w'){base:Nat}{a:Addr}{n:Nat}{cs:List Value}(hc:w.cells? base a n=some cs):w'.cells? base a n=some cs:=by
 unfold World.cells? at hc ⊢;split at hc
 ·rename_i hb
  rw [if_pos hb];exact gC (fun x y _ _ hx=>h.cell hx) hc
 ·cases hc
section
variable {H:Type} {enc:TypeId×Value->H} {P:Program} {w:World} {base:Nat} {spare:Nat->Bool} {held:Bool}
theorem trod_bool {t:TypeId}{fuel:Nat}{cs:List Value}{x:DataW H×List MemPlace}(hu:P.underlying t=some .bool)(h:DataW.trod enc P w base spare held (fuel+1) t cs=some x):∃ b,cs=[.bool b]/\x=(.lit (.bool b),[]):=by
 unfold DataW.trod at h
 grind
theorem trod_int {t:TypeId}{k:IntKind}{fuel:Nat}{cs:List Value}{x:DataW H×List MemPlace}(hu:P.underlying t=some (.int k))(h:DataW.trod enc P w base spare held (fuel+1) t cs=some x):∃ n,cs=[.int k n]/\(Lit.int k n).wf=true/\x=(.lit (.int k n),[]):=by
 unfold DataW.trod at h
 grind
theorem yS {t:TypeId}{fuel:Nat}{cs:List Value}{x:DataW H×List MemPlace}(hu:P.underlying t=some .string)(h:DataW.trod enc P w base spare held (fuel+1) t cs=some x):∃ s:ByteArray,cs=[.string s]/\s.size<=maxLen/\x=(.lit (.string s.data.toList),[]):=by
 unfold DataW.trod at h
 grind
theorem trod_slice {t e:TypeId}{fuel:Nat}{cs:List Value}{x:DataW H×List MemPlace}(hu:P.underlying t=some (.slice e))(h:DataW.trod enc P w base spare held (fuel+1) t cs=some x) :
  (cs=[.slice none 0 0]/\x=(.nil,[]))\/∃ a len cap,cs=[.slice (some a) len cap]/\base<=a.block/\len<=cap/\cap<=maxLen /\
   (∃ elems,((List.range len).mapM fun i=>(w.cells? base (a.add (i * P.cellsOf e)) (P.cellsOf e)).bind (DataW.trod enc P w base spare held fuel e))=some elems) /\
   (spare a.block=true->∃ rest,((List.range (cap - len)).mapM fun j=>(w.cells? base (a.add ((len+j) * P.cellsOf e)) (P.cellsOf e)).bind (DataW.trod enc P w base spare held fuel e))=some rest):=by
 unfold DataW.trod at h;rw [hu] at h
 match cs,h with
 |[],h=>cases h
 |[v],h =>
  cases v<;>try (cases h)
  rename_i o len cap;cases o with
  |none =>
   cases len with
   |zero =>
    cases cap with
    |zero=>simp_all
    |succ c=>cases h
   |succ n=>cases h
  |some a =>
   simp only at h;split at h
   ·rename_i hc
    refine Or.inr ⟨a,len,cap,rfl,hc.1,hc.2.1,hc.2.2,?_⟩;cases hm:(List.range len).mapM fun i=>(w.cells? base (a.add (i * P.cellsOf e)) (P.cellsOf e)).bind (DataW.trod enc P w base spare held fuel e) with
    |none=>simp_all
    |some elems =>
     refine ⟨⟨elems,rfl⟩,fun hs=> ?_⟩;cases hr:(List.range (cap - len)).mapM fun j=>(w.cells? base (a.add ((len+j) * P.cellsOf e)) (P.cellsOf e)).bind (DataW.trod enc P w base spare held fuel e) with
     |none=>simp_all
     |some rest=>simp_all
   ·cases h
 |v::_::_,h=>simp_all
theorem trod_array {t e:TypeId}{m:Nat}{fuel:Nat}{cs:List Value}{x:DataW H×List MemPlace}(hu:P.underlying t=some (.array m e))(h:DataW.trod enc P w base spare held (fuel+1) t cs=some x) :
  cs.length=P.cellsOf t/\∃ xs,((List.range m).mapM fun i=>DataW.trod enc P w base spare held fuel e ((cs.drop (i * P.cellsOf e)).take (P.cellsOf e)))=some xs/\x=(.agg (xs.map (·.1)),xs.flatMap (·.2)):=by
 simp_all [DataW.trod]<;>grind
theorem trod_struct {t:TypeId}{fs:Array Field}{fuel:Nat}{cs:List Value}{x:DataW H×List MemPlace}(hu:P.underlying t=some (.struct fs))(h:DataW.trod enc P w base spare held (fuel+1) t cs=some x) :
  cs.length=P.cellsOf t/\∃ xs,(fs.toList.mapM fun f=>DataW.trod enc P w base spare held fuel f.type ((cs.drop f.offset).take (P.cellsOf f.type)))=some xs/\x=(.agg (xs.map (·.1)),xs.flatMap (·.2)):=by
 simp_all [DataW.trod]<;>grind
abbrev Cells (w:World)(ds:List Data)(cs:List Value):Prop:=I7 (G0 w) I0 N0 w (ds.map .d) cs
theorem Cells.append {ds es:List Data}{cs fs:List Value}(h:Cells w ds cs)(k:Cells w es fs):Cells w (ds++es) (cs++fs):=by
 simp_all [Cells,List.map_append,wC]
theorem Wt {b o:Nat}{v:Value}(h:w.cell? (ad b o)=some v):jq (G0 w) b o:=by
 grind [u9,World.cell?,Array.getElem?_eq_none,jq,G0]
theorem Qw (hspare:∀ b,spare b=true):∀ (n:Nat) (t:TypeId) (l:List CT),Lay P n t l=true->∀ (fuel:Nat) (cs:List Value) (x:DataW H×List MemPlace),DataW.trod enc P w base spare held fuel t cs=some x->∃ ds,W9 l ds/\Cells w ds cs:=by
 intro n
 induction n with
 |zero=>simp_all [Lay]
 |succ n ih =>
  intro t l hL fuel cs x h;cases fuel with
  |zero=>simp [DataW.trod] at h
  |succ fuel =>
   unfold Lay at hL;split at hL
   ·rename_i hu
    split at hL
    ·obtain ⟨b,rfl,_⟩:=trod_bool hu h
     exact ⟨[.bool b],by simp [W9,Fits],by simp [Cells,I7,VR,DR]⟩
    ·cases hL
   ·rename_i k hu
    split at hL
    ·rename_i k'
     have:k=k' :=by simp_all
     subst this;obtain ⟨m,rfl,hw,_⟩:=trod_int hu h;exact ⟨[.int k m],by simp_all [W9,Fits],by simp [Cells,I7,VR,DR]⟩
    ·cases hL
   ·rename_i hu
    split at hL
    ·obtain ⟨s,rfl,hs,_⟩:=yS hu h
     refine ⟨[.str s.data.toList],?_,by simp [Cells,I7,VR,DR]⟩;simp_all [W9,Fits]
    ·cases hL
   ·rename_i e hu
    split at hL
    ·rename_i le
     simp only [Bool.and_eq_true,beq_iff_eq,decide_eq_true_eq] at hL;obtain ⟨⟨hLe,hce⟩,hpos⟩:=hL
     rcases trod_slice hu h with ⟨rfl,_⟩|⟨a,len,cap,rfl,hb,hlc,hcm,⟨elems,hel⟩,qS⟩
     ·refine ⟨[.slice 0 []],?_,by simp [Cells,I7,VR,DR]⟩
      simp only [W9,Fits];exact ⟨_,_,rfl,⟨[],rfl,by simp,by simp⟩,rfl⟩
     ·
      obtain ⟨Zp,nY⟩:=gj hel;have rows:∀ m,m<=len->∃ rows:List (List Data),rows.length=m/\(∀ r,r ∈ rows->W9 le r)/\(∀ (j:Nat) d,rows.flatten[j]? =some d->∃ v,w.cell? (a.add j)=some v/\DR (G0 w) w d v):=by
       intro m
       induction m with
       |zero=>simp_all
       |succ m ihm =>
        intro hm;obtain ⟨rows,r1,r2,r3⟩:=ihm (by omega);obtain ⟨y,_,hy⟩:=nY m m (List.getElem?_range (by omega));cases hcell:w.cells? base (a.add (m * P.cellsOf e)) (P.cellsOf e) with
        |none=>simp_all
        |some WA =>
         rw [hcell] at hy;simp only [Option.bind_some] at hy;obtain ⟨ds,f1,f2⟩:=ih e le hLe fuel WA y hy;have hds:ds.length=le.length:=W9.length _ _ f1;have aY9:rows.flatten.length=m * le.length:=by
          rw [List.length_flatten];have:∀ q,q ∈ rows.map List.length->q=le.length:=by
           grind [W9.length]
          have aI7:rows.map List.length=c9 m le.length:=by
           rw [List.eq_replicate_iff]
           grind
          rw [aI7];simp
         refine ⟨rows++[ds],by simp [r1],?_,?_⟩
         ·grind
         ·intro j d hj
          rw [List.flatten_append] at hj;simp only [List.flatten_cons,List.flatten_nil,List.append_nil] at hj
          by_cases hjl:j<rows.flatten.length
          ·grind
          ·rw [s7 (by omega)] at hj
           have CF:=p6 hj;unfold World.cells? at hcell;split at hcell
           ·obtain ⟨c1,c2⟩:=gj hcell
            obtain ⟨v,v1,v2⟩:=c2 (j - rows.flatten.length) (j - rows.flatten.length) (List.getElem?_range (by omega));have WH:(a.add (m * P.cellsOf e)).add (j - rows.flatten.length)=a.add j:=by
             rw [<- Ob];simp_all
            rw [WH] at v2;obtain ⟨v',w1,w2⟩:=I7.get _ _ f2 (j - rows.flatten.length) (.d d) (by simp_all);simp_all [VR]
           ·cases hcell
      obtain ⟨rows,r1,r2,r3⟩:=rows len (n5 _);refine ⟨[.slice rows.length rows.flatten],?_,?_⟩
      ·grind [W9,Fits]
      ·simp only [Cells,List.map_cons,List.map_nil,I7,VR]
       refine ⟨_,_,rfl,?_,rfl⟩;simp only [DR]
       by_cases hcap:cap=0
       ·simp_all
       ·
        have WL:∃ WA,w.cells? base (a.add 0) (P.cellsOf e)=some WA:=by
         by_cases hl0:len=0
         ·obtain ⟨rest,hr⟩:=qS (hspare _)
          obtain ⟨_,c2⟩:=gj hr;obtain ⟨y,_,hy⟩:=c2 0 0 (by grind);rw [hl0] at hy;simp only [Nat.zero_add,Nat.zero_mul] at hy;cases hcc:w.cells? base (a.add 0) (P.cellsOf e) with
          |none=>simp_all
          |some WA=>simp_all
         ·obtain ⟨y,_,hy⟩:=nY 0 0 (by grind)
          simp only [Nat.zero_mul] at hy;cases hcc:w.cells? base (a.add 0) (P.cellsOf e) with
          |none=>simp_all
          |some WA=>simp_all
        obtain ⟨WA,Ti⟩:=WL;have hcell:∃ v,w.cell? a=some v:=by
         unfold World.cells? at Ti;split at Ti
         ·obtain ⟨_,c2⟩:=gj Ti
          obtain ⟨v,_,hv⟩:=c2 0 0 (by simp_all);simp_all [Addr.add]
         ·cases Ti
        obtain ⟨v,hv⟩:=hcell;have ha:a=ad a.block a.off:=by
         obtain ⟨b,o,sp⟩:=a;cases sp with
         |none=>rfl
         |some q =>
          grind [World.cell?]
        grind [wu,ak,Wt]
    ·cases hL
   ·rename_i fs hu
    simp only [Bool.and_eq_true,beq_iff_eq] at hL;obtain ⟨hlen,xs,hxs,_⟩:=trod_struct hu h;have fields:∀ (fl:List Field) (o:Nat) (l:List CT) (ys:List (DataW H×List MemPlace)),HE P (Lay P n) fl o l=true->(fl.mapM fun f=>DataW.trod enc P w base spare held fuel f.type ((cs.drop f.offset).take (P.cellsOf f.type)))=some ys->(cs.drop o).length=l.length ->
      ∃ ds,W9 l ds/\Cells w ds (cs.drop o):=by
     intro fl
     induction fl with
     |nil =>
      simp_all [HE,W9,Cells,I7]<;>omega
     |cons f fl ihf =>
      intro o l ys hl hm hlen;simp only [HE,Bool.and_eq_true,beq_iff_eq,decide_eq_true_eq] at hl;obtain ⟨⟨⟨ho,hle⟩,MO⟩,qS⟩:=hl;rw [List.mapM_cons] at hm;cases hf:DataW.trod enc P w base spare held fuel f.type ((cs.drop f.offset).take (P.cellsOf f.type)) with
      |none=>simp_all
      |some y =>
       rw [hf] at hm;cases hr:fl.mapM fun f=>DataW.trod enc P w base spare held fuel f.type ((cs.drop f.offset).take (P.cellsOf f.type)) with
       |none=>simp_all
       |some r =>
        rw [ho] at hf;obtain ⟨d1,a1,a2⟩:=ih f.type _ MO fuel _ y hf;obtain ⟨d2,b1,b2⟩:=ihf (o+P.cellsOf f.type) (l.drop (P.cellsOf f.type)) r qS hr (by grind);refine ⟨d1++d2,?_,?_⟩
        ·grind [List.take_append_drop,kr]
        ·have:cs.drop o=(cs.drop o).take (P.cellsOf f.type)++cs.drop (o+P.cellsOf f.type):=by
          rw [<- List.drop_drop,List.take_append_drop]
         rw [this];exact a2.append b2
    grind
   ·rename_i m e hu
    simp only [Bool.and_eq_true,beq_iff_eq] at hL;obtain ⟨hlen,xs,hxs,_⟩:=trod_array hu h;obtain ⟨_,hat⟩:=gj hxs;have elems:∀ (q k:Nat) (l:List CT),k+q=m->Ms (Lay P n e) (P.cellsOf e) q l=true->(cs.drop (k * P.cellsOf e)).length=l.length->∃ ds,W9 l ds/\Cells w ds (cs.drop (k * P.cellsOf e)):=by
     intro q
     induction q with
     |zero =>
      simp_all [Ms,W9,Cells,I7]<;>omega
     |succ q ihq =>
      intro k l hkq hl hlen;simp only [Ms,Bool.and_eq_true,decide_eq_true_eq] at hl;obtain ⟨⟨hle,MO⟩,qS⟩:=hl;obtain ⟨y,_,hy⟩:=hat k k (by grind);obtain ⟨d1,a1,a2⟩:=ih e _ MO fuel _ y hy;obtain ⟨d2,b1,b2⟩:=ihq (k+1) (l.drop (P.cellsOf e)) (by omega) qS (by grind);refine ⟨d1++d2,?_,?_⟩
      ·grind [List.take_append_drop,kr]
      ·have:cs.drop (k * P.cellsOf e)=(cs.drop (k * P.cellsOf e)).take (P.cellsOf e)++cs.drop ((k+1) * P.cellsOf e):=by
        rw [Nat.succ_mul,<- List.drop_drop,List.take_append_drop]
       rw [this];exact a2.append b2
    have:=elems m 0 l (by omega) hL.2 (by simp_all);simp_all
   ·cases hL
theorem NG {w' :World}(hK:Kept w w'){sp:Nat->Bool}:∀ (n:Nat) (t:TypeId) (l:List CT),Lay P n t l=true->∀ (fuel:Nat) (cs:List Value) (x:DataW H×List MemPlace),(∀ p,p ∈ x.2->sp p.block=true) ->
  DataW.trod enc P w base (fun _=>true) held fuel t cs=some x->DataW.trod enc P w' base sp held fuel t cs=some x:=by
 intro n
 induction n with
 |zero=>simp_all [Lay]
 |succ n ih =>
  intro t l hL fuel cs x hsp h;cases fuel with
  |zero=>simp [DataW.trod] at h
  |succ fuel =>
   unfold Lay at hL;split at hL
   ·rename_i hu
    obtain ⟨b,rfl,rfl⟩:=trod_bool hu h;simp [DataW.trod,hu]
   ·rename_i k hu
    obtain ⟨m,rfl,hw,rfl⟩:=trod_int hu h;simp [DataW.trod,hu,hw]
   ·rename_i hu
    obtain ⟨s,rfl,hs,rfl⟩:=yS hu h;simp [DataW.trod,hu,hs]
   ·rename_i e hu
    split at hL
    ·rename_i le
     simp only [Bool.and_eq_true,beq_iff_eq,decide_eq_true_eq] at hL;obtain ⟨⟨hLe,hce⟩,hpos⟩:=hL;have hel:∀ (a:Addr) (y:DataW H×List MemPlace),(∀ p,p ∈ y.2->sp p.block=true)->(w.cells? base a (P.cellsOf e)).bind (DataW.trod enc P w base (fun _=>true) held fuel e)=some y->(w'.cells? base a (P.cellsOf e)).bind (DataW.trod enc P w' base sp held fuel e)=some y:=by
      intro a y hy1 hy;cases hc:w.cells? base a (P.cellsOf e) with
      |none=>simp_all
      |some WA =>
       rw [hK.cells hc]
       grind
     rcases trod_slice hu h with ⟨rfl,rfl⟩|⟨a,len,cap,rfl,hb,hlc,hcm,⟨elems,af5⟩,qS⟩
     ·simp [DataW.trod,hu]
     ·obtain ⟨rest,hr⟩:=qS rfl
      have hx:x=(.slice (elems.map (·.1)) (rest.map (·.1)),MemPlace.row a ((elems.length+rest.length) * P.cellsOf e)++(elems++rest).flatMap (·.2)):=by
       simp_all [DataW.trod,if_pos,Option.bind_some,if_true,Option.map_some,Option.some.injEq]
      subst hx;have hin:∀ y,y ∈ elems++rest->∀ p,p ∈ y.2->sp p.block=true:=by
       grind
      have hblk:cap - len=0\/sp a.block=true:=by
       by_cases hc0:cap=0
       ·omega
       ·right
        have h1:=(gj af5).1;have h2:=(gj hr).1;simp only [List.length_range] at h1 h2;have:0<(elems.length+rest.length) * P.cellsOf e:=by
         rw [h1,h2,hce];exact Nat.mul_pos (by omega) hpos
        refine hsp (.cell a.block (a.off+0)) (List.mem_append_left _ ?_);exact List.mem_map.2 ⟨0,List.mem_range.2 this,rfl⟩
      unfold DataW.trod;rw [hu];simp only;rw [if_pos ⟨hb,hlc,hcm⟩,gC (fun i y _ hy' hy=>hel _ y (hin y (by simp [hy'])) hy) af5];have hr' :=gC (g:=fun j=>(w'.cells? base (a.add ((len+j) * P.cellsOf e)) (P.cellsOf e)).bind (DataW.trod enc P w' base sp held fuel e)) (fun i y _ hy' hy=>hel _ y (hin y (by simp [hy'])) hy) hr
      grind
    ·cases hL
   ·rename_i fs hu
    obtain ⟨hlen,xs,hxs,rfl⟩:=trod_struct hu h;have fields:∀ (fl:List Field) (o:Nat) (l:List CT),HE P (Lay P n) fl o l=true->∀ f,f ∈ fl->∃ l',Lay P n f.type l' =true:=by
     intro fl
     induction fl with
     |nil=>simp_all
     |cons g fl ihf =>
      grind [HE]
    have:=gC (g:=fun f=>DataW.trod enc P w' base sp held fuel f.type ((cs.drop f.offset).take (P.cellsOf f.type))) (fun f y hf hy' hy=>by
     grind) hxs
    simp_all [DataW.trod,if_pos]
   ·rename_i m e hu
    obtain ⟨hlen,xs,hxs,rfl⟩:=trod_array hu h;have MO:m=0\/∃ l',Lay P n e l' =true:=by
     cases m with
     |zero=>omega
     |succ m =>
      grind [Ms]
    have:=gC (g:=fun i=>DataW.trod enc P w' base sp held fuel e ((cs.drop (i * P.cellsOf e)).take (P.cellsOf e))) (fun i y hi hy' hy=>by
     grind) hxs
    simp_all [DataW.trod,if_pos]
   ·cases hL
end
def isStr (P:Program)(t:TypeId):Bool:=match P.underlying t with
 |some (.struct _)=>true
 |_=>false
def asArg (agg:Bool)(ds:List Data):b6:=if agg then .agg (ds.map .d) else .d (ds.headD .cD)
def nO (P:Program):List TypeId->List (List CT)->List b6->Prop
 |[],_,as=>as=[]
 |t::ts,ls,as=>∃ ds r,as=asArg (isStr P t) ds::r/\W9 (ls.headD []) ds/\nO P ts ls.tail r
def Pc (P:Program)(t:TypeId):Bool:=match P.underlying t with
 |some (.array _ _)=>true
 |_=>false
def Cf (P:Program):List TypeId->List (List CT)->Bool
 |[],_=>true
 |t::ts,ls=>(Lay P 20 t (ls.headD [])&& !Pc P t)&&Cf P ts ls.tail
section
variable {H:Type} {enc:TypeId×Value->H} {P:Program} {w:World} {held:Bool}
theorem vR {t:TypeId}{r:Reach}{b0:Nat}{v:Value}(hval:Value.okWide P w r b0 t v){td:TypeDesc}(hu:P.underlying t=some td)(htd:td= .bool\/(∃ k,td= .int k)\/td= .string\/∃ e,td= .slice e):∀ cs,v≠ .agg cs:=by
 simp_all [Value.okWide,Cell.okWide,Cell.ok]<;>grind
theorem nR {v u:Value}(hv:∀ cs,v≠ .agg cs)(h:v.cells.toList=[u]):u=v:=by
 simp_all [Value.cells,absurd]
theorem Wx {t:TypeId}{l:List CT}(hL:Lay P 20 t l=true)(hna:Pc P t=false){r:Reach}{b0:Nat}{v:Value}(hval:Value.okWide P w r b0 t v){d:DataW H}{ps:List MemPlace}(h:DataW.Trod enc P w 0 (fun _=>true) held t v d ps) :
  ∃ ds,W9 l ds/\VR (G0 w) I0 N0 w .none (asArg (isStr P t) ds) v:=by
 obtain ⟨fuel,h⟩:=h;obtain ⟨ds,h1,h2⟩:=Qw (fun _=>rfl) 20 t l hL fuel _ _ h;unfold isStr asArg;split
 ·grind [Value.okWide,VR,Value.cells]
 ·cases fuel with
  |zero=>simp [DataW.trod] at h
  |succ fuel =>
   have one:∀ u,v.cells.toList=[u]->u=v->VR (G0 w) I0 N0 w .none (.d (ds.headD .cD)) v:=by
    rintro u hu rfl;rw [hu] at h2;cases ds with
    |nil=>simp [Cells,I7] at h2
    |cons d0 r =>
     simp_all [Cells,I7]<;>grind
   unfold Lay at hL;split at hL
   ·grind [trod_bool,nR,vR]
   ·grind [trod_int,nR,vR]
   ·grind [yS,nR,vR]
   ·rename_i e hu
    rcases trod_slice hu h with ⟨hb,_⟩|⟨a,len,cap,hb,_⟩
    all_goals grind [nR,vR]
   all_goals simp_all [absurd,Pc]
theorem Js {r:Reach}{b0:Nat}:∀ (ts:List TypeId) (ls:List (List CT)) (vs:List Value) (ds:List (DataW H)) (ps:List MemPlace),Cf P ts ls=true->(∀ (j:Nat) t v,ts[j]? =some t->vs[j]? =some v->Value.okWide P w r b0 t v) ->
  DataW.TrodAll enc P w 0 (fun _=>true) held ts vs ds ps ->
  (∃ as,nO P ts ls as/\I7 (G0 w) I0 N0 w as vs)/\∀ w',Kept w w' ->∀ sp:Nat->Bool,(∀ p,p ∈ ps->sp p.block=true)->DataW.TrodAll enc P w' 0 sp held ts vs ds ps
 |[],ls,vs,ds,ps,_,_,h=>by
  obtain ⟨rfl,rfl,rfl⟩:=Go.ChangeShapes.trodAll_nil h;exact ⟨⟨[],by rfl,by simp [I7]⟩,fun _ _ _ _=>rfl⟩
 |t::ts,ls,vs,ds,ps,hL,hval,h=>by
  simp [Cf,Bool.and_eq_true,Bool.not_eq_true'] at hL;obtain ⟨v,vs1,d,ds1,a,b,rfl,rfl,rfl,h1,h2⟩:=Go.ChangeShapes.trodAll_cons h;obtain ⟨⟨as,g1,g2⟩,g3⟩:=Js ts ls.tail vs1 ds1 b hL.2 (fun j t' v' ht hv=>hval (j+1) t' v' (by simp_all) (by simp_all)) h2;obtain ⟨dd,e1,e2⟩:=Wx hL.1.1 hL.1.2 (hval 0 t v rfl rfl) h1;refine ⟨⟨asArg (isStr P t) dd::as,?_,?_⟩,fun w' hK sp hsp=> ?_⟩
  ·grind [nO]
  ·grind [I7]
  ·obtain ⟨fuel,hf⟩:=h1
   exact ⟨a,b,⟨fuel,NG hK 20 t _ hL.1.1 fuel _ _ (fun p hp=>hsp p (by simp_all)) hf⟩,g3 w' hK sp (fun p hp=>hsp p (by simp [hp])),rfl⟩
end
open Go.ChangeShapes Go.WideShapes Go.ChangeAt Go.RowKit
end Go.y3
namespace Go.y3
def M4 (A:Prog)(n:Nat)(l:G9)(b:Nat):Env:=⟨call A n,A.prom,A.mode,A.idle,l,b⟩
def Ex (A:Prog)(l:G9)(b:Nat)(c:o8)(st:St)(Q:E4->St->Prop):Prop :=
 ∃ x s N,Q x s/\∀ n,N<=n->exec (M4 A n l b) n c st=some (x,s)
def Rn (A:Prog)(l:G9)(b:Nat)(ops:List n8)(draw:Bool)(T:List b6)(H:o6)(Q:List b6->o6->List b6->Prop):Prop :=
 ∃ r N,Q r.T r.H r.L/\∀ n,N<=n->P6 (M4 A n l b) ops draw T H=some r
section
variable {A:Prog} {l:G9} {b:Nat}
theorem Ex.mono {c:o8}{st:St}{Q R:E4->St->Prop}(h:Ex A l b c st Q)(k:∀ x s,Q x s->R x s):Ex A l b c st R:=by
 obtain ⟨x,s,N,hq,h⟩:=h;exact ⟨x,s,N,k x s hq,h⟩
theorem Ex.skip {st:St}{Q:E4->St->Prop}(h:Q .normal st):Ex A l b .skip st Q:=⟨_,_,0,h,fun _ _=>rfl⟩
theorem Ex.exit {id:Nat}{st:St}{Q:E4->St->Prop}(h:Q (.exit id) st):Ex A l b (.exit id) st Q:=⟨_,_,0,h,fun _ _=>rfl⟩
theorem Ex.ret {st:St}{Q:E4->St->Prop}(h:Q .ret st):Ex A l b .ret st Q:=⟨_,_,0,h,fun _ _=>rfl⟩
theorem Ex.region {ops:List n8}{draw:Bool}{T:List b6}{H:o6}{Q:E4->St->Prop}(h:Rn A l b ops draw T H fun T' H' _=>Q .normal ⟨T',H'⟩):Ex A l b (.region ops draw) ⟨T,H⟩ Q:=by
 obtain ⟨r,N,hq,h⟩:=h;refine ⟨_,_,N,hq,fun n hn=> ?_⟩;simp only [exec,h n hn]
def xq (Q:E4->St->Prop)(go:St->Prop):E4->St->Prop
 | .normal,s=>go s
 | .exit i,s=>Q (.exit i) s
 | .ret,s=>Q .ret s
theorem Ex.seq {c d:o8}{st:St}{Q:E4->St->Prop}(h:Ex A l b c st (xq Q fun s=>Ex A l b d s Q)):Ex A l b (.seq c d) st Q:=by
 obtain ⟨x,s,N,hq,h⟩:=h;cases x with
 |normal =>
  obtain ⟨x2,s2,N2,Sv,h2⟩:=hq;refine ⟨x2,s2,max N N2,Sv,fun n hn=> ?_⟩;simp only [exec,h n (by omega)];exact h2 n (by omega)
 |exit i=>exact ⟨_,_,N,hq,fun n hn=>by simp only [exec,h n hn]⟩
 |ret=>exact ⟨_,_,N,hq,fun n hn=>by simp only [exec,h n hn]⟩
def DE (id:Nat)(Q:E4->St->Prop):E4->St->Prop
 | .exit i,s=>if i=id then Q .normal s else Q (.exit i) s
 | .normal,s=>Q .normal s
 | .ret,s=>Q .ret s
theorem Ex.block {id:Nat}{c:o8}{st:St}{Q:E4->St->Prop}(h:Ex A l b c st (DE id Q)):Ex A l b (.block id c) st Q:=by
 obtain ⟨x,s,N,hq,h⟩:=h;cases x with
 |normal=>exact ⟨_,_,N,hq,fun n hn=>by simp only [exec,h n hn]⟩
 |ret=>exact ⟨_,_,N,hq,fun n hn=>by simp only [exec,h n hn]⟩
 |exit i =>
  simp only [DE] at hq;split at hq
  ·rename_i hi
   exact ⟨_,_,N,hq,fun n hn=>by simp only [exec,h n hn];rw [if_pos hi]⟩
  ·rename_i hi
   exact ⟨_,_,N,hq,fun n hn=>by simp only [exec,h n hn];rw [if_neg hi]⟩
theorem Ex.test {ops:List n8}{draw:Bool}{c:q7}{d e:o8}{T:List b6}{H:o6}{Q:E4->St->Prop}
  (h:Rn A l b ops draw T H fun T' H' L=>∃ t,F5 T' L c= .d (.bool t)/\(t=true->Ex A l b d ⟨T',H'⟩ Q)/\(t=false->Ex A l b e ⟨T',H'⟩ Q)):Ex A l b (.test ops draw c d e) ⟨T,H⟩ Q:=by
 obtain ⟨r,N,⟨t,h1,h2,h3⟩,h⟩:=h;cases t with
 |true =>
  obtain ⟨x,s,N2,hq,k⟩:=h2 rfl;exact ⟨x,s,max N N2,hq,fun n hn=>by simp only [exec,h n (by omega),h1];exact k n (by omega)⟩
 |false =>
  obtain ⟨x,s,N2,hq,k⟩:=h3 rfl;exact ⟨x,s,max N N2,hq,fun n hn=>by simp only [exec,h n (by omega),h1];exact k n (by omega)⟩
theorem Ex.cond {c:q7}{d e:o8}{st:St}{t:Bool}{Q:E4->St->Prop}(h1:F5 st.T [] c= .d (.bool t))
  (h2:t=true->Ex A l b d st Q) (h3:t=false->Ex A l b e st Q):Ex A l b (.cond c d e) st Q:=by
 cases t with
 |true =>
  obtain ⟨x,s,N2,hq,k⟩:=h2 rfl;exact ⟨x,s,N2,hq,fun n hn=>by simp only [exec,h1];exact k n hn⟩
 |false =>
  obtain ⟨x,s,N2,hq,k⟩:=h3 rfl;exact ⟨x,s,N2,hq,fun n hn=>by simp only [exec,h1];exact k n hn⟩
theorem Ex.loop {mask:List Bool}{body:o8}{st:St}{Q:E4->St->Prop}(Inv:Nat->St->Prop)
  (hb:∀ k s,Inv k s->Ex A l b body (clean mask l.strict st.H.length s) (xq Q fun s' =>∃ k',k' <k/\Inv k' s')) {k:Nat} (h:Inv k st):Ex A l b (.loop mask body) st Q:=by
 have main:∀ k s,Inv k s->∃ x s2 N,Q x s2/\∀ n,N<=n->∀ j,N<=j->fm (exec (M4 A n l b) n body) mask l.strict st.H.length j s=some (x,s2):=by
  intro k
  induction k using Nat.strongRecOn with
  |_ k ih =>
   intro s hs;obtain ⟨x,s1,N,hq,h1⟩:=hb k s hs;cases x with
   |normal =>
    obtain ⟨k',hk,hi⟩:=hq;obtain ⟨x,s2,N2,Sv,h2⟩:=ih k' hk s1 hi;refine ⟨x,s2,max N N2+1,Sv,fun n hn j hj=> ?_⟩;obtain ⟨j,rfl⟩:∃ j',j=j' +1:=⟨j - 1,by omega⟩;simp only [fm,h1 n (by omega)];exact h2 n (by omega) j (by omega)
   |exit i =>
    refine ⟨_,_,N+1,hq,fun n hn j hj=> ?_⟩;obtain ⟨j,rfl⟩:∃ j',j=j' +1:=⟨j - 1,by omega⟩;simp only [fm,h1 n (by omega)]
   |ret =>
    refine ⟨_,_,N+1,hq,fun n hn j hj=> ?_⟩;obtain ⟨j,rfl⟩:∃ j',j=j' +1:=⟨j - 1,by omega⟩;simp only [fm,h1 n (by omega)]
 obtain ⟨x,s2,N,hq,h⟩:=main k st h;exact ⟨x,s2,N,hq,fun n hn=>by simp only [exec];exact h n hn n hn⟩
def Pf (A:Prog)(f:FuncId)(args:List b6)(v:b6):Prop :=
 ∃ N,∀ n,N<=n->call A n f args [] cB=some (v,[])
theorem Pf.aj2 {f:FuncId}{af:p7}{args:List b6}{v:b6}(T:List b6)(hp:A.gS f=none)(hf:A.fn f=some af)(hn:args.length=af.nparams)
  (hT:args++c9 (af.names.length - args.length) .any=T) (h:Ex A cB 0 af.body ⟨T,[]⟩ fun x s=>kF af 0 (some (x,s))=some (v,[])):Pf A f args v:=by
 subst hT;obtain ⟨x,s,N,hq,h⟩:=h;refine ⟨N+1,fun n hn' => ?_⟩;obtain ⟨n,rfl⟩:∃ j,n=j+1:=⟨n - 1,by omega⟩;rw [Jx hp hf,qz hn];have:=h n (by omega);simp only [M4] at this;simp only [List.length_nil];rw [this,hq]
theorem Ek (H:o6)(strict k:Nat):I4 H strict k 0=0:=by
 cases k<;>simp [I4]
theorem jc {E:Env}{k:Nat}{f:FuncId}{args:List b6}{st:E5}{v:b6}(fR:E.prom f=false)(hm:E.mode f=1)(hb:A4 args=0)
  (hc:E.cf f args [] cB=some (v,[])):C7 E k f args st=some (put st k v):=by
 simp only [C7,fR,hm,hb,Ek];have h0:C8 st.H E.lim.strict 0=0:=by simp [C8]
 have h1:E.cf f args [] ⟨0,0,0,0⟩=some (v,[]):=hc;simp [h0,h1,Y6]
def pI (ops:List n8):Bool:=ops.all fun i=> !i.op.z8&&i.cg.all fun e=>decide (e<ops.length)
end
theorem wrap_small {n:Int}(h: -9223372036854775808<=n)(h2:n<9223372036854775808):IntKind.wrap .i64 n=n:=by
 simp only [IntKind.wrap,IntKind.signed,IntKind.bits];simp;split<;>omega
section
variable {A:Prog} {l:G9} {b:Nat}
def q9.TW:q9->Bool
 | .load _ _=>true
 | .lookup .. =>true
 | .CL _=>true
 |_=>false
def tc:List n8->Nat
 |[]=>0
 |i::is=>max (if i.op.TW then (i.cg.map (·+1)).foldl max 0 else 0) (tc is)
theorem IF {ρ:q7->b6}{H:o6}{op:q9}{v:b6}{rs:List Nat}(h:m6 ρ H op=some (v,rs))(hr:op.TW=false):rs=[]:=by
 cases op<;>simp only [q9.TW,Bool.true_eq_false] at hr<;>simp only [m6] at h<;>repeat' split at h
 all_goals first
  |(cases h;done)
  |(simp only [Option.some.injEq,Prod.mk.injEq] at h;exact h.2.symm)
  |contradiction
theorem yH {E:Env}{j4:List n8}{u5:Option Nat}{k:Nat}{i:n8}{st st' :E5}{rs:List Nat}(h:y6 E j4 u5 k i st=some (st',rs))(hr:i.op.TW=false):rs=[]:=by
 simp only [y6] at h;split at h
 ·split at h
  ·rename_i S4 ZA h1
   split at h
   ·simp only [Option.some.injEq,Prod.mk.injEq] at h
    obtain ⟨_,rfl⟩:=h;simp only [D6] at h1;split at h1
    ·split at h1
     ·simp only [Option.some.injEq,Prod.mk.injEq] at h1
      exact h1.2.symm
     ·cases h1
    ·split at h1
     ·simp only [Option.some.injEq,Prod.mk.injEq] at h1
      exact h1.2.symm
     ·split at h1
      ·rename_i h2
       simp only [Option.some.injEq,Prod.mk.injEq] at h1;obtain ⟨_,rfl⟩:=h1;exact IF h2 hr
      ·cases h1
   ·cases h
  ·cases h
 ·split at h
  ·simp only [Option.some.injEq,Prod.mk.injEq] at h
   exact h.2.symm
  ·cases h
 ·cases h
theorem qN:∀ (l:List Nat) (a:Nat),a<=l.foldl max a
 |[],_=>n5 _
 |x::l,a=>Nat.le_trans (Nat.le_max_left a x) (qN l (max a x))
theorem oH:∀ (l:List Nat) (a x:Nat),x ∈ l->x<=l.foldl max a
 |y::l,a,x,h=>by
  rcases C6.1 h with rfl|h
  ·exact Nat.le_trans (Nat.le_max_right a x) (qN l _)
  ·exact oH l _ x h
theorem wI:∀ {j4:List n8} {i:n8} {e:Nat},i ∈ j4->i.op.TW=true->e ∈ i.cg->e<tc j4
 |j::j4,i,e,h,hr,he=>by
  simp only [tc]
  rcases C6.1 h with rfl|h
  ·have:=oH (i.cg.map (·+1)) 0 (e+1) (List.mem_map.2 ⟨e,he,rfl⟩)
   rw [hr,if_pos rfl];omega
  ·have:=wI h hr he
   omega
def Rx (A:Prog)(l:G9)(b:Nat)(dr:Bool)(j4 ops:List n8)(T:List b6)(H:o6)(pre:List b6)(n6:List Touch)(Q:List b6->o6->List b6->Prop):Prop :=
 ∃ r N,Q r.T r.H r.L/\∀ n,N<=n->if dr=true then ∀ na,∃ lg:List ju,Q8 (M4 A n l b) j4 ops pre.length na ⟨T,H,pre++c9 ops.length .any,n6⟩=some (r,lg)/\lg.length=ops.length/\∀ k e,lg[k]? =some e->(pre.length+k<tc j4->∀ rs,J6 e.EB rs=false)/\∀ i,ops[k]? =some i->i.op.TW=false->e.reads=[]
  else dH (M4 A n l b) j4 ops pre.length ⟨T,H,pre++c9 ops.length .any,n6⟩=some r
variable {dr:Bool} {j4 ops:List n8} {T:List b6} {H:o6} {pre:List b6} {n6:List Touch} {Q:List b6->o6->List b6->Prop}
theorem Rx.nil (h:Q T H pre):Rx A l b dr j4 [] T H pre n6 Q:=by
 refine ⟨⟨T,H,pre,n6⟩,0,h,fun n _=> ?_⟩;cases dr<;>simp [dH,Q8]
theorem Rx.FN {i:n8}{T' pre' :List b6}{H' :o6}{v:b6}{ec :List Touch}{rs:List Nat}{N1:Nat}(hl:pre'.length=pre.length)
  (hk:F4 ⟨T,H,pre++ .any::c9 ops.length .any,n6⟩ i.op=false) (ha:i.op.z8=false)
  (h:∀ n,N1<=n->y6 (M4 A n l b) j4 none pre.length i ⟨T,H,pre++ .any::c9 ops.length .any,n6⟩=some (⟨T',H',pre' ++v::c9 ops.length .any,ec⟩,rs))
  (ht:pre.length<tc j4->∀ rs,J6 (ec.take (ec.length - n6.length)) rs=false) (h2:Rx A l b dr j4 ops T' H' (pre' ++[v]) ec Q):Rx A l b dr j4 (i::ops) T H pre n6 Q:=by
 obtain ⟨r,N,hq,h2⟩:=h2;refine ⟨r,max N N1,hq,fun n hn=> ?_⟩;have h3:=h2 n (by omega);have h4:=h n (by omega);simp only [List.append_assoc,List.cons_append,List.nil_append,List.length_append,List.length_cons,List.length_nil,hl] at h3;cases dr with
 |false =>
  simp only [b7,if_false,List.length_cons,List.replicate_succ] at h3 ⊢;simp only [dH,h4];exact h3
 |true =>
  simp only [if_true,List.length_cons,List.replicate_succ] at h3 ⊢;intro na;obtain ⟨lg,e1,e2,e3⟩:=h3 na;refine ⟨cP (M4 A n l b) i none ⟨T,H,pre++ .any::c9 ops.length .any,n6⟩ ⟨T',H',pre' ++v::c9 ops.length .any,ec⟩ rs::lg,?_,by simp [e2],?_⟩
  ·simp only [Q8,iQ,hk,ha,Bool.false_and,b7,if_false,h4,e1]
  ·intro k e he
   cases k with
   |zero =>
    simp only [List.getElem?_cons_zero,Option.some.injEq] at he;subst he;refine ⟨fun hb=>by simpa [cP,kO] using ht (by omega),fun i' hi' hr=> ?_⟩;simp only [List.getElem?_cons_zero,Option.some.injEq] at hi';subst hi';exact yH h4 hr
   |succ k =>
    simp only [List.getElem?_cons_succ] at he;refine ⟨fun hb=>(e3 k e he).1 (by omega),fun i' hi' hr=> ?_⟩;simp only [List.getElem?_cons_succ] at hi';exact (e3 k e he).2 i' hi' hr
theorem Rx.stepG {i:n8}{T' pre' :List b6}{H' :o6}{v:b6}{ec :List Touch}{rs:List Nat}{N1:Nat}(hl:pre'.length=pre.length)
  (hk:F4 ⟨T,H,pre++ .any::c9 ops.length .any,n6⟩ i.op=false) (ha:i.op.z8=false)
  (h:∀ n,N1<=n->y6 (M4 A n l b) j4 none pre.length i ⟨T,H,pre++ .any::c9 ops.length .any,n6⟩=some (⟨T',H',pre' ++v::c9 ops.length .any,ec⟩,rs))
  (ht:∀ rs,J6 (ec.take (ec.length - n6.length)) rs=false) (h2:Rx A l b dr j4 ops T' H' (pre' ++[v]) ec Q):Rx A l b dr j4 (i::ops) T H pre n6 Q :=
 Rx.FN hl hk ha h (fun _=>ht) h2
theorem Rx.step {i:n8}{T' :List b6}{H' :o6}{v:b6}{ec :List Touch}{rs:List Nat}{N1:Nat}(hk:F4 ⟨T,H,pre++ .any::c9 ops.length .any,n6⟩ i.op=false)(ha:i.op.z8=false)
  (h:∀ n,N1<=n->y6 (M4 A n l b) j4 none pre.length i ⟨T,H,pre++ .any::c9 ops.length .any,n6⟩=some (⟨T',H',pre++v::c9 ops.length .any,ec⟩,rs))
  (ht:∀ rs,J6 (ec.take (ec.length - n6.length)) rs=false) (h2:Rx A l b dr j4 ops T' H' (pre++[v]) ec Q):Rx A l b dr j4 (i::ops) T H pre n6 Q :=
 Rx.stepG rfl hk ha h ht h2
def XN (T pre:List b6):q7->Option b6
 | .slot s=>T[s]?
 | .loc j=>pre[j]?
 | .const v=>some v
def Op (T pre:List b6)(x:q7)(v:b6):Prop:=XN T pre x=some v/\v.G4=v
theorem Op.F5 {x:q7}{v:b6}(h:Op T pre x v)(m:Nat):F5 T (pre++ .any::c9 m .any) x=v:=by
 obtain ⟨h1,h2⟩:=h;cases x with
 |slot s=>simp only [XN] at h1;simp [y3.F5,h1,h2]
 |loc j =>
  simp only [XN] at h1;have:j<pre.length:=by
   rcases u9 j pre.length with hj|hj
   ·exact hj
   ·rw [A8 hj] at h1;cases h1
  simp [y3.F5,x9 this,h1,h2]
 |const u=>simp only [XN,Option.some.injEq] at h1;subst h1;simp [y3.F5,Ou h2]
theorem F6 (pre:List b6)(a v:b6)(r:List b6):(pre++a::r).set pre.length v=pre++v::r:=by
 simp
theorem Rx.pure {op:q9}{u:List Nat}{v:b6}{rs:List Nat}(hE:op.E2=false)(hp:∀ m,m6 (y3.F5 T (pre++ .any::c9 m .any)) H op=some (v,rs))
  (h2:Rx A l b dr j4 ops T H (pre++[v]) n6 Q):Rx A l b dr j4 (⟨op,none,none,u⟩::ops) T H pre n6 Q:=by
 have hm:∀ x,op≠ .O3 x:=by
  rintro x rfl;have:=hp 0;simp [m6] at this
 refine Rx.step (N1:=0) (rs:=rs) ?_ ?_ ?_ ?_ h2
 ·cases op<;>first|rfl|(simp [q9.E2] at hE)
 ·cases op<;>first|rfl|(simp [q9.E2] at hE)|skip
  have:=hp 0;rename_i ob;cases ob
  ·rfl
  ·simp [m6] at this
 ·intro n _
  have h3:D6 (M4 A n l b) j4 none pre.length op ⟨T,H,pre++ .any::c9 ops.length .any,n6⟩=some (⟨T,H,pre++v::c9 ops.length .any,n6⟩,rs):=by
   have h4:=hp ops.length;cases op<;>first
    |exact absurd rfl (hm _)
    |(simp only [D6,hE,b7,if_false,h4,put,F6];done)
    |(simp [q9.E2] at hE;done)
  simp only [y6,y4,h3,q8,F3]
 ·intro rs;simp [J6]
theorem Op.D7 {x:q7}{v:b6}(h:Op T pre x v)(m:Nat):y3.D7 ⟨T,H,pre++ .any::c9 m .any,n6⟩ x=(v,⟨T,H,pre++ .any::c9 m .any,n6⟩):=by
 have hr:=h.F5 m;cases x with
 |slot s=>simp only [y3.D7,hr]
 |loc j =>
  obtain ⟨h1,h2⟩:=h;simp only [XN] at h1;have hj:j<pre.length:=by
   rcases u9 j pre.length with hj|hj
   ·exact hj
   ·rw [A8 hj] at h1;cases h1
  simp only [y3.D7,x9 hj,h1];split
  ·rename_i heq
   cases heq;simp [b6.G4] at h2
  ·rw [hr]
 |const u =>
  obtain ⟨h1,h2⟩:=h;simp only [XN,Option.some.injEq] at h1;subst h1;rfl
theorem Rx.O3 {x:q7}{u:List Nat}{v:b6}(hx:Op T pre x v)(h2:Rx A l b dr j4 ops T H (pre++[v]) n6 Q):Rx A l b dr j4 (⟨.O3 x,none,none,u⟩::ops) T H pre n6 Q:=by
 refine Rx.step (N1:=0) (rs:=[]) rfl rfl (fun n _=> ?_) (fun rs=>by simp [J6]) h2;simp only [y6,y4,D6,q9.E2,b7,if_false,hx.D7,put,F6,q8,F3]
theorem Rx.ai3 {x:q7}{u:List Nat}{v:b6}{s:Nat}(hx:Op T pre x v)(hs:T[s]?.isSome=true)(h2:Rx A l b dr j4 ops (T.set s v) H (pre++[v]) (.slot s::n6) Q) :
  Rx A l b dr j4 (⟨.O3 x,some s,none,u⟩::ops) T H pre n6 Q:=by
 refine Rx.step (N1:=0) (rs:=[]) rfl rfl (fun n _=> ?_) (fun rs=> ?_) h2
 ·have hv:=hx.2
  have hs:s<T.length:=by
   rcases u9 s T.length with h|h
   ·exact h
   ·rw [A8 h] at hs;cases hs
  simp only [y6,y4,D6,q9.E2,b7,if_false,hx.D7,put,F6,q8,F3,hs,if_true];have h3:y3.D7 ⟨T,H,pre++v::c9 ops.length .any,n6⟩ (.loc pre.length)=(v,⟨T,H,pre++v::c9 ops.length .any,n6⟩):=by
   simp only [y3.D7,s7 (n5 _),Nat.sub_self,List.getElem?_cons_zero];split
   ·rename_i heq
    cases heq;simp [b6.G4] at hv
   ·simp [y3.F5,hv]
  rw [h3]
 ·have:(n6.length+1) - n6.length=1:=by omega
  simp [J6,this,Touch.K4]
theorem Rx.XE {s:Nat}{u:List Nat}{z n:Nat}{cs:List Data}(hx:T[s]? =some (.own z n cs))(h2:Rx A l b dr j4 ops T H (pre++[.d (.slice n cs)]) n6 Q):Rx A l b dr j4 (⟨.O3 (.slot s),none,none,u⟩::ops) T H pre n6 Q:=by
 refine Rx.step (N1:=0) (rs:=[]) rfl rfl (fun n _=> ?_) (fun rs=>by simp [J6]) h2;simp only [y6,y4,D6,q9.E2,b7,if_false,y3.D7,put,F6,q8,F3];simp [y3.F5,hx,b6.G4]
theorem gD (s:Nat)(n6:List Touch)(rs:List Nat):J6 ((Touch.slot s::n6).take ((Touch.slot s::n6).length - n6.length)) rs=false:=by
 have:(n6.length+1) - n6.length=1:=by omega
 simp [J6,this,Touch.K4]
theorem Rx.append {j s sz bytes:Nat}{y:q7}{u u' :List Nat}{d' :Option Nat}{g' :Option (Nat×Bool)}{n' len m:Nat}{cs' cells new:List Data}{vy:b6}{cs:List b6}
  (hj:pre[j]? =some (.d (.slice n' cs'))) (ha:j4[j]? =some ⟨.O3 (.slot s),d',g',u'⟩) (ht:n6.any (Touch.R9 s)=false) (hT:T[s]? =some (.own sz len cells))
  (hy:∀ m,y3.F5 T (pre++ .any::c9 m .any) y=vy) (hc:J5 H sz vy=some (m,cs)) (hd:N9 cs=some new) (hr:roomFor (len+m) bytes=true) (h0:0<sz)
  (h2:Rx A l b dr j4 ops (T.set s (.d (.slice len cells))) H (pre++[.own sz (len+m) (cells++new)]) (.slot s::n6) Q):Rx A l b dr j4 (⟨.append sz bytes false (.loc j) y,none,none,u⟩::ops) T H pre n6 Q:=by
 have hjl:j<pre.length:=by
  rcases u9 j pre.length with hj' |hj'
  ·exact hj'
  ·rw [A8 hj'] at hj;cases hj
 have hL:∀ r:List b6,(pre++ .any::r)[j]? =some (.d (.slice n' cs')):=fun r=>by rw [x9 hjl,hj]
 have xz:y3.F5 T (pre++ .any::c9 ops.length .any) (.loc j)= .d (.slice n' cs'):=by simp [y3.F5,hL,b6.G4]
 refine Rx.step (N1:=0) (rs:=[]) (by simp only [F4,xz]) rfl (fun n _=> ?_) (gD s n6) h2;simp only [y6,y4,D6,q9.E2,if_true,E6,xz,L0,hy,hc,hd,b7,if_false,Q1,hL,ha,V2,ht,hT,hr,h0,and_self,put,F6,q8,F3]
theorem Rx.Px {j s:Nat}{u:List Nat}{z n0:Nat}{cs:List Data}(hj:pre[j]? =some (.own z n0 cs))(hs:T[s]?.isSome=true)
  (h2:Rx A l b dr j4 ops (T.set s (.own z n0 cs)) H (pre.set j (.d (.slice n0 cs))++[.d (.slice n0 cs)]) (.slot s::n6) Q):Rx A l b dr j4 (⟨.O3 (.loc j),some s,none,u⟩::ops) T H pre n6 Q:=by
 have hjl:j<pre.length:=by
  rcases u9 j pre.length with hj' |hj'
  ·exact hj'
  ·rw [A8 hj'] at hj;cases hj
 have hs:s<T.length:=by
  rcases u9 s T.length with h|h
  ·exact h
  ·rw [A8 h] at hs;cases hs
 refine Rx.stepG (N1:=0) (rs:=[]) (by simp) rfl rfl (fun n _=> ?_) (gD s n6) h2;have hL:∀ r:List b6,(pre++ .any::r)[j]? =some (.own z n0 cs):=fun r=>by rw [x9 hjl,hj]
 have h3:∀ (a:b6) (r:List b6),(pre++a::r).set j (.d (.slice n0 cs))=pre.set j (.d (.slice n0 cs))++a::r:=fun a r=>List.set_append_left _ _ hjl
 have hl:(pre.set j (.d (.slice n0 cs))).length=pre.length:=by simp
 have h4:∀ (a v:b6) (r:List b6),(pre.set j (.d (.slice n0 cs))++a::r).set pre.length v=pre.set j (.d (.slice n0 cs))++v::r:=fun a v r=>by rw [<- hl];exact F6 _ _ _ _
 have h5:∀ (v:b6) (r:List b6),(pre.set j (.d (.slice n0 cs))++v::r)[pre.length]? =some v:=fun v r=>by rw [<- hl];simp
 simp only [y6,y4,D6,q9.E2,b7,if_false,y3.D7,hL,h3,put,h4,q8,F3,hs,if_true,h5]
theorem Rn.TI {T:List b6}{H:o6}(h:Rx A l b false ops ops T H [] [] Q):Rn A l b ops false T H Q:=by
 obtain ⟨r,N,hq,h⟩:=h;exact ⟨r,N,hq,fun n hn=>by simp only [P6];simpa using h n hn⟩
theorem Rn.TH {T:List b6}{H:o6}(hp:pI ops=true)(h:Rx A l b true ops ops T H [] [] Q):Rn A l b ops true T H Q:=by
 obtain ⟨r,N,hq,h⟩:=h;refine ⟨r,N,hq,fun n hn=> ?_⟩;have h1:=h n hn;simp only [if_true] at h1;obtain ⟨lg,e1,e2,e3⟩:=h1 H.length;simp only [pI,List.all_eq_true,Bool.and_eq_true,Bool.not_eq_true',decide_eq_true_eq] at hp;have DK:Z1 ops=[]:=by
  simp only [Z1,List.map_eq_nil_iff,List.filter_eq_nil_iff,Bool.not_eq_true];exact fun i hi=>(hp i hi).1
 have vM:slotsOf ops=[]:=by
  simp only [slotsOf,List.filterMap_eq_nil_iff];intro i hi;rw [(hp i hi).1];rfl
 have WQ:uv ops lg=true:=by
  simp only [uv,List.all_eq_true];rintro ⟨i,le⟩ Ac e he;obtain ⟨j,hj,hji⟩:=List.getElem_of_mem Ac;simp only [List.length_zip] at hj;have To:j<ops.length:=by omega
  have hj2:j<lg.length:=by omega
  simp only [List.getElem_zip,Prod.mk.injEq] at hji;obtain ⟨rfl,rfl⟩:=hji;have hi:ops[j] ∈ ops:=List.getElem_mem To;have hlt:=(hp _ hi).2 e he;have this:e<lg.length:=by rw [e2];exact hlt
  rw [s9 this];cases hr:ops[j].op.TW with
  |true =>
   have h5:=(e3 e _ (s9 this)).1 (by simpa using wI hi hr he);simp [h5,(hp _ hi).1]
  |false =>
   have h5:=(e3 j _ (s9 hj2)).2 _ (s9 To) hr;simp [h5,J6,(hp _ hi).1]
 simp only [List.length_nil,List.nil_append] at e1;simp only [P6,if_true,DK,vM,List.append_nil,e1,WQ]
theorem Rx.call {f:FuncId}{xs:List q7}{u:List Nat}{v:b6}{args:List b6}(fR:A.prom f=false)(hm:A.mode f=1)(ha:∀ m,xs.map (y3.F5 T (pre++ .any::c9 m .any))=args)
  (hb:A4 args=0) (hc:Pf A f args v) (h2:Rx A l b dr j4 ops T H (pre++[v]) n6 Q):Rx A l b dr j4 (⟨.call f xs,none,none,u⟩::ops) T H pre n6 Q:=by
 obtain ⟨M,hc⟩:=hc;refine Rx.step (N1:=M) (rs:=[]) rfl rfl (fun n hn=> ?_) (fun rs=>by simp [J6]) h2;have h3:C7 (M4 A n l b) pre.length f args ⟨T,H,pre++ .any::c9 ops.length .any,n6⟩=some (put ⟨T,H,pre++ .any::c9 ops.length .any,n6⟩ pre.length v) :=
  jc fR hm hb (hc n hn)
 simp only [y6,y4,D6,q9.E2,if_true,E6,ha,h3,q8,F3,put,F6]
theorem Ck {o:BinOp}{c d e:Int}(h:o= .add/\c+d=e\/o= .sub/\c - d=e)(h0: -9223372036854775808<=e)(h1:e<9223372036854775808):M5 o (.int .i64 c) (.int .i64 d)=some (.int .i64 e):=by
 rcases h with ⟨rfl,rfl⟩|⟨rfl,rfl⟩<;>simp [M5,X4,aS,wrap_small h0 h1]
end
abbrev D8:=List UInt8
def z6 {α:Type}(f:α->List Data)(l:List α):Data:= .slice l.length (l.flatMap f)
def num (n:Int):Data:= .int .i64 n
structure aE where
 op:Int
 kind:Int
 int:Int
 text:D8
 col:Int
def aE.enc (t:aE):List Data:=[num t.op,num t.kind,num t.int,.str t.text,num t.col]
structure Y5 where
 name:D8
 type:Int
 space:D8
 refs:D8
 C5:List Int
 ek:Int
 ir:Int
def Y5.enc (c:Y5):List Data:=[.str c.name,num c.type,.str c.space,.str c.refs,z6 (fun n=>[num n]) c.C5,num c.ek,num c.ir]
structure eZ where
 name:D8
 m7:List Y5
 erase:Int
 Z4:Int
def eZ.enc (t:eZ):List Data:=[.str t.name,z6 Y5.enc t.m7,num t.erase,num t.Z4]
structure HC where
 name:D8
 expr:List aE
def HC.enc (x:HC):List Data:=[.str x.name,z6 aE.enc x.expr]
structure Ao where
 name:D8
 func:Int
 expr:List aE
def Ao.enc (x:Ao):List Data:=[.str x.name,num x.func,z6 aE.enc x.expr]
structure Vw where
 name:D8
 kind:Int
 left:D8
 right:D8
 on:List (Int×Int)
 wh:List aE
 items:List HC
 distinct:Bool
 C1:List Ao
def Vw.enc (v:Vw):List Data:=[.str v.name,num v.kind,.str v.left,.str v.right,z6 (fun p=>[num p.1,num p.2]) v.on,z6 aE.enc v.wh,z6 HC.enc v.items,.bool v.distinct,z6 Ao.enc v.C1]
structure iC where
 name:D8
 source:D8
 col:Int
def iC.enc (x:iC):List Data:=[.str x.name,.str x.source,num x.col]
structure iq where
 name:D8
 source:D8
 col:Int
 kind:Int
 width:Int
 depth:Int
def iq.enc (x:iq):List Data:=[.str x.name,.str x.source,num x.col,num x.kind,num x.width,num x.depth]
structure kj where
 name:D8
 source:D8
 col:Int
 ttl:Int
def kj.enc (x:kj):List Data:=[.str x.name,.str x.source,num x.col,num x.ttl]
structure jx where
 name:D8
 source:D8
 VX:Int
def jx.enc (x:jx):List Data:=[.str x.name,.str x.source,num x.VX]
structure lS where
 name:D8
 table:D8
def lS.enc (x:lS):List Data:=[.str x.name,.str x.table]
structure lQ where
 name:D8
 tables:List D8
 keep:Int
def lQ.enc (x:lQ):List Data:=[.str x.name,z6 (fun s=>[.str s]) x.tables,num x.keep]
structure m8 where
 j3:List eZ
 views:List Vw
 idxs:List iC
 E7:List iq
 F1:List kj
 I9:List jx
 K9:List lS
 M7:List lQ
def m8.enc (c:m8):List Data:=[z6 eZ.enc c.j3,z6 Vw.enc c.views,z6 iC.enc c.idxs,z6 iq.enc c.E7,z6 kj.enc c.F1,z6 jx.enc c.I9,z6 lS.enc c.K9,z6 lQ.enc c.M7]
def ctI:CT:= .int .i64
def vt (n:Int):Prop:= -9223372036854775808<=n/\n<9223372036854775808
theorem HZ {α:Type}{e:List CT}{enc:α->List Data}{ok:α->Prop}(hr:∀ r,W9 e r->∃ a,r=enc a/\ok a){d:Data}(h:Fits (.slice e) d) :
  ∃ l:List α,d=z6 enc l/\l.length<=maxLen/\∀ a,a ∈ l->ok a:=by
 simp only [Fits] at h;obtain ⟨rows,rfl,hl,hall⟩:=h;have:∀ rows:List (List Data),(∀ r,r ∈ rows->W9 e r)->∃ l:List α,l.length=rows.length/\rows.flatten=l.flatMap enc/\∀ a,a ∈ l->ok a:=by
  intro rows
  induction rows with
  |nil=>intro _;exact ⟨[],rfl,rfl,by simp⟩
  |cons r rs ih =>
   intro h;obtain ⟨a,ha,hok⟩:=hr r (h r (by simp));obtain ⟨l,h1,h2,h3⟩:=ih (fun r hr' =>h r (by simp [hr']));refine ⟨a::l,by simp [h1],by simp [h2,ha],?_⟩;intro b hb
   rcases C6.1 hb with rfl|hb
   ·exact hok
   ·exact h3 b hb
 obtain ⟨l,h1,h2,h3⟩:=this rows hall;exact ⟨l,by rw [z6,h1,h2],by omega,h3⟩
theorem OH {d:Data}(h:Fits ctI d):∃ n,d=num n/\vt n:=by
 simp only [ctI,Fits] at h;obtain ⟨n,rfl,hw⟩:=h;refine ⟨n,rfl,?_⟩;simp [Lit.wf] at hw;have hm:IntKind.i64.min= -9223372036854775808:=rfl;rw [hm] at hw;unfold vt;omega
structure aE.ok (x:aE):Prop where
 op:vt x.op
 kind:vt x.kind
 int:vt x.int
 text:x.text.length<=maxLen
 col:vt x.col
structure Y5.ok (x:Y5):Prop where
 name:x.name.length<=maxLen
 type:vt x.type
 space:x.space.length<=maxLen
 refs:x.refs.length<=maxLen
 C5:x.C5.length<=maxLen/\∀ a,a ∈ x.C5->vt a
 ek:vt x.ek
 ir:vt x.ir
structure eZ.ok (x:eZ):Prop where
 name:x.name.length<=maxLen
 m7:x.m7.length<=maxLen/\∀ a,a ∈ x.m7->a.ok
 erase:vt x.erase
 Z4:vt x.Z4
structure HC.ok (x:HC):Prop where
 name:x.name.length<=maxLen
 expr:x.expr.length<=maxLen/\∀ a,a ∈ x.expr->a.ok
structure Ao.ok (x:Ao):Prop where
 name:x.name.length<=maxLen
 func:vt x.func
 expr:x.expr.length<=maxLen/\∀ a,a ∈ x.expr->a.ok
structure Vw.ok (x:Vw):Prop where
 name:x.name.length<=maxLen
 kind:vt x.kind
 left:x.left.length<=maxLen
 right:x.right.length<=maxLen
 on:x.on.length<=maxLen/\∀ a,a ∈ x.on->vt a.1/\vt a.2
 wh:x.wh.length<=maxLen/\∀ a,a ∈ x.wh->a.ok
 items:x.items.length<=maxLen/\∀ a,a ∈ x.items->a.ok
 distinct:True
 C1:x.C1.length<=maxLen/\∀ a,a ∈ x.C1->a.ok
structure iC.ok (x:iC):Prop where
 name:x.name.length<=maxLen
 source:x.source.length<=maxLen
 col:vt x.col
structure iq.ok (x:iq):Prop where
 name:x.name.length<=maxLen
 source:x.source.length<=maxLen
 col:vt x.col
 kind:vt x.kind
 width:vt x.width
 depth:vt x.depth
structure kj.ok (x:kj):Prop where
 name:x.name.length<=maxLen
 source:x.source.length<=maxLen
 col:vt x.col
 ttl:vt x.ttl
structure jx.ok (x:jx):Prop where
 name:x.name.length<=maxLen
 source:x.source.length<=maxLen
 VX:vt x.VX
structure lS.ok (x:lS):Prop where
 name:x.name.length<=maxLen
 table:x.table.length<=maxLen
structure lQ.ok (x:lQ):Prop where
 name:x.name.length<=maxLen
 tables:x.tables.length<=maxLen/\∀ a,a ∈ x.tables->a.length<=maxLen
 keep:vt x.keep
structure m8.ok (x:m8):Prop where
 j3:x.j3.length<=maxLen/\∀ a,a ∈ x.j3->a.ok
 views:x.views.length<=maxLen/\∀ a,a ∈ x.views->a.ok
 idxs:x.idxs.length<=maxLen/\∀ a,a ∈ x.idxs->a.ok
 E7:x.E7.length<=maxLen/\∀ a,a ∈ x.E7->a.ok
 F1:x.F1.length<=maxLen/\∀ a,a ∈ x.F1->a.ok
 I9:x.I9.length<=maxLen/\∀ a,a ∈ x.I9->a.ok
 K9:x.K9.length<=maxLen/\∀ a,a ∈ x.K9->a.ok
 M7:x.M7.length<=maxLen/\∀ a,a ∈ x.M7->a.ok
section
variable {A:Prog} {l:G9} {b:Nat}
variable {dr:Bool} {j4 ops:List n8} {T:List b6} {H:o6} {pre:List b6} {n6:List Touch} {Q:List b6->o6->List b6->Prop}
theorem pY {j:Nat}{v:b6}(h:pre[j]? =some v)(r:List b6):(pre++r)[j]? =some v:=by
 have hj:j<pre.length:=by
  rcases u9 j pre.length with hj' |hj'
  ·exact hj'
  ·rw [A8 hj'] at h;cases h
 rw [x9 hj,h]
theorem Rx.Uo {op:q9}{j:Nat}{want w:Bool}{u:List Nat}(h:pre[j]? =some (.d (.bool w)))(hw:(w==want)=false)(hk:F4 ⟨T,H,pre++ .any::c9 ops.length .any,n6⟩ op=false)(ha:op.z8=false)
  (h2:Rx A l b dr j4 ops T H (pre++[.tuple []]) n6 Q):Rx A l b dr j4 (⟨op,none,some (j,want),u⟩::ops) T H pre n6 Q:=by
 refine Rx.step (N1:=0) (rs:=[]) hk ha (fun n _=> ?_) (fun rs=>by simp [J6]) h2;simp only [y6,y4,pY h,hw,put,F6,q8,F3]
theorem Ay {mask:List Bool}{strict n:Nat}(h:H.length=n):clean mask strict n ⟨T,H⟩=⟨V0 mask T,H⟩:=by
 subst h;simp [clean]
theorem Dz {E:Env}{u5:Option Nat}{k j:Nat}{op:q9}{dst:Option Nat}{want w:Bool}{u:List Nat}{st:E5}(h:st.L[j]? =some (.d (.bool w)))(hw:(w==want)=true) :
  y6 E j4 u5 k ⟨op,dst,some (j,want),u⟩ st=y6 E j4 u5 k ⟨op,dst,none,u⟩ st:=by
 simp only [y6,y4,h,hw]
theorem Rx.wanted {op:q9}{dst:Option Nat}{j:Nat}{want w:Bool}{u:List Nat}(h:pre[j]? =some (.d (.bool w)))(hw:(w==want)=true)
  (h2:Rx A l b dr j4 (⟨op,dst,none,u⟩::ops) T H pre n6 Q):Rx A l b dr j4 (⟨op,dst,some (j,want),u⟩::ops) T H pre n6 Q:=by
 obtain ⟨r,N,hq,hr⟩:=h2;refine ⟨r,N,hq,fun n hn=> ?_⟩;have h3:=hr n hn;have h4:∀ E u5,y6 E j4 u5 pre.length ⟨op,dst,some (j,want),u⟩ ⟨T,H,pre++c9 (ops.length+1) .any,n6⟩=y6 E j4 u5 pre.length ⟨op,dst,none,u⟩ ⟨T,H,pre++c9 (ops.length+1) .any,n6⟩ :=
  fun E u5=>Dz (pY h _) hw
 cases dr with
 |false =>
  simp only [b7,if_false,List.length_cons,dH] at h3 ⊢;rw [h4];exact h3
 |true =>
  simp only [if_true,List.length_cons,Q8,iQ] at h3 ⊢;intro na;rw [h4];obtain ⟨lg,e1,e2,e3⟩:=h3 na;refine ⟨lg,e1,e2,fun k e he=>⟨(e3 k e he).1,fun i hi hr=> ?_⟩⟩;cases k with
  |zero =>
   simp only [List.getElem?_cons_zero,Option.some.injEq] at hi;subst hi;exact (e3 0 e he).2 ⟨op,dst,none,u⟩ rfl hr
  |succ k=>exact (e3 (k+1) e he).2 i (by simpa using hi) hr
theorem Rx.stepT {i:n8}{T' pre' :List b6}{H' :o6}{v:b6}{ec :List Touch}{rs:List Nat}{N1:Nat}(hl:pre'.length=pre.length)
  (h:∀ n,N1<=n->y6 (M4 A n l b) j4 none pre.length i ⟨T,H,pre++ .any::c9 ops.length .any,n6⟩=some (⟨T',H',pre' ++v::c9 ops.length .any,ec⟩,rs))
  (h2:Rx A l b false j4 ops T' H' (pre' ++[v]) ec Q):Rx A l b false j4 (i::ops) T H pre n6 Q:=by
 obtain ⟨r,N,hq,h2⟩:=h2;refine ⟨r,max N N1,hq,fun n hn=> ?_⟩;have h3:=h2 n (by omega);have h4:=h n (by omega);simp only [List.append_assoc,List.cons_append,List.nil_append,List.length_append,List.length_cons,List.length_nil,hl] at h3;simp only [b7,if_false,List.length_cons,List.replicate_succ] at h3 ⊢;simp only [dH,h4];exact h3
theorem Rx.ad3 {x:q7}{u:List Nat}{v:b6}{cs:List b6}{s:Nat}(hx:Op T pre x v)(hc:v.cells? =some cs)(hs:T[s]?.isSome=true)
  (h2:Rx A l b false j4 ops (T.set s (.ptr H.length 0)) (H++[.cells cs]) (pre++[.ptr H.length 0]) (.slot s::n6) Q):Rx A l b false j4 (⟨.box x,some s,none,u⟩::ops) T H pre n6 Q:=by
 have hs:s<T.length:=by
  rcases u9 s T.length with h|h
  ·exact h
  ·rw [A8 h] at hs;cases hs
 refine Rx.stepT (N1:=0) (rs:=[]) rfl (fun n _=> ?_) h2;have h3:∀ r:List b6,(pre++ .ptr H.length 0::r)[pre.length]? =some (.ptr H.length 0):=fun r=>by simp
 simp only [y6,y4,D6,q9.E2,if_true,E6,hx.F5,hc,J7,newId,Option.getD_none,put,F6,q8,F3,hs,y3.D7,h3];simp [y3.F5,b6.G4]
theorem Rx.aj3 {s z n0:Nat}{cs:List Data}{u:List Nat}(hs:T[s]?.isSome=true)(h2:Rx A l b dr j4 ops (T.set s (.own z n0 cs)) H (pre++[.d (.slice n0 cs)]) (.slot s::n6) Q) :
  Rx A l b dr j4 (⟨.O3 (.const (.own z n0 cs)),some s,none,u⟩::ops) T H pre n6 Q:=by
 have hs:s<T.length:=by
  rcases u9 s T.length with h|h
  ·exact h
  ·rw [A8 h] at hs;cases hs
 refine Rx.step (N1:=0) (rs:=[]) rfl rfl (fun n _=> ?_) (gD s n6) h2;have h5:∀ r:List b6,(pre++ .own z n0 cs::r)[pre.length]? =some (.own z n0 cs):=fun r=>by simp
 simp only [y6,y4,D6,q9.E2,b7,if_false,y3.D7,put,F6,q8,F3,hs,if_true,h5]
theorem Ex.J0 {mask:List Bool}{body:o8}{R:E4->St->Prop}(Inv:Nat->List b6->o6->Prop)(hl:∀ k T' H',Inv k T' H' ->H'.length=H.length)
  (hb:∀ k T' H',Inv k T' H' ->Ex A l b body ⟨V0 mask T',H'⟩ (xq R fun s=>∃ k',k' <k/\Inv k' s.T s.H)) {k:Nat} (h:Inv k T H):Ex A l b (.loop mask body) ⟨T,H⟩ R:=by
 refine Ex.loop (fun k s=>Inv k s.T s.H) (fun k s hs=> ?_) (k:=k) h;obtain ⟨T',H'⟩:=s;rw [Ay (hl k T' H' hs)];exact hb k T' H' hs
end
theorem kG {α:Type}{enc:α->List Data}{sz:Nat}(hs:∀ a,(enc a).length=sz):∀ (l:List α) (i:Nat) (h:i<l.length),(l.flatMap enc).drop (i * sz)=enc l[i]++(l.drop (i+1)).flatMap enc
 |a::l,0,h=>by simp
 |a::l,i+1,h=>by
  have h1:=kG hs l i (by simpa using h);rw [List.flatMap_cons,Nat.succ_mul,Nat.add_comm,<- List.drop_drop];rw [show (enc a++l.flatMap enc).drop sz=l.flatMap enc by rw [<- hs a,List.drop_left]];simpa using h1
theorem OA {α:Type}{enc:α->List Data}{sz:Nat}(hs:∀ a,(enc a).length=sz)(l:List α)(i:Nat)(h:i<l.length) :
  (l.flatMap enc).drop ((i:Int).toNat * sz)=enc l[i]++(l.drop (i+1)).flatMap enc:=by
 rw [Int.toNat_natCast];exact kG hs l i h
def m8.names (c:m8):List D8:=c.j3.map eZ.name++c.views.map Vw.name++c.idxs.map iC.name++c.E7.map iq.name++c.F1.map kj.name++c.I9.map jx.name++c.K9.map lS.name++c.M7.map lQ.name
def cat (c:m8):b6:= .agg (c.enc.map .d)
def m8.fI (c:m8):Prop:=c.j3.length<=1000/\c.views.length<=1000/\c.idxs.length<=1000/\c.E7.length<=1000/\c.F1.length<=1000/\c.I9.length<=1000/\c.K9.length<=1000/\c.M7.length<=1000
def ij {α:Type}(a b:Option α):Prop:=∀ r,a=some r->b=some r
theorem ij.refl {α:Type}(a:Option α):ij a a:=fun _ h=>h
theorem ij.no {α:Type}(b:Option α):ij none b:=fun _ h=>by cases h
def LeC (c c' :qp):Prop:=∀ f args H l,ij (c f args H l) (c' f args H l)
section
variable {cf NO :qp} (hc:LeC cf NO) {p:FuncId->Bool} {md:FuncId->Nat} {qm:FuncId->Bool} {l:G9} {e:Nat}
include hc
theorem wN (k:Nat)(f:FuncId)(args:List b6)(st:E5):ij (C7 ⟨cf,p,md,qm,l,e⟩ k f args st) (C7 ⟨NO,p,md,qm,l,e⟩ k f args st):=by
 unfold C7;simp only;split
 ·cases h:cf f args st.H l with
  |none=>exact ij.no _
  |some r=>rw [hc _ _ _ _ _ h];exact ij.refl _
 ·split
  ·split
   ·cases h:cf f args (List.take (I4 st.H l.strict 8 (A4 args)) st.H) { l with base:=I4 st.H l.strict 8 (A4 args),strict:=C8 st.H l.strict (I4 st.H l.strict 8 (A4 args)) } with
    |none=>exact ij.no _
    |some r=>rw [hc _ _ _ _ _ h];exact ij.refl _
   ·cases h:cf f args (List.take (I4 st.H l.strict 8 (A4 args)) st.H) ⟨0,I4 st.H l.strict 8 (A4 args),I4 st.H l.strict 8 (A4 args),C8 st.H l.strict (I4 st.H l.strict 8 (A4 args))⟩ with
    |none=>exact ij.no _
    |some r=>rw [hc _ _ _ _ _ h];exact ij.refl _
   ·cases h:cf f args (List.take (I4 st.H l.strict 8 (A4 args)) st.H) (l.mC (args.headD .any).N4 (I4 st.H l.strict 8 (A4 args)) (I4 st.H l.strict 8 (A4 args)) (C8 st.H l.strict (I4 st.H l.strict 8 (A4 args)))) with
    |none=>exact ij.no _
    |some r=>rw [hc _ _ _ _ _ h];exact ij.refl _
  ·exact ij.no _
theorem Oz (j4:List n8)(u5:Option Nat)(k:Nat)(st:E5)(op:q9):ij (E6 ⟨cf,p,md,qm,l,e⟩ j4 u5 k st op) (E6 ⟨NO,p,md,qm,l,e⟩ j4 u5 k st op):=by
 cases op
 case call f xs=>exact wN hc k f _ st
 case p8 sz len z ps b=>cases b<;>exact ij.refl _
 case aO x xs =>
  simp only [E6];split
  ·exact wN hc k _ _ st
  ·exact ij.no _
 all_goals exact ij.refl _
theorem Rb (j4:List n8)(u5:Option Nat)(k:Nat)(op:q9)(st:E5):ij (D6 ⟨cf,p,md,qm,l,e⟩ j4 u5 k op st) (D6 ⟨NO,p,md,qm,l,e⟩ j4 u5 k op st):=by
 unfold D6;split
 ·intro r hr
  cases hx:E6 ⟨cf,p,md,qm,l,e⟩ j4 u5 k st op with
  |none=>rw [hx] at hr;cases hr
  |some x =>
   rw [hx] at hr;rw [Oz hc j4 u5 k st op _ hx];exact hr
 ·exact ij.refl _
theorem FM (j4:List n8)(u5:Option Nat)(k:Nat)(i:n8)(st:E5):ij (y6 ⟨cf,p,md,qm,l,e⟩ j4 u5 k i st) (y6 ⟨NO,p,md,qm,l,e⟩ j4 u5 k i st):=by
 unfold y6;split
 ·intro r hr
  cases hx:D6 ⟨cf,p,md,qm,l,e⟩ j4 u5 k i.op st with
  |none=>rw [hx] at hr;cases hr
  |some x =>
   rw [hx] at hr;rw [Rb hc j4 u5 k i.op st _ hx];exact hr
 ·exact ij.refl _
 ·exact ij.refl _
theorem Ba (j4:List n8):∀ (is:List n8) (k:Nat) (st:E5),ij (dH ⟨cf,p,md,qm,l,e⟩ j4 is k st) (dH ⟨NO,p,md,qm,l,e⟩ j4 is k st)
 |[],_,_=>ij.refl _
 |i::is,k,st=>by
  unfold dH;intro r hr;cases hx:y6 ⟨cf,p,md,qm,l,e⟩ j4 none k i st with
  |none=>rw [hx] at hr;cases hr
  |some x =>
   rw [hx] at hr;rw [FM hc j4 none k i st _ hx];exact Ba j4 is (k+1) x.1 r hr
theorem Ra (j4:List n8)(u5:Option Nat)(k:Nat)(i:n8)(st:E5):ij (iQ ⟨cf,p,md,qm,l,e⟩ j4 u5 k i st) (iQ ⟨NO,p,md,qm,l,e⟩ j4 u5 k i st):=by
 unfold iQ;split
 ·exact ij.refl _
 ·intro r hr
  cases hx:y6 ⟨cf,p,md,qm,l,e⟩ j4 u5 k i st with
  |none=>rw [hx] at hr;cases hr
  |some x =>
   rw [hx] at hr;rw [FM hc j4 u5 k i st _ hx];exact hr
theorem yh (j4:List n8):∀ (is:List n8) (k na:Nat) (st:E5),ij (Q8 ⟨cf,p,md,qm,l,e⟩ j4 is k na st) (Q8 ⟨NO,p,md,qm,l,e⟩ j4 is k na st)
 |[],_,_,_=>ij.refl _
 |i::is,k,na,st=>by
  unfold Q8;intro r hr;cases hx:iQ ⟨cf,p,md,qm,l,e⟩ j4 (if i.op.z8 then some na else none) k i st with
  |none=>rw [hx] at hr;cases hr
  |some x =>
   rw [hx] at hr;rw [Ra hc j4 _ k i st _ hx];simp only at hr ⊢;cases hy:Q8 ⟨cf,p,md,qm,l,e⟩ j4 is (k+1) (if i.op.z8 then na+1 else na) x.1 with
   |none=>rw [hy] at hr;cases hr
   |some y =>
    rw [hy] at hr;rw [yh j4 is (k+1) _ x.1 _ hy];exact hr
theorem rK (j4:List n8)(draw:Bool)(T:List b6)(H:o6):ij (P6 ⟨cf,p,md,qm,l,e⟩ j4 draw T H) (P6 ⟨NO,p,md,qm,l,e⟩ j4 draw T H):=by
 unfold P6;split
 ·intro r hr
  cases hx:Q8 ⟨cf,p,md,qm,l,e⟩ j4 j4 0 H.length ⟨T,H++Z1 j4,c9 j4.length .any,slotsOf j4⟩ with
  |none=>rw [hx] at hr;cases hr
  |some x =>
   rw [hx] at hr;rw [yh hc j4 j4 0 _ _ _ hx];exact hr
 ·exact Ba hc j4 j4 0 _
end
theorem ES {body body' :St->Option (E4×St)}(hb:∀ st,ij (body st) (body' st))(mask:List Bool)(strict n:Nat):∀ (k k' :Nat) (_:k<=k') (st:St),ij (fm body mask strict n k st) (fm body' mask strict n k' st)
 |0,_,_,_=>ij.no _
 |k+1,0,h,_=>by omega
 |k+1,k' +1,h,st=>by
  unfold fm;intro r hr;cases hx:body (clean mask strict n st) with
  |none=>rw [hx] at hr;cases hr
  |some x =>
   rw [hx] at hr;rw [hb _ _ hx];obtain ⟨x1,x2⟩:=x;cases x1 with
   |normal=>exact ES hb mask strict n k k' (by omega) x2 r hr
   |exit i=>exact hr
   |ret=>exact hr
theorem ga {cf NO :qp}(hc:LeC cf NO){p:FuncId->Bool}{md:FuncId->Nat}{qm:FuncId->Bool}{l:G9}{e n n' :Nat}(hn:n<=n'):∀ (c:o8) (st:St),ij (exec ⟨cf,p,md,qm,l,e⟩ n c st) (exec ⟨NO,p,md,qm,l,e⟩ n' c st)
 | .skip,_=>ij.refl _
 | .exit _,_=>ij.refl _
 | .ret,_=>ij.refl _
 | .bad,_=>ij.refl _
 | .fz _,_=>ij.refl _
 | .region ops draw,st=>by
  unfold exec;intro r hr;cases hx:P6 ⟨cf,p,md,qm,l,e⟩ ops draw st.T st.H with
  |none=>rw [hx] at hr;cases hr
  |some x =>
   rw [hx] at hr;rw [rK hc ops draw st.T st.H _ hx];exact hr
 | .seq a b,st=>by
  unfold exec;intro r hr;cases hx:exec ⟨cf,p,md,qm,l,e⟩ n a st with
  |none=>rw [hx] at hr;cases hr
  |some x =>
   rw [hx] at hr;rw [ga hc hn a st _ hx];obtain ⟨x1,x2⟩:=x;cases x1 with
   |normal=>exact ga hc hn b x2 r hr
   |exit i=>exact hr
   |ret=>exact hr
 | .cond c a b,st=>by
  unfold exec;split
  ·exact ga hc hn a st
  ·exact ga hc hn b st
  ·exact ij.refl _
 | .test ops draw c a b,st=>by
  unfold exec;intro r hr;cases hx:P6 ⟨cf,p,md,qm,l,e⟩ ops draw st.T st.H with
  |none=>rw [hx] at hr;cases hr
  |some x =>
   rw [hx] at hr;rw [rK hc ops draw st.T st.H _ hx];simp only at hr ⊢;split at hr
   ·exact ga hc hn a _ r hr
   ·exact ga hc hn b _ r hr
   ·cases hr
 | .block id body,st=>by
  unfold exec;intro r hr;cases hx:exec ⟨cf,p,md,qm,l,e⟩ n body st with
  |none=>rw [hx] at hr;cases hr
  |some x =>
   rw [hx] at hr;rw [ga hc hn body st _ hx];exact hr
 | .loop mask body,st=>by
  unfold exec;exact ES (fun st=>ga hc hn body st) mask _ _ n n' hn st
theorem Jy (A:Prog):∀ (n n' :Nat),n<=n' ->LeC (call A n) (call A n')
 |0,_,_=>fun _ _ _ _=>ij.no _
 |n+1,0,h=>by omega
 |n+1,n' +1,h=>fun f args H l=>by
  unfold call;split
  ·exact ij.refl _
  ·split
   ·rename_i af _
    unfold gF;split
    ·intro r hr
     cases hx:exec ⟨call A n,A.prom,A.mode,A.idle,l,H.length⟩ n af.body ⟨args++c9 (af.names.length - args.length) .any,H⟩ with
     |none=>rw [hx] at hr;cases hr
     |some x =>
      rw [hx] at hr;rw [ga (Jy A n n' (by omega)) (by omega) _ _ _ hx];exact hr
    ·exact ij.no _
   ·exact ij.refl _
theorem Pf.TG {A:Prog}{n:Nat}{f:FuncId}{args:List b6}{v:b6}(h:call A n f args [] cB=some (v,[])):Pf A f args v :=
 ⟨n,fun m hm=>Jy A n m hm f args [] cB _ h⟩
open Go.ChangeShapes Go.WideShapes Go.ChangeAt Go.RowKit
section
variable {H:Type} {enc:TypeId×Value->H} {P:Program} {w:World} {held:Bool} {base:Nat} {spare:Nat->Bool}
theorem Rl {t e:TypeId}{fuel:Nat}{a:Addr}{len cap:Nat}{x:DataW H×List MemPlace}(hu:P.underlying t=some (.slice e))(h:DataW.trod enc P w base spare held fuel t [.slice (some a) len cap]=some x):∃ elems rest,x.1= .slice elems rest/\elems.length=len:=by
 cases fuel with
 |zero=>simp [DataW.trod] at h
 |succ fuel =>
  unfold DataW.trod at h;rw [hu] at h;simp only at h;split at h
  ·simp only [Option.bind_eq_some_iff,Option.map_eq_some_iff] at h
   obtain ⟨elems,hm,rest,_,rfl⟩:=h;exact ⟨_,_,rfl,by rw [List.length_map,(gj hm).1,List.length_range]⟩
  ·cases h
def Szd (P:Program)(ts:List TypeId)(as:List b6):Prop:=∀ (j:Nat) (t e:TypeId) (n:Nat) (cells:List Data),ts[j]? =some t->P.underlying t=some (.slice e)->as[j]? =some (.d (.slice n cells))->n * P.bytesOf e<=reachBytes
theorem Rc:∀ (ts:List TypeId) (vs:List Value) (ds:List (DataW H)) (ps:List MemPlace) (as:List b6),DataW.TrodAll enc P w base spare held ts vs ds ps->I7 (G0 w) I0 N0 w as vs->(DataW.weightsEach P ts ds).all (·<=reachBytes)=true->Szd P ts as
 |[],_,_,_,_,_,_,_=>fun j t e n cells ht=>by simp at ht
 |t::ts,vs,ds,ps,as,h,hv,hs=>fun j t' e n cells ht hu ha=>by
  obtain ⟨v,vs1,d,ds1,a,b,rfl,rfl,rfl,h1,h2⟩:=Go.ChangeShapes.trodAll_cons h;cases as with
  |nil=>simp at ha
  |cons a0 as =>
   simp only [I7] at hv;obtain ⟨v',xs,e1,Xa,Ve⟩:=hv;cases e1;simp only [DataW.weightsEach,List.all_append,Bool.and_eq_true] at hs;cases j with
   |succ j=>exact Rc ts _ _ _ as h2 Ve hs.2 j t' e n cells (by simpa using ht) hu (by simpa using ha)
   |zero =>
    simp only [List.getElem?_cons_zero,Option.some.injEq] at ht ha;subst ht ha;simp only [VR,DR] at Xa
    rcases Xa with ⟨_,rfl,_⟩|⟨bb,o,cap,rfl,_,_⟩
    ·simp
    ·obtain ⟨fuel,hf⟩:=h1
     obtain ⟨elems,rest,e2,e3⟩:=Rl hu hf;simp only at e2;subst e2;have:=sized_slice (ts:=[t]) (ds:=[.slice elems rest]) (by simp only [DataW.weightsEach,List.all_append,Bool.and_eq_true];exact ⟨hs.1,rfl⟩) (j:=0) rfl rfl hu;rw [e3] at this;exact Nat.le_trans (Nat.mul_le_mul_right _ (Nat.le_add_right _ _)) this
end
theorem Ad {H:Type}{enc:TypeId×Value->H}{P:Program}{A:Prog}(hok:wB P A){fid:FuncId}{f:Func}{s:ChangeSpec}(hvars:s.vars=[]){tb:TypeId}(hrt:f.resultTypes= #[tb])(htb:P.underlying tb=some .bool)
  {ls:List (List CT)} (MO:Cf P f.params.toList ls=true) {W:World} {base:Nat} {args:Array Value} {ds gs:List (DataW H)} {before:List MemPlace} {r:Reach}
  (hfn:s.fn H ds={ results:=[.lit (.bool true)],args:=ds })
  (hval:∀ (j:Nat) t v,f.params[j]? =some t->args[j]? =some v->Value.okWide P W r base t v) (hW:DataW.Whole enc P f.params.toList s.vars false W args.toList ds gs before)
  (hsz:(DataW.weightsEach P (f.params.toList++s.plain.varTypes P) (ds++gs)).all (·<=reachBytes)=true)
  (ah9:∀ as,nO P f.params.toList ls as->Szd P f.params.toList as->∃ n,call A n fid as [] cB=some (.d (.bool true),[])) :
  Calls P fid args W fun e W' =>∃ v,e= .returned v/\s.post enc P f false true false false W args v W' :=by
 have hW' :=hW;obtain ⟨p,q,hA,hV,rfl,hfz,hnd⟩:=hW;rw [hvars] at hV;obtain ⟨rfl,rfl⟩:=trodVars_none hV;have aJ3 :(DataW.weightsEach P f.params.toList ds).all (·<=reachBytes)=true:=by
  have e:s.plain.varTypes P=[]:=by simp [ChangeSpec.plain,DataSpec.varTypes,hvars]
  rwa [e,List.append_nil,List.append_nil] at hsz
 obtain ⟨⟨as,a1,a2⟩,a3⟩:=Js f.params.toList ls args.toList ds p MO (fun j t v ht hv=>hval j t v (by simpa using ht) (by simpa using hv)) hA;obtain ⟨n,hn⟩:=ah9 as a1 (Rc _ _ _ _ _ hA a2 aJ3);refine (MX hok hn a2).mono ?_;rintro e W' ⟨rfl,hK⟩;have WM :s.fn H (ds++[])={ results:=[.lit (.bool true)],args:=ds }:=by rw [List.append_nil];exact hfn
 refine ⟨_,rfl,Nc (pa:=p) (pv:=[]) hW' hK (fun b sp hd=> ?_) (fun sp hsp=> ?_) (fun sp _=> ?_) rfl (fun j t v ht hv=> ?_)⟩
 ·rw [WM,hrt]
  exact trodAll_cons_mk (shut_bool htb _) trodAll_mk0
 ·rw [WM]
  exact a3 W' hK sp (fun p' hp=>hsp p' (by simpa using hp))
 ·rw [WM,hvars]
  rfl
 ·rw [hrt] at ht hv
  cases j with
  |zero =>
   simp at ht;simp [Value.resultList] at hv;subst ht;subst hv;exact okWide_bool_mk htb _
  |succ j=>simp at ht
end Go.y3

