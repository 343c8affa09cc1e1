/- Texts A37 A38 A39 A40 C1 A41 C2 A62 A63 (made short by a program) -/
import Derived.Test.YtkmclibmmlgogaaGreatB4
import Derived.OpenShut
import Derived.SizedLaws
set_option linter.unusedVariables false
set_option linter.unusedSimpArgs false
open Bool renaming false_eq_true → b7
open List renaming getElem?_append_left → p4, getElem?_append_right → p9, getElem?_eq_getElem → o7, getElem?_eq_none → q6, map_cons → G7, mem_cons → B8, replicate → c9
open Nat renaming add_assoc → H9, le_refl → l5, lt_or_ge → p7
open Option renaming map_some → E6
namespace Go.u7
inductive CT where
 |bool
 |int (k:IntKind)
 |str
 |slice (e:List CT)
mutual
def Fits:CT->Data->Prop
 | .bool,d=>∃ b,d= .bool b
 | .int k,d=>∃ n,d= .int k n/\(Lit.int k n).wf=true
 | .str,d=>∃ s:List UInt8,d= .str s/\s.length<=maxLen
 | .slice e,d=>∃ rows:List (List Data),d= .slice rows.length rows.flatten/\rows.length<=maxLen/\∀ r,r ∈ rows->T1 e r
def T1:List CT->List Data->Prop
 |[],ds=>ds=[]
 |c::cs,ds=>∃ d r,ds=d::r/\Fits c d/\T1 cs r
end
theorem T1.length:∀ (l:List CT) (ds:List Data),T1 l ds->ds.length=l.length
 |[],ds,h=>by simp [T1] at h;simp [h]
 |c::cs,ds,h=>by
  simp only [T1] at h;obtain ⟨d,r,rfl,_,h3⟩:=h;simp [T1.length cs r h3]
theorem jA:∀ {l m:List CT} {ds es:List Data},T1 l ds->T1 m es->T1 (l++m) (ds++es)
 |[],m,ds,es,h,k=>by simp [T1] at h;subst h;simpa using k
 |c::cs,m,ds,es,h,k=>by
  simp only [T1] at h;obtain ⟨d,r,rfl,h2,h3⟩:=h;simp only [List.cons_append,T1];exact ⟨d,r++es,rfl,h2,jA h3 k⟩
theorem LK (a:Addr)(m n:Nat):a.add (m+n)=(a.add m).add n:=by
 unfold Addr.add
 by_cases hm:m=0
 ·subst hm;simp
 ·by_cases hn:n=0
  ·subst hn;simp
  ·simp [hm,hn,H9]
def FL (P:Program)(lay:TypeId->List CT->Bool):List Field->Nat->List CT->Bool
 |[],_,l=>l.isEmpty
 |f::fs,o,l=>f.offset==o&&decide (P.cellsOf f.type<=l.length)&&lay f.type (l.take (P.cellsOf f.type))&&FL P lay fs (o+P.cellsOf f.type) (l.drop (P.cellsOf f.type))
def Kc (lay:List CT->Bool)(c:Nat):Nat->List CT->Bool
 |0,l=>l.isEmpty
 |m+1,l=>decide (c<=l.length)&&lay (l.take c)&&Kc lay c m (l.drop c)
def Lay (P:Program):Nat->TypeId->List CT->Bool
 |0,_,_=>false
 |n+1,t,l=>match P.underlying t with
  |some .bool=>(match l with
   |[.bool]=>true
   |_=>false)
  |some (.int k)=>(match l with
   |[.int k']=>k==k'
   |_=>false)
  |some .string=>(match l with
   |[.str]=>true
   |_=>false)
  |some (.slice e)=>(match l with
   |[.slice le]=>Lay P n e le&&P.cellsOf e==le.length&&decide (0<le.length)
   |_=>false)
  |some (.struct fs)=>P.cellsOf t==l.length&&FL P (Lay P n) fs.toList 0 l
  |some (.array m e)=>P.cellsOf t==l.length&&Kc (Lay P n e) (P.cellsOf e) m l
  |_=>false
abbrev I0:Q9:=fun _=>(0,0)
abbrev N0:Nat->Prop:=fun _=>False
theorem Kept.cell {w w' :World}(h:Kept w w'){a:Addr}{v:Value}(hv:w.cell? a=some v):w'.cell? a=some v:=by
 have:a.block<w.heap.size:=by
  rcases p7 a.block w.heap.size with h' |h'
  ·exact h'
  ·unfold World.cell? at hv
   rw [Array.getElem?_eq_none h'] at hv;simp at hv
 have e:w'.cell? a=w.cell? a:=by
  unfold World.cell?;rw [h.old _ this]
 rw [e];exact hv
theorem fL {α β:Type}{f g:α->Option β}:∀ {l:List α} {ys:List β},(∀ x y,x ∈ l->y ∈ ys->f x=some y->g x=some y)->l.mapM f=some ys->l.mapM g=some ys
 |[],ys,_,h=>by simpa using h
 |x::xs,ys,hfg,h=>by
  rw [List.mapM_cons] at h ⊢;cases hf:f x with
  |none=>rw [hf] at h;cases h
  |some y =>
   rw [hf] at h;cases hr:xs.mapM f with
   |none=>simp [hr] at h
   |some r =>
    simp [hr] at h;subst h;rw [hfg x y (by simp) (by simp) hf,fL (fun a b ha hb=>hfg a b (by simp [ha]) (by simp [hb])) hr];rfl
theorem eu {α β:Type}{f:α->Option β}:∀ {l:List α} {ys:List β},l.mapM f=some ys->ys.length=l.length/\∀ (i:Nat) x,l[i]? =some x->∃ y,ys[i]? =some y/\f x=some y
 |[],ys,h=>by simp at h;subst h;simp
 |x::xs,ys,h=>by
  rw [List.mapM_cons] at h;cases hf:f x with
  |none=>rw [hf] at h;cases h
  |some y =>
   rw [hf] at h;cases hr:xs.mapM f with
   |none=>simp [hr] at h
   |some r =>
    simp [hr] at h;subst h;obtain ⟨h1,h2⟩:=eu hr;refine ⟨by simp [h1],fun i z hz=> ?_⟩;cases i with
    |zero=>simp at hz;subst hz;exact ⟨y,rfl,hf⟩
    |succ i=>simpa using h2 i z (by simpa using hz)
theorem Kept.cells {w w' :World}(h:Kept w w'){base:Nat}{a:Addr}{n:Nat}{cs:List Value}(hc:w.cells? base a n=some cs):w'.cells? base a n=some cs:=by
 unfold World.cells? at hc ⊢;split at hc
 ·rename_i hb
  rw [if_pos hb];exact fL (fun x y _ _ hx=>h.cell hx) hc
 ·cases hc
section
variable {H:Type} {enc:TypeId×Value->H} {P:Program} {w:World} {base:Nat} {spare:Nat->Bool} {held:Bool}
theorem trod_bool {t:TypeId}{fuel:Nat}{cs:List Value}{x:DataW H×List MemPlace}(hu:P.underlying t=some .bool)(h:DataW.trod enc P w base spare held (fuel+1) t cs=some x):∃ b,cs=[.bool b]/\x=(.lit (.bool b),[]):=by
 unfold DataW.trod at h;rw [hu] at h
 match cs,h with
 |[],h=>cases h
 |[v],h=>cases v<;>first|(simp at h;exact ⟨_,rfl,h.symm⟩)|(cases h;done)
 |v::_::_,h=>cases v<;>first|(cases h;done)|(simp at h;done)|(split at h<;>cases h)
theorem trod_int {t:TypeId}{k:IntKind}{fuel:Nat}{cs:List Value}{x:DataW H×List MemPlace}(hu:P.underlying t=some (.int k))(h:DataW.trod enc P w base spare held (fuel+1) t cs=some x):∃ n,cs=[.int k n]/\(Lit.int k n).wf=true/\x=(.lit (.int k n),[]):=by
 unfold DataW.trod at h;rw [hu] at h
 match cs,h with
 |[],h=>cases h
 |[v],h =>
  cases v<;>try (cases h;done)
  rename_i k' n;simp only at h;split at h
  ·rename_i hc
   obtain ⟨rfl,hw⟩:=hc;cases h;exact ⟨n,rfl,hw,rfl⟩
  ·cases h
 |v::_::_,h=>cases v<;>first|(cases h;done)|(simp at h;done)|(split at h<;>cases h)
theorem xl {t:TypeId}{fuel:Nat}{cs:List Value}{x:DataW H×List MemPlace}(hu:P.underlying t=some .string)(h:DataW.trod enc P w base spare held (fuel+1) t cs=some x):∃ s:ByteArray,cs=[.string s]/\s.size<=maxLen/\x=(.lit (.string s.data.toList),[]):=by
 unfold DataW.trod at h;rw [hu] at h
 match cs,h with
 |[],h=>cases h
 |[v],h =>
  cases v<;>try (cases h;done)
  rename_i s;simp only at h;split at h
  ·rename_i hc
   cases h;exact ⟨s,rfl,hc,rfl⟩
  ·cases h
 |v::_::_,h=>cases v<;>first|(cases h;done)|(simp at h;done)|(split at h<;>cases h)
theorem trod_slice {t e:TypeId}{fuel:Nat}{cs:List Value}{x:DataW H×List MemPlace}(hu:P.underlying t=some (.slice e))(h:DataW.trod enc P w base spare held (fuel+1) t cs=some x) :
  (cs=[.slice none 0 0]/\x=(.nil,[]))\/∃ a len cap,cs=[.slice (some a) len cap]/\base<=a.block/\len<=cap/\cap<=maxLen /\
   (∃ elems,((List.range len).mapM fun i=>(w.cells? base (a.add (i * P.cellsOf e)) (P.cellsOf e)).bind (DataW.trod enc P w base spare held fuel e))=some elems) /\
   (spare a.block=true->∃ rest,((List.range (cap - len)).mapM fun j=>(w.cells? base (a.add ((len+j) * P.cellsOf e)) (P.cellsOf e)).bind (DataW.trod enc P w base spare held fuel e))=some rest):=by
 unfold DataW.trod at h;rw [hu] at h
 match cs,h with
 |[],h=>cases h
 |[v],h =>
  cases v<;>try (cases h;done)
  rename_i o len cap;cases o with
  |none =>
   cases len with
   |zero =>
    cases cap with
    |zero=>simp at h;exact Or.inl ⟨rfl,h.symm⟩
    |succ c=>cases h
   |succ n=>cases h
  |some a =>
   simp only at h;split at h
   ·rename_i hc
    refine Or.inr ⟨a,len,cap,rfl,hc.1,hc.2.1,hc.2.2,?_⟩;cases hm:(List.range len).mapM fun i=>(w.cells? base (a.add (i * P.cellsOf e)) (P.cellsOf e)).bind (DataW.trod enc P w base spare held fuel e) with
    |none=>rw [hm] at h;cases h
    |some elems =>
     refine ⟨⟨elems,rfl⟩,fun hs=> ?_⟩;rw [hm] at h;simp only [Option.bind_some,hs,if_true] at h;cases hr:(List.range (cap - len)).mapM fun j=>(w.cells? base (a.add ((len+j) * P.cellsOf e)) (P.cellsOf e)).bind (DataW.trod enc P w base spare held fuel e) with
     |none=>rw [hr] at h;cases h
     |some rest=>exact ⟨rest,rfl⟩
   ·cases h
 |v::_::_,h=>cases v<;>first|(cases h;done)|(simp at h;done)|(split at h<;>cases h)
theorem trod_array {t e:TypeId}{m:Nat}{fuel:Nat}{cs:List Value}{x:DataW H×List MemPlace}(hu:P.underlying t=some (.array m e))(h:DataW.trod enc P w base spare held (fuel+1) t cs=some x) :
  cs.length=P.cellsOf t/\∃ xs,((List.range m).mapM fun i=>DataW.trod enc P w base spare held fuel e ((cs.drop (i * P.cellsOf e)).take (P.cellsOf e)))=some xs/\x=(.agg (xs.map (·.1)),xs.flatMap (·.2)):=by
 unfold DataW.trod at h;rw [hu] at h;simp only at h;split at h
 ·rename_i hlen
  simp only [Option.map_eq_some_iff] at h;obtain ⟨xs,h1,h2⟩:=h;exact ⟨hlen,xs,h1,h2.symm⟩
 ·cases h
theorem trod_struct {t:TypeId}{fs:Array Field}{fuel:Nat}{cs:List Value}{x:DataW H×List MemPlace}(hu:P.underlying t=some (.struct fs))(h:DataW.trod enc P w base spare held (fuel+1) t cs=some x) :
  cs.length=P.cellsOf t/\∃ xs,(fs.toList.mapM fun f=>DataW.trod enc P w base spare held fuel f.type ((cs.drop f.offset).take (P.cellsOf f.type)))=some xs/\x=(.agg (xs.map (·.1)),xs.flatMap (·.2)):=by
 unfold DataW.trod at h;rw [hu] at h;simp only at h;split at h
 ·rename_i hl
  cases hm:fs.toList.mapM fun f=>DataW.trod enc P w base spare held fuel f.type ((cs.drop f.offset).take (P.cellsOf f.type)) with
  |none=>rw [hm] at h;cases h
  |some xs =>
   rw [hm] at h;simp at h;exact ⟨hl,xs,rfl,h.symm⟩
 ·cases h
abbrev Cells (w:World)(ds:List Data)(cs:List Value):Prop:=F1 (G0 w) I0 N0 w (ds.map .d) cs
theorem Cells.append {ds es:List Data}{cs fs:List Value}(h:Cells w ds cs)(k:Cells w es fs):Cells w (ds++es) (cs++fs):=by
 unfold Cells at *
 rw [List.map_append];exact nU h k
theorem Tm {b o:Nat}{v:Value}(h:w.cell? (ad b o)=some v):iH (G0 w) b o:=by
 have:b<w.heap.size:=by
  rcases p7 b w.heap.size with h' |h'
  ·exact h'
  ·unfold World.cell? at h
   simp [Array.getElem?_eq_none h'] at h
 simp [iH,G0,this]
theorem NA (hspare:∀ b,spare b=true):∀ (n:Nat) (t:TypeId) (l:List CT),Lay P n t l=true->∀ (fuel:Nat) (cs:List Value) (x:DataW H×List MemPlace),DataW.trod enc P w base spare held fuel t cs=some x->∃ ds,T1 l ds/\Cells w ds cs:=by
 intro n
 induction n with
 |zero=>intro t l h;simp [Lay] at h
 |succ n ih =>
  intro t l hL fuel cs x h;cases fuel with
  |zero=>simp [DataW.trod] at h
  |succ fuel =>
   unfold Lay at hL;split at hL
   ·rename_i hu
    split at hL
    ·obtain ⟨b,rfl,_⟩:=trod_bool hu h
     exact ⟨[.bool b],by simp [T1,Fits],by simp [Cells,F1,VR,DR]⟩
    ·cases hL
   ·rename_i k hu
    split at hL
    ·rename_i k'
     have:k=k' :=by simpa using hL
     subst this;obtain ⟨m,rfl,hw,_⟩:=trod_int hu h;exact ⟨[.int k m],by simp only [T1,Fits];exact ⟨_,_,rfl,⟨m,rfl,hw⟩,rfl⟩,by simp [Cells,F1,VR,DR]⟩
    ·cases hL
   ·rename_i hu
    split at hL
    ·obtain ⟨s,rfl,hs,_⟩:=xl hu h
     refine ⟨[.str s.data.toList],?_,by simp [Cells,F1,VR,DR]⟩;simp only [T1,Fits];exact ⟨_,_,rfl,⟨_,rfl,by simpa using hs⟩,rfl⟩
    ·cases hL
   ·rename_i e hu
    split at hL
    ·rename_i le
     simp only [Bool.and_eq_true,beq_iff_eq,decide_eq_true_eq] at hL;obtain ⟨⟨hLe,hce⟩,hpos⟩:=hL
     rcases trod_slice hu h with ⟨rfl,_⟩|⟨a,len,cap,rfl,hb,hlc,hcm,⟨elems,hel⟩,pM⟩
     ·refine ⟨[.slice 0 []],?_,by simp [Cells,F1,VR,DR]⟩
      simp only [T1,Fits];exact ⟨_,_,rfl,⟨[],rfl,by simp,by simp⟩,rfl⟩
     ·
      obtain ⟨VJ,kU⟩:=eu hel;have rows:∀ m,m<=len->∃ rows:List (List Data),rows.length=m/\(∀ r,r ∈ rows->T1 le r)/\(∀ (j:Nat) d,rows.flatten[j]? =some d->∃ v,w.cell? (a.add j)=some v/\DR (G0 w) w d v):=by
       intro m
       induction m with
       |zero=>intro _;exact ⟨[],rfl,by simp,by simp⟩
       |succ m ihm =>
        intro hm;obtain ⟨rows,r1,r2,r3⟩:=ihm (by omega);obtain ⟨y,_,hy⟩:=kU m m (List.getElem?_range (by omega));cases hcell:w.cells? base (a.add (m * P.cellsOf e)) (P.cellsOf e) with
        |none=>rw [hcell] at hy;cases hy
        |some Px =>
         rw [hcell] at hy;simp only [Option.bind_some] at hy;obtain ⟨ds,f1,f2⟩:=ih e le hLe fuel Px y hy;have hds:ds.length=le.length:=T1.length _ _ f1;have Xu:rows.flatten.length=m * le.length:=by
          rw [List.length_flatten];have:∀ q,q ∈ rows.map List.length->q=le.length:=by
           intro q hq;obtain ⟨r,hr,rfl⟩:=List.mem_map.1 hq;exact T1.length _ _ (r2 r hr)
          have an9:rows.map List.length=c9 m le.length:=by
           rw [List.eq_replicate_iff];exact ⟨by simp [r1],this⟩
          rw [an9];simp
         refine ⟨rows++[ds],by simp [r1],?_,?_⟩
         ·intro r hr
          rw [List.mem_append] at hr
          rcases hr with hr|hr
          ·exact r2 r hr
          ·simp at hr;subst hr;exact f1
         ·intro j d hj
          rw [List.flatten_append] at hj;simp only [List.flatten_cons,List.flatten_nil,List.append_nil] at hj
          by_cases hjl:j<rows.flatten.length
          ·rw [p4 hjl] at hj
           exact r3 j d hj
          ·rw [p9 (by omega)] at hj
           have tS:=n9 hj;unfold World.cells? at hcell;split at hcell
           ·obtain ⟨c1,c2⟩:=eu hcell
            obtain ⟨v,v1,v2⟩:=c2 (j - rows.flatten.length) (j - rows.flatten.length) (List.getElem?_range (by rw [hce,<- hds];exact tS));have al5:(a.add (m * P.cellsOf e)).add (j - rows.flatten.length)=a.add j:=by
             rw [<- LK]
             congr 1
             rw [hce,<- Xu];omega
            rw [al5] at v2;obtain ⟨v',w1,w2⟩:=F1.get _ _ f2 (j - rows.flatten.length) (.d d) (by rw [List.getElem?_map,hj];rfl);rw [v1] at w1;cases w1;exact ⟨v,v2,by simpa [VR] using w2⟩
           ·cases hcell
      obtain ⟨rows,r1,r2,r3⟩:=rows len (l5 _);refine ⟨[.slice rows.length rows.flatten],?_,?_⟩
      ·simp only [T1,Fits]
       exact ⟨_,_,rfl,⟨rows,rfl,by omega,r2⟩,rfl⟩
      ·simp only [Cells,G7,List.map_nil,F1,VR]
       refine ⟨_,_,rfl,?_,rfl⟩;simp only [DR]
       by_cases hcap:cap=0
       ·refine Or.inl ⟨Or.inr ⟨a,?_⟩,by omega,?_⟩
        ·have:len=0:=by omega
         rw [hcap,this]
        ·have:rows=[]:=List.length_eq_zero_iff.1 (by omega)
         rw [this];rfl
       ·
        have TG:∃ Px,w.cells? base (a.add 0) (P.cellsOf e)=some Px:=by
         by_cases hl0:len=0
         ·obtain ⟨rest,hr⟩:=pM (hspare _)
          obtain ⟨_,c2⟩:=eu hr;obtain ⟨y,_,hy⟩:=c2 0 0 (by rw [List.getElem?_range (by omega)]);rw [hl0] at hy;simp only [Nat.zero_add,Nat.zero_mul] at hy;cases Gl:w.cells? base (a.add 0) (P.cellsOf e) with
          |none=>rw [Gl] at hy;cases hy
          |some Px=>exact ⟨Px,rfl⟩
         ·obtain ⟨y,_,hy⟩:=kU 0 0 (by rw [List.getElem?_range (by omega)])
          simp only [Nat.zero_mul] at hy;cases Gl:w.cells? base (a.add 0) (P.cellsOf e) with
          |none=>rw [Gl] at hy;cases hy
          |some Px=>exact ⟨Px,rfl⟩
        obtain ⟨Px,Qg⟩:=TG;have hcell:∃ v,w.cell? a=some v:=by
         unfold World.cells? at Qg;split at Qg
         ·obtain ⟨_,c2⟩:=eu Qg
          obtain ⟨v,_,hv⟩:=c2 0 0 (by rw [List.getElem?_range (by omega)]);exact ⟨v,by simpa [Addr.add] using hv⟩
         ·cases Qg
        obtain ⟨v,hv⟩:=hcell;have ha:a=ad a.block a.off:=by
         obtain ⟨b,o,sp⟩:=a;cases sp with
         |none=>rfl
         |some q =>
          exfalso;unfold World.cell? at hv;simp at hv;split at hv<;>cases hv
        refine Or.inr ⟨a.block,a.off,cap,by rw [<- ha,r1],by omega,uD _ _ fun i d hi=> ?_⟩;obtain ⟨u,u1,u2⟩:=r3 i d hi;rw [ha,Y8] at u1;exact ⟨Tm u1,u,u1,u2⟩
    ·cases hL
   ·rename_i fs hu
    simp only [Bool.and_eq_true,beq_iff_eq] at hL;obtain ⟨hlen,xs,hxs,_⟩:=trod_struct hu h;have fields:∀ (fl:List Field) (o:Nat) (l:List CT) (ys:List (DataW H×List MemPlace)),FL P (Lay P n) fl o l=true->(fl.mapM fun f=>DataW.trod enc P w base spare held fuel f.type ((cs.drop f.offset).take (P.cellsOf f.type)))=some ys->(cs.drop o).length=l.length ->
      ∃ ds,T1 l ds/\Cells w ds (cs.drop o):=by
     intro fl
     induction fl with
     |nil =>
      intro o l ys hl _ hlen;have:l=[]:=by simpa [FL] using hl
      subst this;have:cs.drop o=[]:=List.length_eq_zero_iff.1 (by simpa using hlen);rw [this];exact ⟨[],by simp [T1],by simp [Cells,F1]⟩
     |cons f fl ihf =>
      intro o l ys hl hm hlen;simp only [FL,Bool.and_eq_true,beq_iff_eq,decide_eq_true_eq] at hl;obtain ⟨⟨⟨ho,hle⟩,Gp⟩,pM⟩:=hl;rw [List.mapM_cons] at hm;cases hf:DataW.trod enc P w base spare held fuel f.type ((cs.drop f.offset).take (P.cellsOf f.type)) with
      |none=>rw [hf] at hm;cases hm
      |some y =>
       rw [hf] at hm;cases hr:fl.mapM fun f=>DataW.trod enc P w base spare held fuel f.type ((cs.drop f.offset).take (P.cellsOf f.type)) with
       |none=>simp [hr] at hm
       |some r =>
        rw [ho] at hf;obtain ⟨d1,a1,a2⟩:=ih f.type _ Gp fuel _ y hf;obtain ⟨d2,b1,b2⟩:=ihf (o+P.cellsOf f.type) (l.drop (P.cellsOf f.type)) r pM hr (by simp at hlen ⊢;omega);refine ⟨d1++d2,?_,?_⟩
        ·rw [<- List.take_append_drop (P.cellsOf f.type) l]
         exact jA a1 b1
        ·have:cs.drop o=(cs.drop o).take (P.cellsOf f.type)++cs.drop (o+P.cellsOf f.type):=by
          rw [<- List.drop_drop,List.take_append_drop]
         rw [this];exact a2.append b2
    have:=fields fs.toList 0 l xs hL.2 hxs (by simp [hlen,hL.1]);simpa using this
   ·rename_i m e hu
    simp only [Bool.and_eq_true,beq_iff_eq] at hL;obtain ⟨hlen,xs,hxs,_⟩:=trod_array hu h;obtain ⟨_,hat⟩:=eu hxs;have elems:∀ (q k:Nat) (l:List CT),k+q=m->Kc (Lay P n e) (P.cellsOf e) q l=true->(cs.drop (k * P.cellsOf e)).length=l.length->∃ ds,T1 l ds/\Cells w ds (cs.drop (k * P.cellsOf e)):=by
     intro q
     induction q with
     |zero =>
      intro k l _ hl hlen;have:l=[]:=by simpa [Kc] using hl
      subst this;have:cs.drop (k * P.cellsOf e)=[]:=List.length_eq_zero_iff.1 (by simpa using hlen);rw [this];exact ⟨[],by simp [T1],by simp [Cells,F1]⟩
     |succ q ihq =>
      intro k l hkq hl hlen;simp only [Kc,Bool.and_eq_true,decide_eq_true_eq] at hl;obtain ⟨⟨hle,Gp⟩,pM⟩:=hl;obtain ⟨y,_,hy⟩:=hat k k (by rw [List.getElem?_range (by omega)]);obtain ⟨d1,a1,a2⟩:=ih e _ Gp fuel _ y hy;obtain ⟨d2,b1,b2⟩:=ihq (k+1) (l.drop (P.cellsOf e)) (by omega) pM (by rw [Nat.succ_mul];simp at hlen ⊢;omega);refine ⟨d1++d2,?_,?_⟩
      ·rw [<- List.take_append_drop (P.cellsOf e) l]
       exact jA a1 b1
      ·have:cs.drop (k * P.cellsOf e)=(cs.drop (k * P.cellsOf e)).take (P.cellsOf e)++cs.drop ((k+1) * P.cellsOf e):=by
        rw [Nat.succ_mul,<- List.drop_drop,List.take_append_drop]
       rw [this];exact a2.append b2
    have:=elems m 0 l (by omega) hL.2 (by simp [hlen,hL.1]);simpa using this
   ·cases hL
theorem Ln {w' :World}(hK:Kept w w'){sp:Nat->Bool}:∀ (n:Nat) (t:TypeId) (l:List CT),Lay P n t l=true->∀ (fuel:Nat) (cs:List Value) (x:DataW H×List MemPlace),(∀ p,p ∈ x.2->sp p.block=true) ->
  DataW.trod enc P w base (fun _=>true) held fuel t cs=some x->DataW.trod enc P w' base sp held fuel t cs=some x:=by
 intro n
 induction n with
 |zero=>intro t l h;simp [Lay] at h
 |succ n ih =>
  intro t l hL fuel cs x hsp h;cases fuel with
  |zero=>simp [DataW.trod] at h
  |succ fuel =>
   unfold Lay at hL;split at hL
   ·rename_i hu
    obtain ⟨b,rfl,rfl⟩:=trod_bool hu h;simp [DataW.trod,hu]
   ·rename_i k hu
    obtain ⟨m,rfl,hw,rfl⟩:=trod_int hu h;simp [DataW.trod,hu,hw]
   ·rename_i hu
    obtain ⟨s,rfl,hs,rfl⟩:=xl hu h;simp [DataW.trod,hu,hs]
   ·rename_i e hu
    split at hL
    ·rename_i le
     simp only [Bool.and_eq_true,beq_iff_eq,decide_eq_true_eq] at hL;obtain ⟨⟨hLe,hce⟩,hpos⟩:=hL;have hel:∀ (a:Addr) (y:DataW H×List MemPlace),(∀ p,p ∈ y.2->sp p.block=true)->(w.cells? base a (P.cellsOf e)).bind (DataW.trod enc P w base (fun _=>true) held fuel e)=some y->(w'.cells? base a (P.cellsOf e)).bind (DataW.trod enc P w' base sp held fuel e)=some y:=by
      intro a y hy1 hy;cases hc:w.cells? base a (P.cellsOf e) with
      |none=>rw [hc] at hy;cases hy
      |some Px =>
       rw [hc] at hy;rw [hK.cells hc];exact ih e le hLe fuel Px y hy1 hy
     rcases trod_slice hu h with ⟨rfl,rfl⟩|⟨a,len,cap,rfl,hb,hlc,hcm,⟨elems,TF⟩,pM⟩
     ·simp [DataW.trod,hu]
     ·obtain ⟨rest,hr⟩:=pM rfl
      have hx:x=(.slice (elems.map (·.1)) (rest.map (·.1)),MemPlace.row a ((elems.length+rest.length) * P.cellsOf e)++(elems++rest).flatMap (·.2)):=by
       unfold DataW.trod at h;rw [hu] at h;simp only at h;rw [if_pos ⟨hb,hlc,hcm⟩,TF] at h;simp only [Option.bind_some,if_true] at h;rw [hr] at h;simp only [E6,Option.some.injEq] at h;exact h.symm
      subst hx;have hin:∀ y,y ∈ elems++rest->∀ p,p ∈ y.2->sp p.block=true:=by
       intro y hy p hp;refine hsp p (List.mem_append_right _ (List.mem_flatMap.2 ⟨y,hy,hp⟩))
      have hblk:cap - len=0\/sp a.block=true:=by
       by_cases hc0:cap=0
       ·exact Or.inl (by omega)
       ·right
        have h1:=(eu TF).1;have h2:=(eu hr).1;simp only [List.length_range] at h1 h2;have:0<(elems.length+rest.length) * P.cellsOf e:=by
         rw [h1,h2,hce];exact Nat.mul_pos (by omega) hpos
        refine hsp (.cell a.block (a.off+0)) (List.mem_append_left _ ?_);unfold MemPlace.row;exact List.mem_map.2 ⟨0,List.mem_range.2 this,rfl⟩
      unfold DataW.trod;rw [hu];simp only;rw [if_pos ⟨hb,hlc,hcm⟩,fL (fun i y _ hy' hy=>hel _ y (hin y (by simp [hy'])) hy) TF];simp only [Option.bind_some];have hr' :=fL (g:=fun j=>(w'.cells? base (a.add ((len+j) * P.cellsOf e)) (P.cellsOf e)).bind (DataW.trod enc P w' base sp held fuel e)) (fun i y _ hy' hy=>hel _ y (hin y (by simp [hy'])) hy) hr
      rcases hblk with hc|hc
      ·have hrl:rest=[]:=by
        have h2:=(eu hr).1;rw [hc] at h2;exact List.length_eq_zero_iff.1 (by simpa using h2)
       subst hrl;split
       ·rw [hr'];rfl
       ·rfl
      ·rw [if_pos hc,hr']
       rfl
    ·cases hL
   ·rename_i fs hu
    simp only [Bool.and_eq_true,beq_iff_eq] at hL;obtain ⟨hlen,xs,hxs,rfl⟩:=trod_struct hu h;have fields:∀ (fl:List Field) (o:Nat) (l:List CT),FL P (Lay P n) fl o l=true->∀ f,f ∈ fl->∃ l',Lay P n f.type l' =true:=by
     intro fl
     induction fl with
     |nil=>intro o l _ f hf;cases hf
     |cons g fl ihf =>
      intro o l hl f hf;simp only [FL,Bool.and_eq_true] at hl
      rcases B8.1 hf with rfl|hf
      ·exact ⟨_,hl.1.2⟩
      ·exact ihf _ _ hl.2 f hf
    have:=fL (g:=fun f=>DataW.trod enc P w' base sp held fuel f.type ((cs.drop f.offset).take (P.cellsOf f.type))) (fun f y hf hy' hy=>by
     obtain ⟨l',hl'⟩:=fields _ _ _ hL.2 f hf;exact ih f.type l' hl' fuel _ y (fun p hp=>hsp p (List.mem_flatMap.2 ⟨y,hy',hp⟩)) hy) hxs
    unfold DataW.trod;rw [hu];simp only;rw [if_pos hlen,this];rfl
   ·rename_i m e hu
    simp only [Bool.and_eq_true,beq_iff_eq] at hL;obtain ⟨hlen,xs,hxs,rfl⟩:=trod_array hu h;have Gp:m=0\/∃ l',Lay P n e l' =true:=by
     cases m with
     |zero=>exact Or.inl rfl
     |succ m =>
      have h2:=hL.2;simp only [Kc,Bool.and_eq_true] at h2;exact Or.inr ⟨_,h2.1.2⟩
    have:=fL (g:=fun i=>DataW.trod enc P w' base sp held fuel e ((cs.drop (i * P.cellsOf e)).take (P.cellsOf e))) (fun i y hi hy' hy=>by
     rcases Gp with h0|⟨l',hl'⟩
     ·subst h0;simp at hi
     ·exact ih e l' hl' fuel _ y (fun p hp=>hsp p (List.mem_flatMap.2 ⟨y,hy',hp⟩)) hy) hxs
    unfold DataW.trod;rw [hu];simp only;rw [if_pos hlen,this];rfl
   ·cases hL
end
def isStr (P:Program)(t:TypeId):Bool:=match P.underlying t with
 |some (.struct _)=>true
 |_=>false
def asArg (agg:Bool)(ds:List Data):b6:=if agg then .agg (ds.map .d) else .d (ds.headD .bN)
def fq (P:Program):List TypeId->List (List CT)->List b6->Prop
 |[],_,as=>as=[]
 |t::ts,ls,as=>∃ ds r,as=asArg (isStr P t) ds::r/\T1 (ls.headD []) ds/\fq P ts ls.tail r
def MB (P:Program)(t:TypeId):Bool:=match P.underlying t with
 |some (.array _ _)=>true
 |_=>false
def Az (P:Program):List TypeId->List (List CT)->Bool
 |[],_=>true
 |t::ts,ls=>(Lay P 20 t (ls.headD [])&& !MB P t)&&Az P ts ls.tail
section
variable {H:Type} {enc:TypeId×Value->H} {P:Program} {w:World} {held:Bool}
theorem pZ {t:TypeId}{r:Reach}{b0:Nat}{v:Value}(hval:Value.okWide P w r b0 t v){td:TypeDesc}(hu:P.underlying t=some td)(htd:td= .bool\/(∃ k,td= .int k)\/td= .string\/∃ e,td= .slice e):∀ cs,v≠ .agg cs:=by
 rintro cs rfl
 rcases htd with rfl|⟨k,rfl⟩|rfl|⟨e,rfl⟩<;>simp [Value.okWide,hu,Cell.okWide,Cell.ok] at hval
theorem iS {v u:Value}(hv:∀ cs,v≠ .agg cs)(h:v.cells.toList=[u]):u=v:=by
 cases v<;>simp only [Value.cells] at h<;>first|(simp at h;exact h.symm)|exact absurd rfl (hv _)
theorem Tq {t:TypeId}{l:List CT}(hL:Lay P 20 t l=true)(hna:MB P t=false){r:Reach}{b0:Nat}{v:Value}(hval:Value.okWide P w r b0 t v){d:DataW H}{ps:List MemPlace}(h:DataW.Trod enc P w 0 (fun _=>true) held t v d ps) :
  ∃ ds,T1 l ds/\VR (G0 w) I0 N0 w .none (asArg (isStr P t) ds) v:=by
 obtain ⟨fuel,h⟩:=h;obtain ⟨ds,h1,h2⟩:=NA (fun _=>rfl) 20 t l hL fuel _ _ h;refine ⟨ds,h1,?_⟩;unfold isStr asArg;split
 ·rename_i fs hu
  unfold Value.okWide at hval;rw [hu] at hval;obtain ⟨cs,rfl,_,_⟩:=hval;simp only [if_true,VR];exact ⟨cs,rfl,by simpa [Value.cells] using h2⟩
 ·rename_i aN
  simp only [b7,if_false];cases fuel with
  |zero=>simp [DataW.trod] at h
  |succ fuel =>
   have one:∀ u,v.cells.toList=[u]->u=v->VR (G0 w) I0 N0 w .none (.d (ds.headD .bN)) v:=by
    rintro u hu rfl;rw [hu] at h2;cases ds with
    |nil=>simp [Cells,F1] at h2
    |cons d0 r =>
     simp only [Cells,G7,F1] at h2;obtain ⟨x,xs,e1,e2,_⟩:=h2;cases e1;exact e2
   unfold Lay at hL;split at hL
   ·rename_i hu
    obtain ⟨b,hb,_⟩:=trod_bool hu h;exact one _ hb (iS (pZ hval hu (Or.inl rfl)) hb)
   ·rename_i k hu
    obtain ⟨m,hb,_⟩:=trod_int hu h;exact one _ hb (iS (pZ hval hu (Or.inr (Or.inl ⟨k,rfl⟩))) hb)
   ·rename_i hu
    obtain ⟨s,hb,_⟩:=xl hu h;exact one _ hb (iS (pZ hval hu (Or.inr (Or.inr (Or.inl rfl)))) hb)
   ·rename_i e hu
    rcases trod_slice hu h with ⟨hb,_⟩|⟨a,len,cap,hb,_⟩
    ·exact one _ hb (iS (pZ hval hu (Or.inr (Or.inr (Or.inr ⟨e,rfl⟩)))) hb)
    ·exact one _ hb (iS (pZ hval hu (Or.inr (Or.inr (Or.inr ⟨e,rfl⟩)))) hb)
   ·rename_i fs hu
    exact absurd hu (aN fs)
   ·rename_i m e hu
    simp [MB,hu] at hna
   ·cases hL
theorem HA {r:Reach}{b0:Nat}:∀ (ts:List TypeId) (ls:List (List CT)) (vs:List Value) (ds:List (DataW H)) (ps:List MemPlace),Az P ts ls=true->(∀ (j:Nat) t v,ts[j]? =some t->vs[j]? =some v->Value.okWide P w r b0 t v) ->
  DataW.TrodAll enc P w 0 (fun _=>true) held ts vs ds ps ->
  (∃ as,fq P ts ls as/\F1 (G0 w) I0 N0 w as vs)/\∀ w',Kept w w' ->∀ sp:Nat->Bool,(∀ p,p ∈ ps->sp p.block=true)->DataW.TrodAll enc P w' 0 sp held ts vs ds ps
 |[],ls,vs,ds,ps,_,_,h=>by
  obtain ⟨rfl,rfl,rfl⟩:=Go.ChangeShapes.trodAll_nil h;exact ⟨⟨[],by simp [fq],by simp [F1]⟩,fun _ _ _ _=>rfl⟩
 |t::ts,ls,vs,ds,ps,hL,hval,h=>by
  simp only [Az,Bool.and_eq_true,Bool.not_eq_true'] at hL;obtain ⟨v,vs1,d,ds1,a,b,rfl,rfl,rfl,h1,h2⟩:=Go.ChangeShapes.trodAll_cons h;obtain ⟨⟨as,g1,g2⟩,g3⟩:=HA ts ls.tail vs1 ds1 b hL.2 (fun j t' v' ht hv=>hval (j+1) t' v' (by simpa using ht) (by simpa using hv)) h2;obtain ⟨dd,e1,e2⟩:=Tq hL.1.1 hL.1.2 (hval 0 t v rfl rfl) h1;refine ⟨⟨asArg (isStr P t) dd::as,?_,?_⟩,fun w' hK sp hsp=> ?_⟩
  ·simp only [fq]
   exact ⟨dd,as,rfl,e1,g1⟩
  ·simp only [F1]
   exact ⟨v,vs1,rfl,e2,g2⟩
  ·obtain ⟨fuel,hf⟩:=h1
   exact ⟨a,b,⟨fuel,Ln hK 20 t _ hL.1.1 fuel _ _ (fun p hp=>hsp p (by simp at hp;simp [hp])) hf⟩,g3 w' hK sp (fun p hp=>hsp p (by simp [hp])),rfl⟩
end
open Go.ChangeShapes Go.WideShapes Go.ChangeAt Go.RowKit
end Go.u7
namespace Go.u7
def J4 (A:Prog)(n:Nat)(l:F9)(b:Nat):Env:=⟨call A n,A.prom,A.mode,A.idle,l,b⟩
def Ex (A:Prog)(l:F9)(b:Nat)(c:p5)(st:St)(Q:D2->St->Prop):Prop :=
 ∃ x s N,Q x s/\∀ n,N<=n->exec (J4 A n l b) n c st=some (x,s)
def Rn (A:Prog)(l:F9)(b:Nat)(ops:List n8)(draw:Bool)(T:List b6)(H:o6)(Q:List b6->o6->List b6->Prop):Prop :=
 ∃ r N,Q r.T r.H r.L/\∀ n,N<=n->O0 (J4 A n l b) ops draw T H=some r
section
variable {A:Prog} {l:F9} {b:Nat}
theorem Ex.mono {c:p5}{st:St}{Q R:D2->St->Prop}(h:Ex A l b c st Q)(k:∀ x s,Q x s->R x s):Ex A l b c st R:=by
 obtain ⟨x,s,N,hq,h⟩:=h;exact ⟨x,s,N,k x s hq,h⟩
theorem Ex.skip {st:St}{Q:D2->St->Prop}(h:Q .normal st):Ex A l b .skip st Q:=⟨_,_,0,h,fun _ _=>rfl⟩
theorem Ex.exit {id:Nat}{st:St}{Q:D2->St->Prop}(h:Q (.exit id) st):Ex A l b (.exit id) st Q:=⟨_,_,0,h,fun _ _=>rfl⟩
theorem Ex.ret {st:St}{Q:D2->St->Prop}(h:Q .ret st):Ex A l b .ret st Q:=⟨_,_,0,h,fun _ _=>rfl⟩
theorem Ex.region {ops:List n8}{draw:Bool}{T:List b6}{H:o6}{Q:D2->St->Prop}(h:Rn A l b ops draw T H fun T' H' _=>Q .normal ⟨T',H'⟩):Ex A l b (.region ops draw) ⟨T,H⟩ Q:=by
 obtain ⟨r,N,hq,h⟩:=h;refine ⟨_,_,N,hq,fun n hn=> ?_⟩;simp only [exec,h n hn]
def rJ (Q:D2->St->Prop)(go:St->Prop):D2->St->Prop
 | .normal,s=>go s
 | .exit i,s=>Q (.exit i) s
 | .ret,s=>Q .ret s
theorem Ex.seq {c d:p5}{st:St}{Q:D2->St->Prop}(h:Ex A l b c st (rJ Q fun s=>Ex A l b d s Q)):Ex A l b (.seq c d) st Q:=by
 obtain ⟨x,s,N,hq,h⟩:=h;cases x with
 |normal =>
  obtain ⟨x2,s2,N2,Se,h2⟩:=hq;refine ⟨x2,s2,max N N2,Se,fun n hn=> ?_⟩;simp only [exec,h n (by omega)];exact h2 n (by omega)
 |exit i=>exact ⟨_,_,N,hq,fun n hn=>by simp only [exec,h n hn]⟩
 |ret=>exact ⟨_,_,N,hq,fun n hn=>by simp only [exec,h n hn]⟩
def BZ (id:Nat)(Q:D2->St->Prop):D2->St->Prop
 | .exit i,s=>if i=id then Q .normal s else Q (.exit i) s
 | .normal,s=>Q .normal s
 | .ret,s=>Q .ret s
theorem Ex.block {id:Nat}{c:p5}{st:St}{Q:D2->St->Prop}(h:Ex A l b c st (BZ id Q)):Ex A l b (.block id c) st Q:=by
 obtain ⟨x,s,N,hq,h⟩:=h;cases x with
 |normal=>exact ⟨_,_,N,hq,fun n hn=>by simp only [exec,h n hn]⟩
 |ret=>exact ⟨_,_,N,hq,fun n hn=>by simp only [exec,h n hn]⟩
 |exit i =>
  simp only [BZ] at hq;split at hq
  ·rename_i hi
   exact ⟨_,_,N,hq,fun n hn=>by simp only [exec,h n hn];rw [if_pos hi]⟩
  ·rename_i hi
   exact ⟨_,_,N,hq,fun n hn=>by simp only [exec,h n hn];rw [if_neg hi]⟩
theorem Ex.test {ops:List n8}{draw:Bool}{c:r8}{d e:p5}{T:List b6}{H:o6}{Q:D2->St->Prop}
  (h:Rn A l b ops draw T H fun T' H' L=>∃ t,F0 T' L c= .d (.bool t)/\(t=true->Ex A l b d ⟨T',H'⟩ Q)/\(t=false->Ex A l b e ⟨T',H'⟩ Q)):Ex A l b (.test ops draw c d e) ⟨T,H⟩ Q:=by
 obtain ⟨r,N,⟨t,h1,h2,h3⟩,h⟩:=h;cases t with
 |true =>
  obtain ⟨x,s,N2,hq,k⟩:=h2 rfl;exact ⟨x,s,max N N2,hq,fun n hn=>by simp only [exec,h n (by omega),h1];exact k n (by omega)⟩
 |false =>
  obtain ⟨x,s,N2,hq,k⟩:=h3 rfl;exact ⟨x,s,max N N2,hq,fun n hn=>by simp only [exec,h n (by omega),h1];exact k n (by omega)⟩
theorem Ex.cond {c:r8}{d e:p5}{st:St}{t:Bool}{Q:D2->St->Prop}(h1:F0 st.T [] c= .d (.bool t))
  (h2:t=true->Ex A l b d st Q) (h3:t=false->Ex A l b e st Q):Ex A l b (.cond c d e) st Q:=by
 cases t with
 |true =>
  obtain ⟨x,s,N2,hq,k⟩:=h2 rfl;exact ⟨x,s,N2,hq,fun n hn=>by simp only [exec,h1];exact k n hn⟩
 |false =>
  obtain ⟨x,s,N2,hq,k⟩:=h3 rfl;exact ⟨x,s,N2,hq,fun n hn=>by simp only [exec,h1];exact k n hn⟩
theorem Ex.loop {mask:List Bool}{body:p5}{st:St}{Q:D2->St->Prop}(Inv:Nat->St->Prop)
  (hb:∀ k s,Inv k s->Ex A l b body (clean mask l.strict st.H.length s) (rJ Q fun s' =>∃ k',k' <k/\Inv k' s')) {k:Nat} (h:Inv k st):Ex A l b (.loop mask body) st Q:=by
 have main:∀ k s,Inv k s->∃ x s2 N,Q x s2/\∀ n,N<=n->∀ j,N<=j->eE (exec (J4 A n l b) n body) mask l.strict st.H.length j s=some (x,s2):=by
  intro k
  induction k using Nat.strongRecOn with
  |_ k ih =>
   intro s hs;obtain ⟨x,s1,N,hq,h1⟩:=hb k s hs;cases x with
   |normal =>
    obtain ⟨k',hk,hi⟩:=hq;obtain ⟨x,s2,N2,Se,h2⟩:=ih k' hk s1 hi;refine ⟨x,s2,max N N2+1,Se,fun n hn j hj=> ?_⟩;obtain ⟨j,rfl⟩:∃ j',j=j' +1:=⟨j - 1,by omega⟩;simp only [eE,h1 n (by omega)];exact h2 n (by omega) j (by omega)
   |exit i =>
    refine ⟨_,_,N+1,hq,fun n hn j hj=> ?_⟩;obtain ⟨j,rfl⟩:∃ j',j=j' +1:=⟨j - 1,by omega⟩;simp only [eE,h1 n (by omega)]
   |ret =>
    refine ⟨_,_,N+1,hq,fun n hn j hj=> ?_⟩;obtain ⟨j,rfl⟩:∃ j',j=j' +1:=⟨j - 1,by omega⟩;simp only [eE,h1 n (by omega)]
 obtain ⟨x,s2,N,hq,h⟩:=main k st h;exact ⟨x,s2,N,hq,fun n hn=>by simp only [exec];exact h n hn n hn⟩
def Pf (A:Prog)(f:FuncId)(args:List b6)(v:b6):Prop :=
 ∃ N,∀ n,N<=n->call A n f args [] bK=some (v,[])
theorem Pf.Yh {f:FuncId}{af:q5}{args:List b6}{v:b6}(T:List b6)(hp:A.ga f=none)(hf:A.fn f=some af)(hn:args.length=af.nparams)
  (hT:args++c9 (af.names.length - args.length) .any=T) (h:Ex A bK 0 af.body ⟨T,[]⟩ fun x s=>jI af 0 (some (x,s))=some (v,[])):Pf A f args v:=by
 subst hT;obtain ⟨x,s,N,hq,h⟩:=h;refine ⟨N+1,fun n hn' => ?_⟩;obtain ⟨n,rfl⟩:∃ j,n=j+1:=⟨n - 1,by omega⟩;rw [HG hp hf,oS hn];have:=h n (by omega);simp only [J4] at this;simp only [List.length_nil];rw [this,hq]
theorem CA (H:o6)(strict k:Nat):G5 H strict k 0=0:=by
 cases k<;>simp [G5]
theorem ij {E:Env}{k:Nat}{f:FuncId}{args:List b6}{st:E1}{v:b6}(dc:E.prom f=false)(hm:E.mode f=1)(hb:y9 args=0)
  (hc:E.cf f args [] bK=some (v,[])):A6 E k f args st=some (put st k v):=by
 simp only [A6,dc,hm,hb,CA];have h0:B5 st.H E.lim.strict 0=0:=by simp [B5]
 have h1:E.cf f args [] ⟨0,0,0,0⟩=some (v,[]):=hc;simp [h0,h1,W8]
def nZ (ops:List n8):Bool:=ops.all fun i=> !i.op.y3&&i.cz.all fun e=>decide (e<ops.length)
end
theorem wrap_small {n:Int}(h: -9223372036854775808<=n)(h2:n<9223372036854775808):IntKind.wrap .i64 n=n:=by
 simp only [IntKind.wrap,IntKind.signed,IntKind.bits];simp;split<;>omega
section
variable {A:Prog} {l:F9} {b:Nat}
def s9.QN:s9->Bool
 | .load _ _=>true
 | .lookup .. =>true
 | .Bh _=>true
 |_=>false
def rj:List n8->Nat
 |[]=>0
 |i::is=>max (if i.op.QN then (i.cz.map (·+1)).foldl max 0 else 0) (rj is)
theorem GN {ρ:r8->b6}{H:o6}{op:s9}{v:b6}{rs:List Nat}(h:k9 ρ H op=some (v,rs))(hr:op.QN=false):rs=[]:=by
 cases op<;>simp only [s9.QN,Bool.true_eq_false] at hr<;>simp only [k9] at h<;>repeat' split at h
 all_goals first
  |(cases h;done)
  |(simp only [Option.some.injEq,Prod.mk.injEq] at h;exact h.2.symm)
  |contradiction
theorem wU {E:Env}{j4:List n8}{s5:Option Nat}{k:Nat}{i:n8}{st st' :E1}{rs:List Nat}(h:x9 E j4 s5 k i st=some (st',rs))(hr:i.op.QN=false):rs=[]:=by
 simp only [x9] at h;split at h
 ·split at h
  ·rename_i P3 Zc h1
   split at h
   ·simp only [Option.some.injEq,Prod.mk.injEq] at h
    obtain ⟨_,rfl⟩:=h;simp only [C5] at h1;split at h1
    ·split at h1
     ·simp only [Option.some.injEq,Prod.mk.injEq] at h1
      exact h1.2.symm
     ·cases h1
    ·split at h1
     ·simp only [Option.some.injEq,Prod.mk.injEq] at h1
      exact h1.2.symm
     ·split at h1
      ·rename_i h2
       simp only [Option.some.injEq,Prod.mk.injEq] at h1;obtain ⟨_,rfl⟩:=h1;exact GN h2 hr
      ·cases h1
   ·cases h
  ·cases h
 ·split at h
  ·simp only [Option.some.injEq,Prod.mk.injEq] at h
   exact h.2.symm
  ·cases h
 ·cases h
theorem pG:∀ (l:List Nat) (a:Nat),a<=l.foldl max a
 |[],_=>l5 _
 |x::l,a=>Nat.le_trans (Nat.le_max_left a x) (pG l (max a x))
theorem nG:∀ (l:List Nat) (a x:Nat),x ∈ l->x<=l.foldl max a
 |y::l,a,x,h=>by
  rcases B8.1 h with rfl|h
  ·exact Nat.le_trans (Nat.le_max_right a x) (pG l _)
  ·exact nG l _ x h
theorem uL:∀ {j4:List n8} {i:n8} {e:Nat},i ∈ j4->i.op.QN=true->e ∈ i.cz->e<rj j4
 |j::j4,i,e,h,hr,he=>by
  simp only [rj]
  rcases B8.1 h with rfl|h
  ·have:=nG (i.cz.map (·+1)) 0 (e+1) (List.mem_map.2 ⟨e,he,rfl⟩)
   rw [hr,if_pos rfl];omega
  ·have:=uL h hr he
   omega
def Rx (A:Prog)(l:F9)(b:Nat)(dr:Bool)(j4 ops:List n8)(T:List b6)(H:o6)(pre:List b6)(n5:List Touch)(Q:List b6->o6->List b6->Prop):Prop :=
 ∃ r N,Q r.T r.H r.L/\∀ n,N<=n->if dr=true then ∀ na,∃ lg:List iL,O3 (J4 A n l b) j4 ops pre.length na ⟨T,H,pre++c9 ops.length .any,n5⟩=some (r,lg)/\lg.length=ops.length/\∀ k e,lg[k]? =some e->(pre.length+k<rj j4->∀ rs,J9 e.CV rs=false)/\∀ i,ops[k]? =some i->i.op.QN=false->e.reads=[]
  else bQ (J4 A n l b) j4 ops pre.length ⟨T,H,pre++c9 ops.length .any,n5⟩=some r
variable {dr:Bool} {j4 ops:List n8} {T:List b6} {H:o6} {pre:List b6} {n5:List Touch} {Q:List b6->o6->List b6->Prop}
theorem Rx.nil (h:Q T H pre):Rx A l b dr j4 [] T H pre n5 Q:=by
 refine ⟨⟨T,H,pre,n5⟩,0,h,fun n _=> ?_⟩;cases dr<;>simp [bQ,O3]
theorem Rx.Ed {i:n8}{T' pre' :List b6}{H' :o6}{v:b6}{cV :List Touch}{rs:List Nat}{N1:Nat}(hl:pre'.length=pre.length)
  (hk:D8 ⟨T,H,pre++ .any::c9 ops.length .any,n5⟩ i.op=false) (ha:i.op.y3=false)
  (h:∀ n,N1<=n->x9 (J4 A n l b) j4 none pre.length i ⟨T,H,pre++ .any::c9 ops.length .any,n5⟩=some (⟨T',H',pre' ++v::c9 ops.length .any,cV⟩,rs))
  (ht:pre.length<rj j4->∀ rs,J9 (cV.take (cV.length - n5.length)) rs=false) (h2:Rx A l b dr j4 ops T' H' (pre' ++[v]) cV Q):Rx A l b dr j4 (i::ops) T H pre n5 Q:=by
 obtain ⟨r,N,hq,h2⟩:=h2;refine ⟨r,max N N1,hq,fun n hn=> ?_⟩;have h3:=h2 n (by omega);have h4:=h n (by omega);simp only [List.append_assoc,List.cons_append,List.nil_append,List.length_append,List.length_cons,List.length_nil,hl] at h3;cases dr with
 |false =>
  simp only [b7,if_false,List.length_cons,List.replicate_succ] at h3 ⊢;simp only [bQ,h4];exact h3
 |true =>
  simp only [if_true,List.length_cons,List.replicate_succ] at h3 ⊢;intro na;obtain ⟨lg,e1,e2,e3⟩:=h3 na;refine ⟨cr (J4 A n l b) i none ⟨T,H,pre++ .any::c9 ops.length .any,n5⟩ ⟨T',H',pre' ++v::c9 ops.length .any,cV⟩ rs::lg,?_,by simp [e2],?_⟩
  ·simp only [O3,gS,hk,ha,Bool.false_and,b7,if_false,h4,e1]
  ·intro k e he
   cases k with
   |zero =>
    simp only [List.getElem?_cons_zero,Option.some.injEq] at he;subst he;refine ⟨fun hb=>by simpa [cr,jS] using ht (by omega),fun i' hi' hr=> ?_⟩;simp only [List.getElem?_cons_zero,Option.some.injEq] at hi';subst hi';exact wU h4 hr
   |succ k =>
    simp only [List.getElem?_cons_succ] at he;refine ⟨fun hb=>(e3 k e he).1 (by omega),fun i' hi' hr=> ?_⟩;simp only [List.getElem?_cons_succ] at hi';exact (e3 k e he).2 i' hi' hr
theorem Rx.stepG {i:n8}{T' pre' :List b6}{H' :o6}{v:b6}{cV :List Touch}{rs:List Nat}{N1:Nat}(hl:pre'.length=pre.length)
  (hk:D8 ⟨T,H,pre++ .any::c9 ops.length .any,n5⟩ i.op=false) (ha:i.op.y3=false)
  (h:∀ n,N1<=n->x9 (J4 A n l b) j4 none pre.length i ⟨T,H,pre++ .any::c9 ops.length .any,n5⟩=some (⟨T',H',pre' ++v::c9 ops.length .any,cV⟩,rs))
  (ht:∀ rs,J9 (cV.take (cV.length - n5.length)) rs=false) (h2:Rx A l b dr j4 ops T' H' (pre' ++[v]) cV Q):Rx A l b dr j4 (i::ops) T H pre n5 Q :=
 Rx.Ed hl hk ha h (fun _=>ht) h2
theorem Rx.step {i:n8}{T' :List b6}{H' :o6}{v:b6}{cV :List Touch}{rs:List Nat}{N1:Nat}(hk:D8 ⟨T,H,pre++ .any::c9 ops.length .any,n5⟩ i.op=false)(ha:i.op.y3=false)
  (h:∀ n,N1<=n->x9 (J4 A n l b) j4 none pre.length i ⟨T,H,pre++ .any::c9 ops.length .any,n5⟩=some (⟨T',H',pre++v::c9 ops.length .any,cV⟩,rs))
  (ht:∀ rs,J9 (cV.take (cV.length - n5.length)) rs=false) (h2:Rx A l b dr j4 ops T' H' (pre++[v]) cV Q):Rx A l b dr j4 (i::ops) T H pre n5 Q :=
 Rx.stepG rfl hk ha h ht h2
def Ui (T pre:List b6):r8->Option b6
 | .slot s=>T[s]?
 | .loc j=>pre[j]?
 | .const v=>some v
def Op (T pre:List b6)(x:r8)(v:b6):Prop:=Ui T pre x=some v/\v.F2=v
theorem Op.F0 {x:r8}{v:b6}(h:Op T pre x v)(m:Nat):F0 T (pre++ .any::c9 m .any) x=v:=by
 obtain ⟨h1,h2⟩:=h;cases x with
 |slot s=>simp only [Ui] at h1;simp [u7.F0,h1,h2]
 |loc j =>
  simp only [Ui] at h1;have:j<pre.length:=by
   rcases p7 j pre.length with hj|hj
   ·exact hj
   ·rw [q6 hj] at h1;cases h1
  simp [u7.F0,p4 this,h1,h2]
 |const u=>simp only [Ui,Option.some.injEq] at h1;subst h1;simp [u7.F0,LX h2]
theorem F7 (pre:List b6)(a v:b6)(r:List b6):(pre++a::r).set pre.length v=pre++v::r:=by
 simp
theorem Rx.pure {op:s9}{u:List Nat}{v:b6}{rs:List Nat}(hE:op.D5=false)(hp:∀ m,k9 (u7.F0 T (pre++ .any::c9 m .any)) H op=some (v,rs))
  (h2:Rx A l b dr j4 ops T H (pre++[v]) n5 Q):Rx A l b dr j4 (⟨op,none,none,u⟩::ops) T H pre n5 Q:=by
 have hm:∀ x,op≠ .M9 x:=by
  rintro x rfl;have:=hp 0;simp [k9] at this
 refine Rx.step (N1:=0) (rs:=rs) ?_ ?_ ?_ ?_ h2
 ·cases op<;>first|rfl|(simp [s9.D5] at hE)
 ·cases op<;>first|rfl|(simp [s9.D5] at hE)|skip
  have:=hp 0;rename_i ob;cases ob
  ·rfl
  ·simp [k9] at this
 ·intro n _
  have h3:C5 (J4 A n l b) j4 none pre.length op ⟨T,H,pre++ .any::c9 ops.length .any,n5⟩=some (⟨T,H,pre++v::c9 ops.length .any,n5⟩,rs):=by
   have h4:=hp ops.length;cases op<;>first
    |exact absurd rfl (hm _)
    |(simp only [C5,hE,b7,if_false,h4,put,F7];done)
    |(simp [s9.D5] at hE;done)
  simp only [x9,u0,h3,s4,F8]
 ·intro rs;simp [J9]
theorem Op.C6 {x:r8}{v:b6}(h:Op T pre x v)(m:Nat):u7.C6 ⟨T,H,pre++ .any::c9 m .any,n5⟩ x=(v,⟨T,H,pre++ .any::c9 m .any,n5⟩):=by
 have hr:=h.F0 m;cases x with
 |slot s=>simp only [u7.C6,hr]
 |loc j =>
  obtain ⟨h1,h2⟩:=h;simp only [Ui] at h1;have hj:j<pre.length:=by
   rcases p7 j pre.length with hj|hj
   ·exact hj
   ·rw [q6 hj] at h1;cases h1
  simp only [u7.C6,p4 hj,h1];split
  ·rename_i heq
   cases heq;simp [b6.F2] at h2
  ·rw [hr]
 |const u =>
  obtain ⟨h1,h2⟩:=h;simp only [Ui,Option.some.injEq] at h1;subst h1;rfl
theorem Rx.M9 {x:r8}{u:List Nat}{v:b6}(hx:Op T pre x v)(h2:Rx A l b dr j4 ops T H (pre++[v]) n5 Q):Rx A l b dr j4 (⟨.M9 x,none,none,u⟩::ops) T H pre n5 Q:=by
 refine Rx.step (N1:=0) (rs:=[]) rfl rfl (fun n _=> ?_) (fun rs=>by simp [J9]) h2;simp only [x9,u0,C5,s9.D5,b7,if_false,hx.C6,put,F7,s4,F8]
theorem Rx.Ya {x:r8}{u:List Nat}{v:b6}{s:Nat}(hx:Op T pre x v)(hs:T[s]?.isSome=true)(h2:Rx A l b dr j4 ops (T.set s v) H (pre++[v]) (.slot s::n5) Q) :
  Rx A l b dr j4 (⟨.M9 x,some s,none,u⟩::ops) T H pre n5 Q:=by
 refine Rx.step (N1:=0) (rs:=[]) rfl rfl (fun n _=> ?_) (fun rs=> ?_) h2
 ·have hv:=hx.2
  have hs:s<T.length:=by
   rcases p7 s T.length with h|h
   ·exact h
   ·rw [q6 h] at hs;cases hs
  simp only [x9,u0,C5,s9.D5,b7,if_false,hx.C6,put,F7,s4,F8,hs,if_true];have h3:u7.C6 ⟨T,H,pre++v::c9 ops.length .any,n5⟩ (.loc pre.length)=(v,⟨T,H,pre++v::c9 ops.length .any,n5⟩):=by
   simp only [u7.C6,p9 (l5 _),Nat.sub_self,List.getElem?_cons_zero];split
   ·rename_i heq
    cases heq;simp [b6.F2] at hv
   ·simp [u7.F0,hv]
  rw [h3]
 ·have:(n5.length+1) - n5.length=1:=by omega
  simp [J9,this,Touch.J1]
theorem Rx.Ub {s:Nat}{u:List Nat}{z n:Nat}{cs:List Data}(hx:T[s]? =some (.own z n cs))(h2:Rx A l b dr j4 ops T H (pre++[.d (.slice n cs)]) n5 Q):Rx A l b dr j4 (⟨.M9 (.slot s),none,none,u⟩::ops) T H pre n5 Q:=by
 refine Rx.step (N1:=0) (rs:=[]) rfl rfl (fun n _=> ?_) (fun rs=>by simp [J9]) h2;simp only [x9,u0,C5,s9.D5,b7,if_false,u7.C6,put,F7,s4,F8];simp [u7.F0,hx,b6.F2]
theorem fM (s:Nat)(n5:List Touch)(rs:List Nat):J9 ((Touch.slot s::n5).take ((Touch.slot s::n5).length - n5.length)) rs=false:=by
 have:(n5.length+1) - n5.length=1:=by omega
 simp [J9,this,Touch.J1]
theorem Rx.append {j s sz bytes:Nat}{y:r8}{u u' :List Nat}{d' :Option Nat}{g' :Option (Nat×Bool)}{n' len m:Nat}{cs' cells new:List Data}{vy:b6}{cs:List b6}
  (hj:pre[j]? =some (.d (.slice n' cs'))) (ha:j4[j]? =some ⟨.M9 (.slot s),d',g',u'⟩) (ht:n5.any (Touch.Q1 s)=false) (hT:T[s]? =some (.own sz len cells))
  (hy:∀ m,u7.F0 T (pre++ .any::c9 m .any) y=vy) (hc:I8 H sz vy=some (m,cs)) (hd:L7 cs=some new) (hr:roomFor (len+m) bytes=true) (h0:0<sz)
  (h2:Rx A l b dr j4 ops (T.set s (.d (.slice len cells))) H (pre++[.own sz (len+m) (cells++new)]) (.slot s::n5) Q):Rx A l b dr j4 (⟨.append sz bytes false (.loc j) y,none,none,u⟩::ops) T H pre n5 Q:=by
 have hjl:j<pre.length:=by
  rcases p7 j pre.length with hj' |hj'
  ·exact hj'
  ·rw [q6 hj'] at hj;cases hj
 have hL:∀ r:List b6,(pre++ .any::r)[j]? =some (.d (.slice n' cs')):=fun r=>by rw [p4 hjl,hj]
 have vz:u7.F0 T (pre++ .any::c9 ops.length .any) (.loc j)= .d (.slice n' cs'):=by simp [u7.F0,hL,b6.F2]
 refine Rx.step (N1:=0) (rs:=[]) (by simp only [D8,vz]) rfl (fun n _=> ?_) (fM s n5) h2;simp only [x9,u0,C5,s9.D5,if_true,E2,vz,J5,hy,hc,hd,b7,if_false,O4,hL,ha,U2,ht,hT,hr,h0,and_self,put,F7,s4,F8]
theorem Rx.ML {j s:Nat}{u:List Nat}{z n0:Nat}{cs:List Data}(hj:pre[j]? =some (.own z n0 cs))(hs:T[s]?.isSome=true)
  (h2:Rx A l b dr j4 ops (T.set s (.own z n0 cs)) H (pre.set j (.d (.slice n0 cs))++[.d (.slice n0 cs)]) (.slot s::n5) Q):Rx A l b dr j4 (⟨.M9 (.loc j),some s,none,u⟩::ops) T H pre n5 Q:=by
 have hjl:j<pre.length:=by
  rcases p7 j pre.length with hj' |hj'
  ·exact hj'
  ·rw [q6 hj'] at hj;cases hj
 have hs:s<T.length:=by
  rcases p7 s T.length with h|h
  ·exact h
  ·rw [q6 h] at hs;cases hs
 refine Rx.stepG (N1:=0) (rs:=[]) (by simp) rfl rfl (fun n _=> ?_) (fM s n5) h2;have hL:∀ r:List b6,(pre++ .any::r)[j]? =some (.own z n0 cs):=fun r=>by rw [p4 hjl,hj]
 have h3:∀ (a:b6) (r:List b6),(pre++a::r).set j (.d (.slice n0 cs))=pre.set j (.d (.slice n0 cs))++a::r:=fun a r=>List.set_append_left _ _ hjl
 have hl:(pre.set j (.d (.slice n0 cs))).length=pre.length:=by simp
 have h4:∀ (a v:b6) (r:List b6),(pre.set j (.d (.slice n0 cs))++a::r).set pre.length v=pre.set j (.d (.slice n0 cs))++v::r:=fun a v r=>by rw [<- hl];exact F7 _ _ _ _
 have h5:∀ (v:b6) (r:List b6),(pre.set j (.d (.slice n0 cs))++v::r)[pre.length]? =some v:=fun v r=>by rw [<- hl];simp
 simp only [x9,u0,C5,s9.D5,b7,if_false,u7.C6,hL,h3,put,h4,s4,F8,hs,if_true,h5]
theorem Rn.QE {T:List b6}{H:o6}(h:Rx A l b false ops ops T H [] [] Q):Rn A l b ops false T H Q:=by
 obtain ⟨r,N,hq,h⟩:=h;exact ⟨r,N,hq,fun n hn=>by simp only [O0];simpa using h n hn⟩
theorem Rn.QD {T:List b6}{H:o6}(hp:nZ ops=true)(h:Rx A l b true ops ops T H [] [] Q):Rn A l b ops true T H Q:=by
 obtain ⟨r,N,hq,h⟩:=h;refine ⟨r,N,hq,fun n hn=> ?_⟩;have h1:=h n hn;simp only [if_true] at h1;obtain ⟨lg,e1,e2,e3⟩:=h1 H.length;simp only [nZ,List.all_eq_true,Bool.and_eq_true,Bool.not_eq_true',decide_eq_true_eq] at hp;have sO:X5 ops=[]:=by
  simp only [X5,List.map_eq_nil_iff,List.filter_eq_nil_iff,Bool.not_eq_true];exact fun i hi=>(hp i hi).1
 have vB:slotsOf ops=[]:=by
  simp only [slotsOf,List.filterMap_eq_nil_iff];intro i hi;rw [(hp i hi).1];rfl
 have TL:sY ops lg=true:=by
  simp only [sY,List.all_eq_true];rintro ⟨i,le⟩ yh e he;obtain ⟨j,hj,hji⟩:=List.getElem_of_mem yh;simp only [List.length_zip] at hj;have Ql:j<ops.length:=by omega
  have hj2:j<lg.length:=by omega
  simp only [List.getElem_zip,Prod.mk.injEq] at hji;obtain ⟨rfl,rfl⟩:=hji;have hi:ops[j] ∈ ops:=List.getElem_mem Ql;have hlt:=(hp _ hi).2 e he;have this:e<lg.length:=by rw [e2];exact hlt
  rw [o7 this];cases hr:ops[j].op.QN with
  |true =>
   have h5:=(e3 e _ (o7 this)).1 (by simpa using uL hi hr he);simp [h5,(hp _ hi).1]
  |false =>
   have h5:=(e3 j _ (o7 hj2)).2 _ (o7 Ql) hr;simp [h5,J9,(hp _ hi).1]
 simp only [List.length_nil,List.nil_append] at e1;simp only [O0,if_true,sO,vB,List.append_nil,e1,TL]
theorem Rx.call {f:FuncId}{xs:List r8}{u:List Nat}{v:b6}{args:List b6}(dc:A.prom f=false)(hm:A.mode f=1)(ha:∀ m,xs.map (u7.F0 T (pre++ .any::c9 m .any))=args)
  (hb:y9 args=0) (hc:Pf A f args v) (h2:Rx A l b dr j4 ops T H (pre++[v]) n5 Q):Rx A l b dr j4 (⟨.call f xs,none,none,u⟩::ops) T H pre n5 Q:=by
 obtain ⟨M,hc⟩:=hc;refine Rx.step (N1:=M) (rs:=[]) rfl rfl (fun n hn=> ?_) (fun rs=>by simp [J9]) h2;have h3:A6 (J4 A n l b) pre.length f args ⟨T,H,pre++ .any::c9 ops.length .any,n5⟩=some (put ⟨T,H,pre++ .any::c9 ops.length .any,n5⟩ pre.length v) :=
  ij dc hm hb (hc n hn)
 simp only [x9,u0,C5,s9.D5,if_true,E2,ha,h3,s4,F8,put,F7]
theorem AE {o:BinOp}{c d e:Int}(h:o= .add/\c+d=e\/o= .sub/\c - d=e)(h0: -9223372036854775808<=e)(h1:e<9223372036854775808):K5 o (.int .i64 c) (.int .i64 d)=some (.int .i64 e):=by
 rcases h with ⟨rfl,rfl⟩|⟨rfl,rfl⟩<;>simp [K5,V1,aA,wrap_small h0 h1]
end
abbrev C7:=List UInt8
def y7 {α:Type}(f:α->List Data)(l:List α):Data:= .slice l.length (l.flatMap f)
def num (n:Int):Data:= .int .i64 n
structure Z2 where
 op:Int
 kind:Int
 int:Int
 text:C7
 col:Int
def Z2.enc (t:Z2):List Data:=[num t.op,num t.kind,num t.int,.str t.text,num t.col]
structure W6 where
 name:C7
 type:Int
 space:C7
 refs:C7
 A7:List Int
 dD:Int
 gw:Int
def W6.enc (c:W6):List Data:=[.str c.name,num c.type,.str c.space,.str c.refs,y7 (fun n=>[num n]) c.A7,num c.dD,num c.gw]
structure er where
 name:C7
 m8:List W6
 erase:Int
 X9:Int
def er.enc (t:er):List Data:=[.str t.name,y7 W6.enc t.m8,num t.erase,num t.X9]
structure FK where
 name:C7
 expr:List Z2
def FK.enc (x:FK):List Data:=[.str x.name,y7 Z2.enc x.expr]
structure yA where
 name:C7
 func:Int
 expr:List Z2
def yA.enc (x:yA):List Data:=[.str x.name,num x.func,y7 Z2.enc x.expr]
structure Vw where
 name:C7
 kind:Int
 left:C7
 right:C7
 on:List (Int×Int)
 wh:List Z2
 items:List FK
 distinct:Bool
 B3:List yA
def Vw.enc (v:Vw):List Data:=[.str v.name,num v.kind,.str v.left,.str v.right,y7 (fun p=>[num p.1,num p.2]) v.on,y7 Z2.enc v.wh,y7 FK.enc v.items,.bool v.distinct,y7 yA.enc v.B3]
structure gD where
 name:C7
 source:C7
 col:Int
def gD.enc (x:gD):List Data:=[.str x.name,.str x.source,num x.col]
structure gv where
 name:C7
 source:C7
 col:Int
 kind:Int
 width:Int
 depth:Int
def gv.enc (x:gv):List Data:=[.str x.name,.str x.source,num x.col,num x.kind,num x.width,num x.depth]
structure jy where
 name:C7
 source:C7
 col:Int
 ttl:Int
def jy.enc (x:jy):List Data:=[.str x.name,.str x.source,num x.col,num x.ttl]
structure iO where
 name:C7
 source:C7
 SP:Int
def iO.enc (x:iO):List Data:=[.str x.name,.str x.source,num x.SP]
structure kI where
 name:C7
 table:C7
def kI.enc (x:kI):List Data:=[.str x.name,.str x.table]
structure kH where
 name:C7
 tables:List C7
 keep:Int
def kH.enc (x:kH):List Data:=[.str x.name,y7 (fun s=>[.str s]) x.tables,num x.keep]
structure m9 where
 j3:List er
 views:List Vw
 idxs:List gD
 D6:List gv
 E3:List jy
 G9:List iO
 J3:List kI
 K8:List kH
def m9.enc (c:m9):List Data:=[y7 er.enc c.j3,y7 Vw.enc c.views,y7 gD.enc c.idxs,y7 gv.enc c.D6,y7 jy.enc c.E3,y7 iO.enc c.G9,y7 kI.enc c.J3,y7 kH.enc c.K8]
def VG:CT:= .int .i64
def tW (n:Int):Prop:= -9223372036854775808<=n/\n<9223372036854775808
theorem vj {α:Type}{e:List CT}{enc:α->List Data}{ok:α->Prop}(hr:∀ r,T1 e r->∃ a,r=enc a/\ok a){d:Data}(h:Fits (.slice e) d) :
  ∃ l:List α,d=y7 enc l/\l.length<=maxLen/\∀ a,a ∈ l->ok a:=by
 simp only [Fits] at h;obtain ⟨rows,rfl,hl,hall⟩:=h;have:∀ rows:List (List Data),(∀ r,r ∈ rows->T1 e r)->∃ l:List α,l.length=rows.length/\rows.flatten=l.flatMap enc/\∀ a,a ∈ l->ok a:=by
  intro rows
  induction rows with
  |nil=>intro _;exact ⟨[],rfl,rfl,by simp⟩
  |cons r rs ih =>
   intro h;obtain ⟨a,ha,hok⟩:=hr r (h r (by simp));obtain ⟨l,h1,h2,h3⟩:=ih (fun r hr' =>h r (by simp [hr']));refine ⟨a::l,by simp [h1],by simp [h2,ha],?_⟩;intro b hb
   rcases B8.1 hb with rfl|hb
   ·exact hok
   ·exact h3 b hb
 obtain ⟨l,h1,h2,h3⟩:=this rows hall;exact ⟨l,by rw [y7,h1,h2],by omega,h3⟩
theorem CL {d:Data}(h:Fits VG d):∃ n,d=num n/\tW n:=by
 simp only [VG,Fits] at h;obtain ⟨n,rfl,hw⟩:=h;refine ⟨n,rfl,?_⟩;simp [Lit.wf] at hw;have hm:IntKind.i64.min= -9223372036854775808:=rfl;rw [hm] at hw;unfold tW;omega
structure Z2.ok (x:Z2):Prop where
 op:tW x.op
 kind:tW x.kind
 int:tW x.int
 text:x.text.length<=maxLen
 col:tW x.col
structure W6.ok (x:W6):Prop where
 name:x.name.length<=maxLen
 type:tW x.type
 space:x.space.length<=maxLen
 refs:x.refs.length<=maxLen
 A7:x.A7.length<=maxLen/\∀ a,a ∈ x.A7->tW a
 dD:tW x.dD
 gw:tW x.gw
structure er.ok (x:er):Prop where
 name:x.name.length<=maxLen
 m8:x.m8.length<=maxLen/\∀ a,a ∈ x.m8->a.ok
 erase:tW x.erase
 X9:tW x.X9
structure FK.ok (x:FK):Prop where
 name:x.name.length<=maxLen
 expr:x.expr.length<=maxLen/\∀ a,a ∈ x.expr->a.ok
structure yA.ok (x:yA):Prop where
 name:x.name.length<=maxLen
 func:tW x.func
 expr:x.expr.length<=maxLen/\∀ a,a ∈ x.expr->a.ok
structure Vw.ok (x:Vw):Prop where
 name:x.name.length<=maxLen
 kind:tW x.kind
 left:x.left.length<=maxLen
 right:x.right.length<=maxLen
 on:x.on.length<=maxLen/\∀ a,a ∈ x.on->tW a.1/\tW a.2
 wh:x.wh.length<=maxLen/\∀ a,a ∈ x.wh->a.ok
 items:x.items.length<=maxLen/\∀ a,a ∈ x.items->a.ok
 distinct:True
 B3:x.B3.length<=maxLen/\∀ a,a ∈ x.B3->a.ok
structure gD.ok (x:gD):Prop where
 name:x.name.length<=maxLen
 source:x.source.length<=maxLen
 col:tW x.col
structure gv.ok (x:gv):Prop where
 name:x.name.length<=maxLen
 source:x.source.length<=maxLen
 col:tW x.col
 kind:tW x.kind
 width:tW x.width
 depth:tW x.depth
structure jy.ok (x:jy):Prop where
 name:x.name.length<=maxLen
 source:x.source.length<=maxLen
 col:tW x.col
 ttl:tW x.ttl
structure iO.ok (x:iO):Prop where
 name:x.name.length<=maxLen
 source:x.source.length<=maxLen
 SP:tW x.SP
structure kI.ok (x:kI):Prop where
 name:x.name.length<=maxLen
 table:x.table.length<=maxLen
structure kH.ok (x:kH):Prop where
 name:x.name.length<=maxLen
 tables:x.tables.length<=maxLen/\∀ a,a ∈ x.tables->a.length<=maxLen
 keep:tW x.keep
structure m9.ok (x:m9):Prop where
 j3:x.j3.length<=maxLen/\∀ a,a ∈ x.j3->a.ok
 views:x.views.length<=maxLen/\∀ a,a ∈ x.views->a.ok
 idxs:x.idxs.length<=maxLen/\∀ a,a ∈ x.idxs->a.ok
 D6:x.D6.length<=maxLen/\∀ a,a ∈ x.D6->a.ok
 E3:x.E3.length<=maxLen/\∀ a,a ∈ x.E3->a.ok
 G9:x.G9.length<=maxLen/\∀ a,a ∈ x.G9->a.ok
 J3:x.J3.length<=maxLen/\∀ a,a ∈ x.J3->a.ok
 K8:x.K8.length<=maxLen/\∀ a,a ∈ x.K8->a.ok
section
variable {A:Prog} {l:F9} {b:Nat}
variable {dr:Bool} {j4 ops:List n8} {T:List b6} {H:o6} {pre:List b6} {n5:List Touch} {Q:List b6->o6->List b6->Prop}
theorem oy {j:Nat}{v:b6}(h:pre[j]? =some v)(r:List b6):(pre++r)[j]? =some v:=by
 have hj:j<pre.length:=by
  rcases p7 j pre.length with hj' |hj'
  ·exact hj'
  ·rw [q6 hj'] at h;cases h
 rw [p4 hj,h]
theorem Rx.Ro {op:s9}{j:Nat}{want w:Bool}{u:List Nat}(h:pre[j]? =some (.d (.bool w)))(hw:(w==want)=false)(hk:D8 ⟨T,H,pre++ .any::c9 ops.length .any,n5⟩ op=false)(ha:op.y3=false)
  (h2:Rx A l b dr j4 ops T H (pre++[.tuple []]) n5 Q):Rx A l b dr j4 (⟨op,none,some (j,want),u⟩::ops) T H pre n5 Q:=by
 refine Rx.step (N1:=0) (rs:=[]) hk ha (fun n _=> ?_) (fun rs=>by simp [J9]) h2;simp only [x9,u0,oy h,hw,put,F7,s4,F8]
theorem yH {mask:List Bool}{strict n:Nat}(h:H.length=n):clean mask strict n ⟨T,H⟩=⟨R0 mask T,H⟩:=by
 subst h;simp [clean]
theorem BS {E:Env}{s5:Option Nat}{k j:Nat}{op:s9}{dst:Option Nat}{want w:Bool}{u:List Nat}{st:E1}(h:st.L[j]? =some (.d (.bool w)))(hw:(w==want)=true) :
  x9 E j4 s5 k ⟨op,dst,some (j,want),u⟩ st=x9 E j4 s5 k ⟨op,dst,none,u⟩ st:=by
 simp only [x9,u0,h,hw]
theorem Rx.wanted {op:s9}{dst:Option Nat}{j:Nat}{want w:Bool}{u:List Nat}(h:pre[j]? =some (.d (.bool w)))(hw:(w==want)=true)
  (h2:Rx A l b dr j4 (⟨op,dst,none,u⟩::ops) T H pre n5 Q):Rx A l b dr j4 (⟨op,dst,some (j,want),u⟩::ops) T H pre n5 Q:=by
 obtain ⟨r,N,hq,hr⟩:=h2;refine ⟨r,N,hq,fun n hn=> ?_⟩;have h3:=hr n hn;have h4:∀ E s5,x9 E j4 s5 pre.length ⟨op,dst,some (j,want),u⟩ ⟨T,H,pre++c9 (ops.length+1) .any,n5⟩=x9 E j4 s5 pre.length ⟨op,dst,none,u⟩ ⟨T,H,pre++c9 (ops.length+1) .any,n5⟩ :=
  fun E s5=>BS (oy h _) hw
 cases dr with
 |false =>
  simp only [b7,if_false,List.length_cons,bQ] at h3 ⊢;rw [h4];exact h3
 |true =>
  simp only [if_true,List.length_cons,O3,gS] at h3 ⊢;intro na;rw [h4];obtain ⟨lg,e1,e2,e3⟩:=h3 na;refine ⟨lg,e1,e2,fun k e he=>⟨(e3 k e he).1,fun i hi hr=> ?_⟩⟩;cases k with
  |zero =>
   simp only [List.getElem?_cons_zero,Option.some.injEq] at hi;subst hi;exact (e3 0 e he).2 ⟨op,dst,none,u⟩ rfl hr
  |succ k=>exact (e3 (k+1) e he).2 i (by simpa using hi) hr
theorem Rx.stepT {i:n8}{T' pre' :List b6}{H' :o6}{v:b6}{cV :List Touch}{rs:List Nat}{N1:Nat}(hl:pre'.length=pre.length)
  (h:∀ n,N1<=n->x9 (J4 A n l b) j4 none pre.length i ⟨T,H,pre++ .any::c9 ops.length .any,n5⟩=some (⟨T',H',pre' ++v::c9 ops.length .any,cV⟩,rs))
  (h2:Rx A l b false j4 ops T' H' (pre' ++[v]) cV Q):Rx A l b false j4 (i::ops) T H pre n5 Q:=by
 obtain ⟨r,N,hq,h2⟩:=h2;refine ⟨r,max N N1,hq,fun n hn=> ?_⟩;have h3:=h2 n (by omega);have h4:=h n (by omega);simp only [List.append_assoc,List.cons_append,List.nil_append,List.length_append,List.length_cons,List.length_nil,hl] at h3;simp only [b7,if_false,List.length_cons,List.replicate_succ] at h3 ⊢;simp only [bQ,h4];exact h3
theorem Rx.WV {x:r8}{u:List Nat}{v:b6}{cs:List b6}{s:Nat}(hx:Op T pre x v)(hc:v.cells? =some cs)(hs:T[s]?.isSome=true)
  (h2:Rx A l b false j4 ops (T.set s (.ptr H.length 0)) (H++[.cells cs]) (pre++[.ptr H.length 0]) (.slot s::n5) Q):Rx A l b false j4 (⟨.box x,some s,none,u⟩::ops) T H pre n5 Q:=by
 have hs:s<T.length:=by
  rcases p7 s T.length with h|h
  ·exact h
  ·rw [q6 h] at hs;cases hs
 refine Rx.stepT (N1:=0) (rs:=[]) rfl (fun n _=> ?_) h2;have h3:∀ r:List b6,(pre++ .ptr H.length 0::r)[pre.length]? =some (.ptr H.length 0):=fun r=>by simp
 simp only [x9,u0,C5,s9.D5,if_true,E2,hx.F0,hc,I4,newId,Option.getD_none,put,F7,s4,F8,hs,u7.C6,h3];simp [u7.F0,b6.F2]
theorem Rx.Yi {s z n0:Nat}{cs:List Data}{u:List Nat}(hs:T[s]?.isSome=true)(h2:Rx A l b dr j4 ops (T.set s (.own z n0 cs)) H (pre++[.d (.slice n0 cs)]) (.slot s::n5) Q) :
  Rx A l b dr j4 (⟨.M9 (.const (.own z n0 cs)),some s,none,u⟩::ops) T H pre n5 Q:=by
 have hs:s<T.length:=by
  rcases p7 s T.length with h|h
  ·exact h
  ·rw [q6 h] at hs;cases hs
 refine Rx.step (N1:=0) (rs:=[]) rfl rfl (fun n _=> ?_) (fM s n5) h2;have h5:∀ r:List b6,(pre++ .own z n0 cs::r)[pre.length]? =some (.own z n0 cs):=fun r=>by simp
 simp only [x9,u0,C5,s9.D5,b7,if_false,u7.C6,put,F7,s4,F8,hs,if_true,h5]
theorem Ex.I7 {mask:List Bool}{body:p5}{R:D2->St->Prop}(Inv:Nat->List b6->o6->Prop)(hl:∀ k T' H',Inv k T' H' ->H'.length=H.length)
  (hb:∀ k T' H',Inv k T' H' ->Ex A l b body ⟨R0 mask T',H'⟩ (rJ R fun s=>∃ k',k' <k/\Inv k' s.T s.H)) {k:Nat} (h:Inv k T H):Ex A l b (.loop mask body) ⟨T,H⟩ R:=by
 refine Ex.loop (fun k s=>Inv k s.T s.H) (fun k s hs=> ?_) (k:=k) h;obtain ⟨T',H'⟩:=s;rw [yH (hl k T' H' hs)];exact hb k T' H' hs
end
theorem jJ {α:Type}{enc:α->List Data}{sz:Nat}(hs:∀ a,(enc a).length=sz):∀ (l:List α) (i:Nat) (h:i<l.length),(l.flatMap enc).drop (i * sz)=enc l[i]++(l.drop (i+1)).flatMap enc
 |a::l,0,h=>by simp
 |a::l,i+1,h=>by
  have h1:=jJ hs l i (by simpa using h);rw [List.flatMap_cons,Nat.succ_mul,Nat.add_comm,<- List.drop_drop];rw [show (enc a++l.flatMap enc).drop sz=l.flatMap enc by rw [<- hs a,List.drop_left]];simpa using h1
theorem Mc {α:Type}{enc:α->List Data}{sz:Nat}(hs:∀ a,(enc a).length=sz)(l:List α)(i:Nat)(h:i<l.length) :
  (l.flatMap enc).drop ((i:Int).toNat * sz)=enc l[i]++(l.drop (i+1)).flatMap enc:=by
 rw [Int.toNat_natCast];exact jJ hs l i h
def m9.names (c:m9):List C7:=c.j3.map er.name++c.views.map Vw.name++c.idxs.map gD.name++c.D6.map gv.name++c.E3.map jy.name++c.G9.map iO.name++c.J3.map kI.name++c.K8.map kH.name
def cat (c:m9):b6:= .agg (c.enc.map .d)
def m9.fI (c:m9):Prop:=c.j3.length<=1000/\c.views.length<=1000/\c.idxs.length<=1000/\c.D6.length<=1000/\c.E3.length<=1000/\c.G9.length<=1000/\c.J3.length<=1000/\c.K8.length<=1000
def gu {α:Type}(a b:Option α):Prop:=∀ r,a=some r->b=some r
theorem gu.refl {α:Type}(a:Option α):gu a a:=fun _ h=>h
theorem gu.no {α:Type}(b:Option α):gu none b:=fun _ h=>by cases h
def LeC (c c' :oL):Prop:=∀ f args H l,gu (c f args H l) (c' f args H l)
section
variable {cf Lu :oL} (hc:LeC cf Lu) {p:FuncId->Bool} {md:FuncId->Nat} {oJ:FuncId->Bool} {l:F9} {e:Nat}
include hc
theorem uQ (k:Nat)(f:FuncId)(args:List b6)(st:E1):gu (A6 ⟨cf,p,md,oJ,l,e⟩ k f args st) (A6 ⟨Lu,p,md,oJ,l,e⟩ k f args st):=by
 unfold A6;simp only;split
 ·cases h:cf f args st.H l with
  |none=>exact gu.no _
  |some r=>rw [hc _ _ _ _ _ h];exact gu.refl _
 ·split
  ·split
   ·cases h:cf f args (List.take (G5 st.H l.strict 8 (y9 args)) st.H) { l with base:=G5 st.H l.strict 8 (y9 args),strict:=B5 st.H l.strict (G5 st.H l.strict 8 (y9 args)) } with
    |none=>exact gu.no _
    |some r=>rw [hc _ _ _ _ _ h];exact gu.refl _
   ·cases h:cf f args (List.take (G5 st.H l.strict 8 (y9 args)) st.H) ⟨0,G5 st.H l.strict 8 (y9 args),G5 st.H l.strict 8 (y9 args),B5 st.H l.strict (G5 st.H l.strict 8 (y9 args))⟩ with
    |none=>exact gu.no _
    |some r=>rw [hc _ _ _ _ _ h];exact gu.refl _
   ·cases h:cf f args (List.take (G5 st.H l.strict 8 (y9 args)) st.H) (l.jK (args.headD .any).M3 (G5 st.H l.strict 8 (y9 args)) (G5 st.H l.strict 8 (y9 args)) (B5 st.H l.strict (G5 st.H l.strict 8 (y9 args)))) with
    |none=>exact gu.no _
    |some r=>rw [hc _ _ _ _ _ h];exact gu.refl _
  ·exact gu.no _
theorem Mb (j4:List n8)(s5:Option Nat)(k:Nat)(st:E1)(op:s9):gu (E2 ⟨cf,p,md,oJ,l,e⟩ j4 s5 k st op) (E2 ⟨Lu,p,md,oJ,l,e⟩ j4 s5 k st op):=by
 cases op
 case call f xs=>exact uQ hc k f _ st
 case y6 sz len z ps b=>cases b<;>exact gu.refl _
 case Z3 x xs =>
  simp only [E2];split
  ·exact uQ hc k _ _ st
  ·exact gu.no _
 all_goals exact gu.refl _
theorem Od (j4:List n8)(s5:Option Nat)(k:Nat)(op:s9)(st:E1):gu (C5 ⟨cf,p,md,oJ,l,e⟩ j4 s5 k op st) (C5 ⟨Lu,p,md,oJ,l,e⟩ j4 s5 k op st):=by
 unfold C5;split
 ·intro r hr
  cases hx:E2 ⟨cf,p,md,oJ,l,e⟩ j4 s5 k st op with
  |none=>rw [hx] at hr;cases hr
  |some x =>
   rw [hx] at hr;rw [Mb hc j4 s5 k st op _ hx];exact hr
 ·exact gu.refl _
theorem Ec (j4:List n8)(s5:Option Nat)(k:Nat)(i:n8)(st:E1):gu (x9 ⟨cf,p,md,oJ,l,e⟩ j4 s5 k i st) (x9 ⟨Lu,p,md,oJ,l,e⟩ j4 s5 k i st):=by
 unfold x9;split
 ·intro r hr
  cases hx:C5 ⟨cf,p,md,oJ,l,e⟩ j4 s5 k i.op st with
  |none=>rw [hx] at hr;cases hr
  |some x =>
   rw [hx] at hr;rw [Od hc j4 s5 k i.op st _ hx];exact hr
 ·exact gu.refl _
 ·exact gu.refl _
theorem zu (j4:List n8):∀ (is:List n8) (k:Nat) (st:E1),gu (bQ ⟨cf,p,md,oJ,l,e⟩ j4 is k st) (bQ ⟨Lu,p,md,oJ,l,e⟩ j4 is k st)
 |[],_,_=>gu.refl _
 |i::is,k,st=>by
  unfold bQ;intro r hr;cases hx:x9 ⟨cf,p,md,oJ,l,e⟩ j4 none k i st with
  |none=>rw [hx] at hr;cases hr
  |some x =>
   rw [hx] at hr;rw [Ec hc j4 none k i st _ hx];exact zu j4 is (k+1) x.1 r hr
theorem Oc (j4:List n8)(s5:Option Nat)(k:Nat)(i:n8)(st:E1):gu (gS ⟨cf,p,md,oJ,l,e⟩ j4 s5 k i st) (gS ⟨Lu,p,md,oJ,l,e⟩ j4 s5 k i st):=by
 unfold gS;split
 ·exact gu.refl _
 ·intro r hr
  cases hx:x9 ⟨cf,p,md,oJ,l,e⟩ j4 s5 k i st with
  |none=>rw [hx] at hr;cases hr
  |some x =>
   rw [hx] at hr;rw [Ec hc j4 s5 k i st _ hx];exact hr
theorem wz (j4:List n8):∀ (is:List n8) (k na:Nat) (st:E1),gu (O3 ⟨cf,p,md,oJ,l,e⟩ j4 is k na st) (O3 ⟨Lu,p,md,oJ,l,e⟩ j4 is k na st)
 |[],_,_,_=>gu.refl _
 |i::is,k,na,st=>by
  unfold O3;intro r hr;cases hx:gS ⟨cf,p,md,oJ,l,e⟩ j4 (if i.op.y3 then some na else none) k i st with
  |none=>rw [hx] at hr;cases hr
  |some x =>
   rw [hx] at hr;rw [Oc hc j4 _ k i st _ hx];simp only at hr ⊢;cases hy:O3 ⟨cf,p,md,oJ,l,e⟩ j4 is (k+1) (if i.op.y3 then na+1 else na) x.1 with
   |none=>rw [hy] at hr;cases hr
   |some y =>
    rw [hy] at hr;rw [wz j4 is (k+1) _ x.1 _ hy];exact hr
theorem qj (j4:List n8)(draw:Bool)(T:List b6)(H:o6):gu (O0 ⟨cf,p,md,oJ,l,e⟩ j4 draw T H) (O0 ⟨Lu,p,md,oJ,l,e⟩ j4 draw T H):=by
 unfold O0;split
 ·intro r hr
  cases hx:O3 ⟨cf,p,md,oJ,l,e⟩ j4 j4 0 H.length ⟨T,H++X5 j4,c9 j4.length .any,slotsOf j4⟩ with
  |none=>rw [hx] at hr;cases hr
  |some x =>
   rw [hx] at hr;rw [wz hc j4 j4 0 _ _ _ hx];exact hr
 ·exact zu hc j4 j4 0 _
end
theorem Dl {body body' :St->Option (D2×St)}(hb:∀ st,gu (body st) (body' st))(mask:List Bool)(strict n:Nat):∀ (k k' :Nat) (_:k<=k') (st:St),gu (eE body mask strict n k st) (eE body' mask strict n k' st)
 |0,_,_,_=>gu.no _
 |k+1,0,h,_=>by omega
 |k+1,k' +1,h,st=>by
  unfold eE;intro r hr;cases hx:body (clean mask strict n st) with
  |none=>rw [hx] at hr;cases hr
  |some x =>
   rw [hx] at hr;rw [hb _ _ hx];obtain ⟨x1,x2⟩:=x;cases x1 with
   |normal=>exact Dl hb mask strict n k k' (by omega) x2 r hr
   |exit i=>exact hr
   |ret=>exact hr
theorem fu {cf Lu :oL}(hc:LeC cf Lu){p:FuncId->Bool}{md:FuncId->Nat}{oJ:FuncId->Bool}{l:F9}{e n n' :Nat}(hn:n<=n'):∀ (c:p5) (st:St),gu (exec ⟨cf,p,md,oJ,l,e⟩ n c st) (exec ⟨Lu,p,md,oJ,l,e⟩ n' c st)
 | .skip,_=>gu.refl _
 | .exit _,_=>gu.refl _
 | .ret,_=>gu.refl _
 | .bad,_=>gu.refl _
 | .fz _,_=>gu.refl _
 | .region ops draw,st=>by
  unfold exec;intro r hr;cases hx:O0 ⟨cf,p,md,oJ,l,e⟩ ops draw st.T st.H with
  |none=>rw [hx] at hr;cases hr
  |some x =>
   rw [hx] at hr;rw [qj hc ops draw st.T st.H _ hx];exact hr
 | .seq a b,st=>by
  unfold exec;intro r hr;cases hx:exec ⟨cf,p,md,oJ,l,e⟩ n a st with
  |none=>rw [hx] at hr;cases hr
  |some x =>
   rw [hx] at hr;rw [fu hc hn a st _ hx];obtain ⟨x1,x2⟩:=x;cases x1 with
   |normal=>exact fu hc hn b x2 r hr
   |exit i=>exact hr
   |ret=>exact hr
 | .cond c a b,st=>by
  unfold exec;split
  ·exact fu hc hn a st
  ·exact fu hc hn b st
  ·exact gu.refl _
 | .test ops draw c a b,st=>by
  unfold exec;intro r hr;cases hx:O0 ⟨cf,p,md,oJ,l,e⟩ ops draw st.T st.H with
  |none=>rw [hx] at hr;cases hr
  |some x =>
   rw [hx] at hr;rw [qj hc ops draw st.T st.H _ hx];simp only at hr ⊢;split at hr
   ·exact fu hc hn a _ r hr
   ·exact fu hc hn b _ r hr
   ·cases hr
 | .block id body,st=>by
  unfold exec;intro r hr;cases hx:exec ⟨cf,p,md,oJ,l,e⟩ n body st with
  |none=>rw [hx] at hr;cases hr
  |some x =>
   rw [hx] at hr;rw [fu hc hn body st _ hx];exact hr
 | .loop mask body,st=>by
  unfold exec;exact Dl (fun st=>fu hc hn body st) mask _ _ n n' hn st
theorem HI (A:Prog):∀ (n n' :Nat),n<=n' ->LeC (call A n) (call A n')
 |0,_,_=>fun _ _ _ _=>gu.no _
 |n+1,0,h=>by omega
 |n+1,n' +1,h=>fun f args H l=>by
  unfold call;split
  ·exact gu.refl _
  ·split
   ·rename_i af _
    unfold fQ;split
    ·intro r hr
     cases hx:exec ⟨call A n,A.prom,A.mode,A.idle,l,H.length⟩ n af.body ⟨args++c9 (af.names.length - args.length) .any,H⟩ with
     |none=>rw [hx] at hr;cases hr
     |some x =>
      rw [hx] at hr;rw [fu (HI A n n' (by omega)) (by omega) _ _ _ hx];exact hr
    ·exact gu.no _
   ·exact gu.refl _
theorem Pf.QC {A:Prog}{n:Nat}{f:FuncId}{args:List b6}{v:b6}(h:call A n f args [] bK=some (v,[])):Pf A f args v :=
 ⟨n,fun m hm=>HI A n m hm f args [] bK _ h⟩
open Go.ChangeShapes Go.WideShapes Go.ChangeAt Go.RowKit
section
variable {H:Type} {enc:TypeId×Value->H} {P:Program} {w:World} {held:Bool} {base:Nat} {spare:Nat->Bool}
theorem Om {t e:TypeId}{fuel:Nat}{a:Addr}{len cap:Nat}{x:DataW H×List MemPlace}(hu:P.underlying t=some (.slice e))(h:DataW.trod enc P w base spare held fuel t [.slice (some a) len cap]=some x):∃ elems rest,x.1= .slice elems rest/\elems.length=len:=by
 cases fuel with
 |zero=>simp [DataW.trod] at h
 |succ fuel =>
  unfold DataW.trod at h;rw [hu] at h;simp only at h;split at h
  ·simp only [Option.bind_eq_some_iff,Option.map_eq_some_iff] at h
   obtain ⟨elems,hm,rest,_,rfl⟩:=h;exact ⟨_,_,rfl,by rw [List.length_map,(eu hm).1,List.length_range]⟩
  ·cases h
def ZS (P:Program)(ts:List TypeId)(as:List b6):Prop:=∀ (j:Nat) (t e:TypeId) (n:Nat) (cells:List Data),ts[j]? =some t->P.underlying t=some (.slice e)->as[j]? =some (.d (.slice n cells))->n * P.bytesOf e<=reachBytes
theorem Oe:∀ (ts:List TypeId) (vs:List Value) (ds:List (DataW H)) (ps:List MemPlace) (as:List b6),DataW.TrodAll enc P w base spare held ts vs ds ps->F1 (G0 w) I0 N0 w as vs->(DataW.weightsEach P ts ds).all (·<=reachBytes)=true->ZS P ts as
 |[],_,_,_,_,_,_,_=>fun j t e n cells ht=>by simp at ht
 |t::ts,vs,ds,ps,as,h,hv,hs=>fun j t' e n cells ht hu ha=>by
  obtain ⟨v,vs1,d,ds1,a,b,rfl,rfl,rfl,h1,h2⟩:=Go.ChangeShapes.trodAll_cons h;cases as with
  |nil=>simp at ha
  |cons a0 as =>
   simp only [F1] at hv;obtain ⟨v',xs,e1,TT,VM⟩:=hv;cases e1;simp only [DataW.weightsEach,List.all_append,Bool.and_eq_true] at hs;cases j with
   |succ j=>exact Oe ts _ _ _ as h2 VM hs.2 j t' e n cells (by simpa using ht) hu (by simpa using ha)
   |zero =>
    simp only [List.getElem?_cons_zero,Option.some.injEq] at ht ha;subst ht ha;simp only [VR,DR] at TT
    rcases TT with ⟨_,rfl,_⟩|⟨bb,o,cap,rfl,_,_⟩
    ·simp
    ·obtain ⟨fuel,hf⟩:=h1
     obtain ⟨elems,rest,e2,e3⟩:=Om hu hf;simp only at e2;subst e2;have:=sized_slice (ts:=[t]) (ds:=[.slice elems rest]) (by simp only [DataW.weightsEach,List.all_append,Bool.and_eq_true];exact ⟨hs.1,rfl⟩) (j:=0) rfl rfl hu;rw [e3] at this;exact Nat.le_trans (Nat.mul_le_mul_right _ (Nat.le_add_right _ _)) this
end
theorem nK {H:Type}{enc:TypeId×Value->H}{P:Program}{A:Prog}(hok:qW P A){fid:FuncId}{f:Func}{s:ChangeSpec}(hvars:s.vars=[]){tb:TypeId}(hrt:f.resultTypes= #[tb])(htb:P.underlying tb=some .bool)
  {ls:List (List CT)} (Gp:Az P f.params.toList ls=true) {W:World} {base:Nat} {args:Array Value} {ds gs:List (DataW H)} {before:List MemPlace} {r:Reach}
  (hfn:s.fn H ds={ results:=[.lit (.bool true)],args:=ds })
  (hval:∀ (j:Nat) t v,f.params[j]? =some t->args[j]? =some v->Value.okWide P W r base t v) (hW:DataW.Whole enc P f.params.toList s.vars false W args.toList ds gs before)
  (hsz:(DataW.weightsEach P (f.params.toList++s.plain.varTypes P) (ds++gs)).all (·<=reachBytes)=true)
  (XU:∀ as,fq P f.params.toList ls as->ZS P f.params.toList as->∃ n,call A n fid as [] bK=some (.d (.bool true),[])) :
  Calls P fid args W fun e W' =>∃ v,e= .returned v/\s.post enc P f false true false false W args v W' :=by
 have hW' :=hW;obtain ⟨p,q,hA,hV,rfl,hfz,hnd⟩:=hW;rw [hvars] at hV;obtain ⟨rfl,rfl⟩:=trodVars_none hV;have ao6 :(DataW.weightsEach P f.params.toList ds).all (·<=reachBytes)=true:=by
  have e:s.plain.varTypes P=[]:=by simp [ChangeSpec.plain,DataSpec.varTypes,hvars]
  rwa [e,List.append_nil,List.append_nil] at hsz
 obtain ⟨⟨as,a1,a2⟩,a3⟩:=HA f.params.toList ls args.toList ds p Gp (fun j t v ht hv=>hval j t v (by simpa using ht) (by simpa using hv)) hA;obtain ⟨n,hn⟩:=XU as a1 (Oe _ _ _ _ _ hA a2 ao6);refine (KG hok hn a2).mono ?_;rintro e W' ⟨rfl,hK⟩;have TH :s.fn H (ds++[])={ results:=[.lit (.bool true)],args:=ds }:=by rw [List.append_nil];exact hfn
 refine ⟨_,rfl,KN (pa:=p) (pv:=[]) hW' hK (fun b sp hd=> ?_) (fun sp hsp=> ?_) (fun sp _=> ?_) rfl (fun j t v ht hv=> ?_)⟩
 ·rw [TH,hrt]
  exact trodAll_cons_mk (shut_bool htb _) trodAll_mk0
 ·rw [TH]
  exact a3 W' hK sp (fun p' hp=>hsp p' (by simpa using hp))
 ·rw [TH,hvars]
  rfl
 ·rw [hrt] at ht hv
  cases j with
  |zero =>
   simp at ht;simp [Value.resultList] at hv;subst ht;subst hv;exact okWide_bool_mk htb _
  |succ j=>simp at ht
end Go.u7

