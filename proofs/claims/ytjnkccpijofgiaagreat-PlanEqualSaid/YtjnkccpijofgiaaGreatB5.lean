/-
  Functions of the library that the machine takes as one step: slices.Grow of the nil slice of one-cell elements, slices.Sort and slices.Compact of numbers.; Arguments: what a row reads as data is data of the abstract machine, in every block that there is; it reads the same where all old blocks are as they were.; A law's row, whatever its arguments of plain types.; Runs for open arguments: what code comes to, with fuel enough.; Open runs, operation by operation.; Catalogues as plain data, and their cells.; Open runs: guarded operations, choices, objects.; Elements of encoded lists.
  (Put together by a small program out of several texts; blanks left out to keep the folder small.)
-/
import Derived.Test.YtjnkccpijofgiaaGreatB4
import Derived.OpenShut
set_option linter.unusedVariables false
set_option linter.unusedSimpArgs false
namespace Go.Abs
def insI (x:Int):List Int→List Int
 |[]=>[x]
 |y::l=>if x≤y then x::y::l else y::insI x l
def sortI:List Int→List Int
 |[]=>[]
 |x::l=>insI x (sortI l)
def intsOf? :List AVal→Option (List Int)
 |[]=>some []
 | .d (.int .i64 n)::r=>match intsOf? r with
  |some xs=>some (n::xs)
  |none=>none
 |_=>none
def pGrow:List AVal→Heap→Lim→Option (AVal×Heap)
 |[.nils,.d (.int .i64 n)],H,_=>if 0≤n∧n≤1000000 then some (.own 1 0 [],H) else none
 |_,_,_=>none
def pSort:List AVal→Heap→Lim→Option (AVal×Heap)
 |[.sref id 1 lo len],H,l=>if l.may id&&Nat.ble len 1000000 then match rd H id lo len with
   |some vs=>match intsOf? vs with
    |some xs=>match wr H id lo ((sortI xs).map fun n=> .d (.int .i64 n)) with
     |some H1=>some (.tuple [],H1)
     |none=>none
    |none=>none
   |none=>none
  else none
 |[.d (.slice 0 _)],H,_=>some (.tuple [],H)
 |_,_,_=>none
def dedI:List Int→List Int
 |[]=>[]
 |[x]=>[x]
 |x::y::l=>if x=y then dedI (y::l) else x::dedI (y::l)
def pCompact:List AVal→Heap→Lim→Option (AVal×Heap)
 |[.sref id 1 lo len],H,l=>if l.may id&&Nat.ble len 1000000 then match rd H id lo len with
   |some vs=>match intsOf? vs with
    |some xs=>match wr H id lo ((dedI xs++List.replicate (xs.length - (dedI xs).length) 0).map fun n=> .d (.int .i64 n)) with
     |some H1=>some (.sref id 1 lo (dedI xs).length,H1)
     |none=>none
    |none=>none
   |none=>none
  else none
 |_,_,_=>none
end Go.Abs
namespace Go.Abs
inductive CT where
 |bool
 |int (k:IntKind)
 |str
 |slice (e:List CT)
mutual
def Fits:CT→Data→Prop
 | .bool,d=>∃ b,d= .bool b
 | .int k,d=>∃ n,d= .int k n∧(Lit.int k n).wf=true
 | .str,d=>∃ s:List UInt8,d= .str s∧s.length≤maxLen
 | .slice e,d=>∃ rows:List (List Data),d= .slice rows.length rows.flatten∧rows.length≤maxLen∧∀ r,r ∈ rows→FitsL e r
def FitsL:List CT→List Data→Prop
 |[],ds=>ds=[]
 |c::cs,ds=>∃ d r,ds=d::r∧Fits c d∧FitsL cs r
end
theorem FitsL.length:∀ (l:List CT) (ds:List Data),FitsL l ds→ds.length=l.length
 |[],ds,h=>by simp [FitsL] at h;simp [h]
 |c::cs,ds,h=>by
  simp only [FitsL] at h
  obtain ⟨d,r,rfl,_,h3⟩:=h
  simp [FitsL.length cs r h3]
theorem FitsL_append:∀ {l m:List CT} {ds es:List Data},FitsL l ds→FitsL m es→FitsL (l++m) (ds++es)
 |[],m,ds,es,h,k=>by simp [FitsL] at h;subst h;simpa using k
 |c::cs,m,ds,es,h,k=>by
  simp only [FitsL] at h
  obtain ⟨d,r,rfl,h2,h3⟩:=h
  simp only [List.cons_append,FitsL]
  exact ⟨d,r++es,rfl,h2,FitsL_append h3 k⟩
theorem addr_add (a:Addr)(m n:Nat):a.add (m+n)=(a.add m).add n:=by
 unfold Addr.add
 by_cases hm:m=0
 ·subst hm;simp
 ·by_cases hn:n=0
  ·subst hn;simp
  ·simp [hm,hn,Nat.add_assoc]
def LayF (P:Program)(lay:TypeId→List CT→Bool):List Field→Nat→List CT→Bool
 |[],_,l=>l.isEmpty
 |f::fs,o,l=>f.offset==o&&decide (P.cellsOf f.type≤l.length)&&lay f.type (l.take (P.cellsOf f.type))&&LayF P lay fs (o+P.cellsOf f.type) (l.drop (P.cellsOf f.type))
def LayA (lay:List CT→Bool)(c:Nat):Nat→List CT→Bool
 |0,l=>l.isEmpty
 |m+1,l=>decide (c≤l.length)&&lay (l.take c)&&LayA lay c m (l.drop c)
def Lay (P:Program):Nat→TypeId→List CT→Bool
 |0,_,_=>false
 |n+1,t,l=>match P.underlying t with
  |some .bool=>(match l with
   |[.bool]=>true
   |_=>false)
  |some (.int k)=>(match l with
   |[.int k']=>k==k'
   |_=>false)
  |some .string=>(match l with
   |[.str]=>true
   |_=>false)
  |some (.slice e)=>(match l with
   |[.slice le]=>Lay P n e le&&P.cellsOf e==le.length&&decide (0<le.length)
   |_=>false)
  |some (.struct fs)=>P.cellsOf t==l.length&&LayF P (Lay P n) fs.toList 0 l
  |some (.array m e)=>P.cellsOf t==l.length&&LayA (Lay P n e) (P.cellsOf e) m l
  |_=>false
abbrev I0:Inj:=fun _=>(0,0)
abbrev N0:Nat→Prop:=fun _=>False
theorem Kept.cell {w w' :World}(h:Kept w w'){a:Addr}{v:Value}(hv:w.cell? a=some v):w'.cell? a=some v:=by
 have:a.block<w.heap.size:=by
  rcases Nat.lt_or_ge a.block w.heap.size with h' |h'
  ·exact h'
  ·unfold World.cell? at hv
   rw [Array.getElem?_eq_none h'] at hv
   simp at hv
 have e:w'.cell? a=w.cell? a:=by
  unfold World.cell?
  rw [h.old _ this]
 rw [e];exact hv
theorem mapM_same {α β:Type}{f g:α→Option β}:∀ {l:List α} {ys:List β},(∀ x y,x ∈ l→y ∈ ys→f x=some y→g x=some y)→l.mapM f=some ys→l.mapM g=some ys
 |[],ys,_,h=>by simpa using h
 |x::xs,ys,hfg,h=>by
  rw [List.mapM_cons] at h ⊢
  cases hf:f x with
  |none=>rw [hf] at h;cases h
  |some y =>
   rw [hf] at h
   cases hr:xs.mapM f with
   |none=>simp [hr] at h
   |some r =>
    simp [hr] at h
    subst h
    rw [hfg x y (by simp) (by simp) hf,mapM_same (fun a b ha hb=>hfg a b (by simp [ha]) (by simp [hb])) hr]
    rfl
theorem mapM_at {α β:Type}{f:α→Option β}:∀ {l:List α} {ys:List β},l.mapM f=some ys→ys.length=l.length∧∀ (i:Nat) x,l[i]? =some x→∃ y,ys[i]? =some y∧f x=some y
 |[],ys,h=>by simp at h;subst h;simp
 |x::xs,ys,h=>by
  rw [List.mapM_cons] at h
  cases hf:f x with
  |none=>rw [hf] at h;cases h
  |some y =>
   rw [hf] at h
   cases hr:xs.mapM f with
   |none=>simp [hr] at h
   |some r =>
    simp [hr] at h
    subst h
    obtain ⟨h1,h2⟩:=mapM_at hr
    refine ⟨by simp [h1],fun i z hz=> ?_⟩
    cases i with
    |zero=>simp at hz;subst hz;exact ⟨y,rfl,hf⟩
    |succ i=>simpa using h2 i z (by simpa using hz)
theorem Kept.cells {w w' :World}(h:Kept w w'){base:Nat}{a:Addr}{n:Nat}{cs:List Value}(hc:w.cells? base a n=some cs):w'.cells? base a n=some cs:=by
 unfold World.cells? at hc ⊢
 split at hc
 ·rename_i hb
  rw [if_pos hb]
  exact mapM_same (fun x y _ _ hx=>h.cell hx) hc
 ·cases hc
section
variable {H:Type} {enc:TypeId×Value→H} {P:Program} {w:World} {base:Nat} {spare:Nat→Bool} {held:Bool}
theorem trod_bool {t:TypeId}{fuel:Nat}{cs:List Value}{x:DataW H×List MemPlace}(hu:P.underlying t=some .bool)(h:DataW.trod enc P w base spare held (fuel+1) t cs=some x):∃ b,cs=[.bool b]∧x=(.lit (.bool b),[]):=by
 unfold DataW.trod at h
 rw [hu] at h
 match cs,h with
 |[],h=>cases h
 |[v],h=>cases v<;>first|(simp at h;exact ⟨_,rfl,h.symm⟩)|(cases h;done)
 |v::_::_,h=>cases v<;>first|(cases h;done)|(simp at h;done)|(split at h<;>cases h)
theorem trod_int {t:TypeId}{k:IntKind}{fuel:Nat}{cs:List Value}{x:DataW H×List MemPlace}(hu:P.underlying t=some (.int k))(h:DataW.trod enc P w base spare held (fuel+1) t cs=some x):∃ n,cs=[.int k n]∧(Lit.int k n).wf=true∧x=(.lit (.int k n),[]):=by
 unfold DataW.trod at h
 rw [hu] at h
 match cs,h with
 |[],h=>cases h
 |[v],h =>
  cases v<;>try (cases h;done)
  rename_i k' n
  simp only at h
  split at h
  ·rename_i hc
   obtain ⟨rfl,hw⟩:=hc
   cases h
   exact ⟨n,rfl,hw,rfl⟩
  ·cases h
 |v::_::_,h=>cases v<;>first|(cases h;done)|(simp at h;done)|(split at h<;>cases h)
theorem trod_str {t:TypeId}{fuel:Nat}{cs:List Value}{x:DataW H×List MemPlace}(hu:P.underlying t=some .string)(h:DataW.trod enc P w base spare held (fuel+1) t cs=some x):∃ s:ByteArray,cs=[.string s]∧s.size≤maxLen∧x=(.lit (.string s.data.toList),[]):=by
 unfold DataW.trod at h
 rw [hu] at h
 match cs,h with
 |[],h=>cases h
 |[v],h =>
  cases v<;>try (cases h;done)
  rename_i s
  simp only at h
  split at h
  ·rename_i hc
   cases h
   exact ⟨s,rfl,hc,rfl⟩
  ·cases h
 |v::_::_,h=>cases v<;>first|(cases h;done)|(simp at h;done)|(split at h<;>cases h)
theorem trod_slice {t e:TypeId}{fuel:Nat}{cs:List Value}{x:DataW H×List MemPlace}(hu:P.underlying t=some (.slice e))(h:DataW.trod enc P w base spare held (fuel+1) t cs=some x) :
  (cs=[.slice none 0 0]∧x=(.nil,[]))∨∃ a len cap,cs=[.slice (some a) len cap]∧base≤a.block∧len≤cap∧cap≤maxLen ∧
   (∃ elems,((List.range len).mapM fun i=>(w.cells? base (a.add (i * P.cellsOf e)) (P.cellsOf e)).bind (DataW.trod enc P w base spare held fuel e))=some elems) ∧
   (spare a.block=true→∃ rest,((List.range (cap - len)).mapM fun j=>(w.cells? base (a.add ((len+j) * P.cellsOf e)) (P.cellsOf e)).bind (DataW.trod enc P w base spare held fuel e))=some rest):=by
 unfold DataW.trod at h
 rw [hu] at h
 match cs,h with
 |[],h=>cases h
 |[v],h =>
  cases v<;>try (cases h;done)
  rename_i o len cap
  cases o with
  |none =>
   cases len with
   |zero =>
    cases cap with
    |zero=>simp at h;exact Or.inl ⟨rfl,h.symm⟩
    |succ c=>cases h
   |succ n=>cases h
  |some a =>
   simp only at h
   split at h
   ·rename_i hc
    refine Or.inr ⟨a,len,cap,rfl,hc.1,hc.2.1,hc.2.2,?_⟩
    cases hm:(List.range len).mapM fun i=>(w.cells? base (a.add (i * P.cellsOf e)) (P.cellsOf e)).bind (DataW.trod enc P w base spare held fuel e) with
    |none=>rw [hm] at h;cases h
    |some elems =>
     refine ⟨⟨elems,rfl⟩,fun hs=> ?_⟩
     rw [hm] at h
     simp only [Option.bind_some,hs,if_true] at h
     cases hr:(List.range (cap - len)).mapM fun j=>(w.cells? base (a.add ((len+j) * P.cellsOf e)) (P.cellsOf e)).bind (DataW.trod enc P w base spare held fuel e) with
     |none=>rw [hr] at h;cases h
     |some rest=>exact ⟨rest,rfl⟩
   ·cases h
 |v::_::_,h=>cases v<;>first|(cases h;done)|(simp at h;done)|(split at h<;>cases h)
theorem trod_array {t e:TypeId}{m:Nat}{fuel:Nat}{cs:List Value}{x:DataW H×List MemPlace}(hu:P.underlying t=some (.array m e))(h:DataW.trod enc P w base spare held (fuel+1) t cs=some x) :
  cs.length=P.cellsOf t∧∃ xs,((List.range m).mapM fun i=>DataW.trod enc P w base spare held fuel e ((cs.drop (i * P.cellsOf e)).take (P.cellsOf e)))=some xs∧x=(.agg (xs.map (·.1)),xs.flatMap (·.2)):=by
 unfold DataW.trod at h
 rw [hu] at h
 simp only at h
 split at h
 ·rename_i hlen
  simp only [Option.map_eq_some_iff] at h
  obtain ⟨xs,h1,h2⟩:=h
  exact ⟨hlen,xs,h1,h2.symm⟩
 ·cases h
theorem trod_struct {t:TypeId}{fs:Array Field}{fuel:Nat}{cs:List Value}{x:DataW H×List MemPlace}(hu:P.underlying t=some (.struct fs))(h:DataW.trod enc P w base spare held (fuel+1) t cs=some x) :
  cs.length=P.cellsOf t∧∃ xs,(fs.toList.mapM fun f=>DataW.trod enc P w base spare held fuel f.type ((cs.drop f.offset).take (P.cellsOf f.type)))=some xs∧x=(.agg (xs.map (·.1)),xs.flatMap (·.2)):=by
 unfold DataW.trod at h
 rw [hu] at h
 simp only at h
 split at h
 ·rename_i hl
  cases hm:fs.toList.mapM fun f=>DataW.trod enc P w base spare held fuel f.type ((cs.drop f.offset).take (P.cellsOf f.type)) with
  |none=>rw [hm] at h;cases h
  |some xs =>
   rw [hm] at h
   simp at h
   exact ⟨hl,xs,rfl,h.symm⟩
 ·cases h
abbrev Cells (w:World)(ds:List Data)(cs:List Value):Prop:=VRs (G0 w) I0 N0 w (ds.map .d) cs
theorem Cells.append {ds es:List Data}{cs fs:List Value}(h:Cells w ds cs)(k:Cells w es fs):Cells w (ds++es) (cs++fs):=by
 unfold Cells at *
 rw [List.map_append]
 exact VRs_append h k
theorem G0_imm {b o:Nat}{v:Value}(h:w.cell? (ad b o)=some v):Imm (G0 w) b o:=by
 have:b<w.heap.size:=by
  rcases Nat.lt_or_ge b w.heap.size with h' |h'
  ·exact h'
  ·unfold World.cell? at h
   simp [Array.getElem?_eq_none h'] at h
 simp [Imm,G0,this]
theorem read_lay (hspare:∀ b,spare b=true):∀ (n:Nat) (t:TypeId) (l:List CT),Lay P n t l=true→∀ (fuel:Nat) (cs:List Value) (x:DataW H×List MemPlace),DataW.trod enc P w base spare held fuel t cs=some x→∃ ds,FitsL l ds∧Cells w ds cs:=by
 intro n
 induction n with
 |zero=>intro t l h;simp [Lay] at h
 |succ n ih =>
  intro t l hL fuel cs x h
  cases fuel with
  |zero=>simp [DataW.trod] at h
  |succ fuel =>
   unfold Lay at hL
   split at hL
   ·rename_i hu
    split at hL
    ·obtain ⟨b,rfl,_⟩:=trod_bool hu h
     exact ⟨[.bool b],by simp [FitsL,Fits],by simp [Cells,VRs,VR,DR]⟩
    ·cases hL
   ·rename_i k hu
    split at hL
    ·rename_i k'
     have:k=k' :=by simpa using hL
     subst this
     obtain ⟨m,rfl,hw,_⟩:=trod_int hu h
     exact ⟨[.int k m],by simp only [FitsL,Fits];exact ⟨_,_,rfl,⟨m,rfl,hw⟩,rfl⟩,by simp [Cells,VRs,VR,DR]⟩
    ·cases hL
   ·rename_i hu
    split at hL
    ·obtain ⟨s,rfl,hs,_⟩:=trod_str hu h
     refine ⟨[.str s.data.toList],?_,by simp [Cells,VRs,VR,DR]⟩
     simp only [FitsL,Fits]
     exact ⟨_,_,rfl,⟨_,rfl,by simpa using hs⟩,rfl⟩
    ·cases hL
   ·rename_i e hu
    split at hL
    ·rename_i le
     simp only [Bool.and_eq_true,beq_iff_eq,decide_eq_true_eq] at hL
     obtain ⟨⟨hLe,hce⟩,hpos⟩:=hL
     rcases trod_slice hu h with ⟨rfl,_⟩|⟨a,len,cap,rfl,hb,hlc,hcm,⟨elems,hel⟩,hrest⟩
     ·refine ⟨[.slice 0 []],?_,by simp [Cells,VRs,VR,DR]⟩
      simp only [FitsL,Fits]
      exact ⟨_,_,rfl,⟨[],rfl,by simp,by simp⟩,rfl⟩
     ·
      obtain ⟨hl1,hl2⟩:=mapM_at hel
      have rows:∀ m,m≤len→∃ rows:List (List Data),rows.length=m∧(∀ r,r ∈ rows→FitsL le r)∧(∀ (j:Nat) d,rows.flatten[j]? =some d→∃ v,w.cell? (a.add j)=some v∧DR (G0 w) w d v):=by
       intro m
       induction m with
       |zero=>intro _;exact ⟨[],rfl,by simp,by simp⟩
       |succ m ihm =>
        intro hm
        obtain ⟨rows,r1,r2,r3⟩:=ihm (by omega)
        obtain ⟨y,_,hy⟩:=hl2 m m (List.getElem?_range (by omega))
        cases hcell:w.cells? base (a.add (m * P.cellsOf e)) (P.cellsOf e) with
        |none=>rw [hcell] at hy;cases hy
        |some ces =>
         rw [hcell] at hy
         simp only [Option.bind_some] at hy
         obtain ⟨ds,f1,f2⟩:=ih e le hLe fuel ces y hy
         have hds:ds.length=le.length:=FitsL.length _ _ f1
         have hflat:rows.flatten.length=m * le.length:=by
          rw [List.length_flatten]
          have:∀ q,q ∈ rows.map List.length→q=le.length:=by
           intro q hq
           obtain ⟨r,hr,rfl⟩:=List.mem_map.1 hq
           exact FitsL.length _ _ (r2 r hr)
          have hrep:rows.map List.length=List.replicate m le.length:=by
           rw [List.eq_replicate_iff]
           exact ⟨by simp [r1],this⟩
          rw [hrep]
          simp
         refine ⟨rows++[ds],by simp [r1],?_,?_⟩
         ·intro r hr
          rw [List.mem_append] at hr
          rcases hr with hr|hr
          ·exact r2 r hr
          ·simp at hr;subst hr;exact f1
         ·intro j d hj
          rw [List.flatten_append] at hj
          simp only [List.flatten_cons,List.flatten_nil,List.append_nil] at hj
          by_cases hjl:j<rows.flatten.length
          ·rw [List.getElem?_append_left hjl] at hj
           exact r3 j d hj
          ·rw [List.getElem?_append_right (by omega)] at hj
           have hjd:=lt_of_getElem? hj
           unfold World.cells? at hcell
           split at hcell
           ·obtain ⟨c1,c2⟩:=mapM_at hcell
            obtain ⟨v,v1,v2⟩:=c2 (j - rows.flatten.length) (j - rows.flatten.length) (List.getElem?_range (by rw [hce,← hds];exact hjd))
            have hadd:(a.add (m * P.cellsOf e)).add (j - rows.flatten.length)=a.add j:=by
             rw [← addr_add]
             congr 1
             rw [hce,← hflat];omega
            rw [hadd] at v2
            obtain ⟨v',w1,w2⟩:=VRs.get _ _ f2 (j - rows.flatten.length) (.d d) (by rw [List.getElem?_map,hj];rfl)
            rw [v1] at w1
            cases w1
            exact ⟨v,v2,by simpa [VR] using w2⟩
           ·cases hcell
      obtain ⟨rows,r1,r2,r3⟩:=rows len (Nat.le_refl _)
      refine ⟨[.slice rows.length rows.flatten],?_,?_⟩
      ·simp only [FitsL,Fits]
       exact ⟨_,_,rfl,⟨rows,rfl,by omega,r2⟩,rfl⟩
      ·simp only [Cells,List.map_cons,List.map_nil,VRs,VR]
       refine ⟨_,_,rfl,?_,rfl⟩
       simp only [DR]
       by_cases hcap:cap=0
       ·refine Or.inl ⟨Or.inr ⟨a,?_⟩,by omega,?_⟩
        ·have:len=0:=by omega
         rw [hcap,this]
        ·have:rows=[]:=List.length_eq_zero_iff.1 (by omega)
         rw [this];rfl
       ·
        have hfirst:∃ ces,w.cells? base (a.add 0) (P.cellsOf e)=some ces:=by
         by_cases hl0:len=0
         ·obtain ⟨rest,hr⟩:=hrest (hspare _)
          obtain ⟨_,c2⟩:=mapM_at hr
          obtain ⟨y,_,hy⟩:=c2 0 0 (by rw [List.getElem?_range (by omega)])
          rw [hl0] at hy
          simp only [Nat.zero_add,Nat.zero_mul] at hy
          cases hcc:w.cells? base (a.add 0) (P.cellsOf e) with
          |none=>rw [hcc] at hy;cases hy
          |some ces=>exact ⟨ces,rfl⟩
         ·obtain ⟨y,_,hy⟩:=hl2 0 0 (by rw [List.getElem?_range (by omega)])
          simp only [Nat.zero_mul] at hy
          cases hcc:w.cells? base (a.add 0) (P.cellsOf e) with
          |none=>rw [hcc] at hy;cases hy
          |some ces=>exact ⟨ces,rfl⟩
        obtain ⟨ces,hces⟩:=hfirst
        have hcell:∃ v,w.cell? a=some v:=by
         unfold World.cells? at hces
         split at hces
         ·obtain ⟨_,c2⟩:=mapM_at hces
          obtain ⟨v,_,hv⟩:=c2 0 0 (by rw [List.getElem?_range (by omega)])
          exact ⟨v,by simpa [Addr.add] using hv⟩
         ·cases hces
        obtain ⟨v,hv⟩:=hcell
        have ha:a=ad a.block a.off:=by
         obtain ⟨b,o,sp⟩:=a
         cases sp with
         |none=>rfl
         |some q =>
          exfalso
          unfold World.cell? at hv
          simp at hv
          split at hv<;>cases hv
        refine Or.inr ⟨a.block,a.off,cap,by rw [← ha,r1],by omega,DRs_of _ _ fun i d hi=> ?_⟩
        obtain ⟨u,u1,u2⟩:=r3 i d hi
        rw [ha,add_ad] at u1
        exact ⟨G0_imm u1,u,u1,u2⟩
    ·cases hL
   ·rename_i fs hu
    simp only [Bool.and_eq_true,beq_iff_eq] at hL
    obtain ⟨hlen,xs,hxs,_⟩:=trod_struct hu h
    have fields:∀ (fl:List Field) (o:Nat) (l:List CT) (ys:List (DataW H×List MemPlace)),LayF P (Lay P n) fl o l=true→(fl.mapM fun f=>DataW.trod enc P w base spare held fuel f.type ((cs.drop f.offset).take (P.cellsOf f.type)))=some ys→(cs.drop o).length=l.length →
      ∃ ds,FitsL l ds∧Cells w ds (cs.drop o):=by
     intro fl
     induction fl with
     |nil =>
      intro o l ys hl _ hlen
      have:l=[]:=by simpa [LayF] using hl
      subst this
      have:cs.drop o=[]:=List.length_eq_zero_iff.1 (by simpa using hlen)
      rw [this]
      exact ⟨[],by simp [FitsL],by simp [Cells,VRs]⟩
     |cons f fl ihf =>
      intro o l ys hl hm hlen
      simp only [LayF,Bool.and_eq_true,beq_iff_eq,decide_eq_true_eq] at hl
      obtain ⟨⟨⟨ho,hle⟩,hlay⟩,hrest⟩:=hl
      rw [List.mapM_cons] at hm
      cases hf:DataW.trod enc P w base spare held fuel f.type ((cs.drop f.offset).take (P.cellsOf f.type)) with
      |none=>rw [hf] at hm;cases hm
      |some y =>
       rw [hf] at hm
       cases hr:fl.mapM fun f=>DataW.trod enc P w base spare held fuel f.type ((cs.drop f.offset).take (P.cellsOf f.type)) with
       |none=>simp [hr] at hm
       |some r =>
        rw [ho] at hf
        obtain ⟨d1,a1,a2⟩:=ih f.type _ hlay fuel _ y hf
        obtain ⟨d2,b1,b2⟩:=ihf (o+P.cellsOf f.type) (l.drop (P.cellsOf f.type)) r hrest hr (by simp at hlen ⊢;omega)
        refine ⟨d1++d2,?_,?_⟩
        ·rw [← List.take_append_drop (P.cellsOf f.type) l]
         exact FitsL_append a1 b1
        ·have:cs.drop o=(cs.drop o).take (P.cellsOf f.type)++cs.drop (o+P.cellsOf f.type):=by
          rw [← List.drop_drop,List.take_append_drop]
         rw [this]
         exact a2.append b2
    have:=fields fs.toList 0 l xs hL.2 hxs (by simp [hlen,hL.1])
    simpa using this
   ·rename_i m e hu
    simp only [Bool.and_eq_true,beq_iff_eq] at hL
    obtain ⟨hlen,xs,hxs,_⟩:=trod_array hu h
    obtain ⟨_,hat⟩:=mapM_at hxs
    have elems:∀ (q k:Nat) (l:List CT),k+q=m→LayA (Lay P n e) (P.cellsOf e) q l=true→(cs.drop (k * P.cellsOf e)).length=l.length→∃ ds,FitsL l ds∧Cells w ds (cs.drop (k * P.cellsOf e)):=by
     intro q
     induction q with
     |zero =>
      intro k l _ hl hlen
      have:l=[]:=by simpa [LayA] using hl
      subst this
      have:cs.drop (k * P.cellsOf e)=[]:=List.length_eq_zero_iff.1 (by simpa using hlen)
      rw [this]
      exact ⟨[],by simp [FitsL],by simp [Cells,VRs]⟩
     |succ q ihq =>
      intro k l hkq hl hlen
      simp only [LayA,Bool.and_eq_true,decide_eq_true_eq] at hl
      obtain ⟨⟨hle,hlay⟩,hrest⟩:=hl
      obtain ⟨y,_,hy⟩:=hat k k (by rw [List.getElem?_range (by omega)])
      obtain ⟨d1,a1,a2⟩:=ih e _ hlay fuel _ y hy
      obtain ⟨d2,b1,b2⟩:=ihq (k+1) (l.drop (P.cellsOf e)) (by omega) hrest (by rw [Nat.succ_mul];simp at hlen ⊢;omega)
      refine ⟨d1++d2,?_,?_⟩
      ·rw [← List.take_append_drop (P.cellsOf e) l]
       exact FitsL_append a1 b1
      ·have:cs.drop (k * P.cellsOf e)=(cs.drop (k * P.cellsOf e)).take (P.cellsOf e)++cs.drop ((k+1) * P.cellsOf e):=by
        rw [Nat.succ_mul,← List.drop_drop,List.take_append_drop]
       rw [this]
       exact a2.append b2
    have:=elems m 0 l (by omega) hL.2 (by simp [hlen,hL.1])
    simpa using this
   ·cases hL
theorem trod_kept {w' :World}(hK:Kept w w'){sp:Nat→Bool}:∀ (n:Nat) (t:TypeId) (l:List CT),Lay P n t l=true→∀ (fuel:Nat) (cs:List Value) (x:DataW H×List MemPlace),(∀ p,p ∈ x.2→sp p.block=true) →
  DataW.trod enc P w base (fun _=>true) held fuel t cs=some x→DataW.trod enc P w' base sp held fuel t cs=some x:=by
 intro n
 induction n with
 |zero=>intro t l h;simp [Lay] at h
 |succ n ih =>
  intro t l hL fuel cs x hsp h
  cases fuel with
  |zero=>simp [DataW.trod] at h
  |succ fuel =>
   unfold Lay at hL
   split at hL
   ·rename_i hu
    obtain ⟨b,rfl,rfl⟩:=trod_bool hu h
    simp [DataW.trod,hu]
   ·rename_i k hu
    obtain ⟨m,rfl,hw,rfl⟩:=trod_int hu h
    simp [DataW.trod,hu,hw]
   ·rename_i hu
    obtain ⟨s,rfl,hs,rfl⟩:=trod_str hu h
    simp [DataW.trod,hu,hs]
   ·rename_i e hu
    split at hL
    ·rename_i le
     simp only [Bool.and_eq_true,beq_iff_eq,decide_eq_true_eq] at hL
     obtain ⟨⟨hLe,hce⟩,hpos⟩:=hL
     have hel:∀ (a:Addr) (y:DataW H×List MemPlace),(∀ p,p ∈ y.2→sp p.block=true)→(w.cells? base a (P.cellsOf e)).bind (DataW.trod enc P w base (fun _=>true) held fuel e)=some y→(w'.cells? base a (P.cellsOf e)).bind (DataW.trod enc P w' base sp held fuel e)=some y:=by
      intro a y hy1 hy
      cases hc:w.cells? base a (P.cellsOf e) with
      |none=>rw [hc] at hy;cases hy
      |some ces =>
       rw [hc] at hy
       rw [hK.cells hc]
       exact ih e le hLe fuel ces y hy1 hy
     rcases trod_slice hu h with ⟨rfl,rfl⟩|⟨a,len,cap,rfl,hb,hlc,hcm,⟨elems,hel1⟩,hrest⟩
     ·simp [DataW.trod,hu]
     ·obtain ⟨rest,hr⟩:=hrest rfl
      have hx:x=(.slice (elems.map (·.1)) (rest.map (·.1)),MemPlace.row a ((elems.length+rest.length) * P.cellsOf e)++(elems++rest).flatMap (·.2)):=by
       unfold DataW.trod at h
       rw [hu] at h
       simp only at h
       rw [if_pos ⟨hb,hlc,hcm⟩,hel1] at h
       simp only [Option.bind_some,if_true] at h
       rw [hr] at h
       simp only [Option.map_some,Option.some.injEq] at h
       exact h.symm
      subst hx
      have hin:∀ y,y ∈ elems++rest→∀ p,p ∈ y.2→sp p.block=true:=by
       intro y hy p hp
       refine hsp p (List.mem_append_right _ (List.mem_flatMap.2 ⟨y,hy,hp⟩))
      have hblk:cap - len=0∨sp a.block=true:=by
       by_cases hc0:cap=0
       ·exact Or.inl (by omega)
       ·right
        have h1:=(mapM_at hel1).1
        have h2:=(mapM_at hr).1
        simp only [List.length_range] at h1 h2
        have:0<(elems.length+rest.length) * P.cellsOf e:=by
         rw [h1,h2,hce]
         exact Nat.mul_pos (by omega) hpos
        refine hsp (.cell a.block (a.off+0)) (List.mem_append_left _ ?_)
        unfold MemPlace.row
        exact List.mem_map.2 ⟨0,List.mem_range.2 this,rfl⟩
      unfold DataW.trod
      rw [hu]
      simp only
      rw [if_pos ⟨hb,hlc,hcm⟩,mapM_same (fun i y _ hy' hy=>hel _ y (hin y (by simp [hy'])) hy) hel1]
      simp only [Option.bind_some]
      have hr' :=mapM_same (g:=fun j=>(w'.cells? base (a.add ((len+j) * P.cellsOf e)) (P.cellsOf e)).bind (DataW.trod enc P w' base sp held fuel e)) (fun i y _ hy' hy=>hel _ y (hin y (by simp [hy'])) hy) hr
      rcases hblk with hc|hc
      ·have hrl:rest=[]:=by
        have h2:=(mapM_at hr).1
        rw [hc] at h2
        exact List.length_eq_zero_iff.1 (by simpa using h2)
       subst hrl
       split
       ·rw [hr'];rfl
       ·rfl
      ·rw [if_pos hc,hr']
       rfl
    ·cases hL
   ·rename_i fs hu
    simp only [Bool.and_eq_true,beq_iff_eq] at hL
    obtain ⟨hlen,xs,hxs,rfl⟩:=trod_struct hu h
    have fields:∀ (fl:List Field) (o:Nat) (l:List CT),LayF P (Lay P n) fl o l=true→∀ f,f ∈ fl→∃ l',Lay P n f.type l' =true:=by
     intro fl
     induction fl with
     |nil=>intro o l _ f hf;cases hf
     |cons g fl ihf =>
      intro o l hl f hf
      simp only [LayF,Bool.and_eq_true] at hl
      rcases List.mem_cons.1 hf with rfl|hf
      ·exact ⟨_,hl.1.2⟩
      ·exact ihf _ _ hl.2 f hf
    have:=mapM_same (g:=fun f=>DataW.trod enc P w' base sp held fuel f.type ((cs.drop f.offset).take (P.cellsOf f.type))) (fun f y hf hy' hy=>by
     obtain ⟨l',hl'⟩:=fields _ _ _ hL.2 f hf
     exact ih f.type l' hl' fuel _ y (fun p hp=>hsp p (List.mem_flatMap.2 ⟨y,hy',hp⟩)) hy) hxs
    unfold DataW.trod
    rw [hu]
    simp only
    rw [if_pos hlen,this]
    rfl
   ·rename_i m e hu
    simp only [Bool.and_eq_true,beq_iff_eq] at hL
    obtain ⟨hlen,xs,hxs,rfl⟩:=trod_array hu h
    have hlay:m=0∨∃ l',Lay P n e l' =true:=by
     cases m with
     |zero=>exact Or.inl rfl
     |succ m =>
      have h2:=hL.2
      simp only [LayA,Bool.and_eq_true] at h2
      exact Or.inr ⟨_,h2.1.2⟩
    have:=mapM_same (g:=fun i=>DataW.trod enc P w' base sp held fuel e ((cs.drop (i * P.cellsOf e)).take (P.cellsOf e))) (fun i y hi hy' hy=>by
     rcases hlay with h0|⟨l',hl'⟩
     ·subst h0;simp at hi
     ·exact ih e l' hl' fuel _ y (fun p hp=>hsp p (List.mem_flatMap.2 ⟨y,hy',hp⟩)) hy) hxs
    unfold DataW.trod
    rw [hu]
    simp only
    rw [if_pos hlen,this]
    rfl
   ·cases hL
end
def isStr (P:Program)(t:TypeId):Bool:=match P.underlying t with
 |some (.struct _)=>true
 |_=>false
def asArg (agg:Bool)(ds:List Data):AVal:=if agg then .agg (ds.map .d) else .d (ds.headD .nilptr)
def ArgsFit (P:Program):List TypeId→List (List CT)→List AVal→Prop
 |[],_,as=>as=[]
 |t::ts,ls,as=>∃ ds r,as=asArg (isStr P t) ds::r∧FitsL (ls.headD []) ds∧ArgsFit P ts ls.tail r
def isArr (P:Program)(t:TypeId):Bool:=match P.underlying t with
 |some (.array _ _)=>true
 |_=>false
def LayAll (P:Program):List TypeId→List (List CT)→Bool
 |[],_=>true
 |t::ts,ls=>(Lay P 20 t (ls.headD [])&& !isArr P t)&&LayAll P ts ls.tail
section
variable {H:Type} {enc:TypeId×Value→H} {P:Program} {w:World} {held:Bool}
theorem not_agg {t:TypeId}{r:Reach}{b0:Nat}{v:Value}(hval:Value.okWide P w r b0 t v){td:TypeDesc}(hu:P.underlying t=some td)(htd:td= .bool∨(∃ k,td= .int k)∨td= .string∨∃ e,td= .slice e):∀ cs,v≠ .agg cs:=by
 rintro cs rfl
 rcases htd with rfl|⟨k,rfl⟩|rfl|⟨e,rfl⟩<;>simp [Value.okWide,hu,Cell.okWide,Cell.ok] at hval
theorem cells_one {v u:Value}(hv:∀ cs,v≠ .agg cs)(h:v.cells.toList=[u]):u=v:=by
 cases v<;>simp only [Value.cells] at h<;>first|(simp at h;exact h.symm)|exact absurd rfl (hv _)
theorem arg_of {t:TypeId}{l:List CT}(hL:Lay P 20 t l=true)(hna:isArr P t=false){r:Reach}{b0:Nat}{v:Value}(hval:Value.okWide P w r b0 t v){d:DataW H}{ps:List MemPlace}(h:DataW.Trod enc P w 0 (fun _=>true) held t v d ps) :
  ∃ ds,FitsL l ds∧VR (G0 w) I0 N0 w .none (asArg (isStr P t) ds) v:=by
 obtain ⟨fuel,h⟩:=h
 obtain ⟨ds,h1,h2⟩:=read_lay (fun _=>rfl) 20 t l hL fuel _ _ h
 refine ⟨ds,h1,?_⟩
 unfold isStr asArg
 split
 ·rename_i fs hu
  unfold Value.okWide at hval
  rw [hu] at hval
  obtain ⟨cs,rfl,_,_⟩:=hval
  simp only [if_true,VR]
  exact ⟨cs,rfl,by simpa [Value.cells] using h2⟩
 ·rename_i hns
  simp only [Bool.false_eq_true,if_false]
  cases fuel with
  |zero=>simp [DataW.trod] at h
  |succ fuel =>
   have one:∀ u,v.cells.toList=[u]→u=v→VR (G0 w) I0 N0 w .none (.d (ds.headD .nilptr)) v:=by
    rintro u hu rfl
    rw [hu] at h2
    cases ds with
    |nil=>simp [Cells,VRs] at h2
    |cons d0 r =>
     simp only [Cells,List.map_cons,VRs] at h2
     obtain ⟨x,xs,e1,e2,_⟩:=h2
     cases e1
     exact e2
   unfold Lay at hL
   split at hL
   ·rename_i hu
    obtain ⟨b,hb,_⟩:=trod_bool hu h
    exact one _ hb (cells_one (not_agg hval hu (Or.inl rfl)) hb)
   ·rename_i k hu
    obtain ⟨m,hb,_⟩:=trod_int hu h
    exact one _ hb (cells_one (not_agg hval hu (Or.inr (Or.inl ⟨k,rfl⟩))) hb)
   ·rename_i hu
    obtain ⟨s,hb,_⟩:=trod_str hu h
    exact one _ hb (cells_one (not_agg hval hu (Or.inr (Or.inr (Or.inl rfl)))) hb)
   ·rename_i e hu
    rcases trod_slice hu h with ⟨hb,_⟩|⟨a,len,cap,hb,_⟩
    ·exact one _ hb (cells_one (not_agg hval hu (Or.inr (Or.inr (Or.inr ⟨e,rfl⟩)))) hb)
    ·exact one _ hb (cells_one (not_agg hval hu (Or.inr (Or.inr (Or.inr ⟨e,rfl⟩)))) hb)
   ·rename_i fs hu
    exact absurd hu (hns fs)
   ·rename_i m e hu
    simp [isArr,hu] at hna
   ·cases hL
theorem args_of {r:Reach}{b0:Nat}:∀ (ts:List TypeId) (ls:List (List CT)) (vs:List Value) (ds:List (DataW H)) (ps:List MemPlace),LayAll P ts ls=true→(∀ (j:Nat) t v,ts[j]? =some t→vs[j]? =some v→Value.okWide P w r b0 t v) →
  DataW.TrodAll enc P w 0 (fun _=>true) held ts vs ds ps →
  (∃ as,ArgsFit P ts ls as∧VRs (G0 w) I0 N0 w as vs)∧∀ w',Kept w w' →∀ sp:Nat→Bool,(∀ p,p ∈ ps→sp p.block=true)→DataW.TrodAll enc P w' 0 sp held ts vs ds ps
 |[],ls,vs,ds,ps,_,_,h=>by
  obtain ⟨rfl,rfl,rfl⟩:=Go.ChangeShapes.trodAll_nil h
  exact ⟨⟨[],by simp [ArgsFit],by simp [VRs]⟩,fun _ _ _ _=>rfl⟩
 |t::ts,ls,vs,ds,ps,hL,hval,h=>by
  simp only [LayAll,Bool.and_eq_true,Bool.not_eq_true'] at hL
  obtain ⟨v,vs1,d,ds1,a,b,rfl,rfl,rfl,h1,h2⟩:=Go.ChangeShapes.trodAll_cons h
  obtain ⟨⟨as,g1,g2⟩,g3⟩:=args_of ts ls.tail vs1 ds1 b hL.2 (fun j t' v' ht hv=>hval (j+1) t' v' (by simpa using ht) (by simpa using hv)) h2
  obtain ⟨dd,e1,e2⟩:=arg_of hL.1.1 hL.1.2 (hval 0 t v rfl rfl) h1
  refine ⟨⟨asArg (isStr P t) dd::as,?_,?_⟩,fun w' hK sp hsp=> ?_⟩
  ·simp only [ArgsFit]
   exact ⟨dd,as,rfl,e1,g1⟩
  ·simp only [VRs]
   exact ⟨v,vs1,rfl,e2,g2⟩
  ·obtain ⟨fuel,hf⟩:=h1
   exact ⟨a,b,⟨fuel,trod_kept hK 20 t _ hL.1.1 fuel _ _ (fun p hp=>hsp p (by simp at hp;simp [hp])) hf⟩,g3 w' hK sp (fun p hp=>hsp p (by simp [hp])),rfl⟩
end
end Go.Abs
namespace Go.Abs
open Go.ChangeShapes Go.WideShapes Go.ChangeAt Go.RowKit
theorem law_row {H:Type}{enc:TypeId×Value→H}{P:Program}{A:Prog}(hok:ProgOK P A){fid:FuncId}{f:Func}{s:ChangeSpec}(hvars:s.vars=[]){tb:TypeId}(hrt:f.resultTypes= #[tb])(htb:P.underlying tb=some .bool)
  {ls:List (List CT)} (hlay:LayAll P f.params.toList ls=true) {W:World} {base:Nat} {args:Array Value} {ds gs:List (DataW H)} {before:List MemPlace} {r:Reach}
  (hfn:s.fn H ds={ results:=[.lit (.bool true)],args:=ds })
  (hval:∀ (j:Nat) t v,f.params[j]? =some t→args[j]? =some v→Value.okWide P W r base t v) (hW:DataW.Whole enc P f.params.toList s.vars false W args.toList ds gs before)
  (hwalk:∀ as,ArgsFit P f.params.toList ls as→∃ n,call A n fid as [] lim0=some (.d (.bool true),[])) :
  Calls P fid args W fun e W' =>∃ v,e= .returned v∧s.post enc P f false true false false W args v W' :=by
 have hW' :=hW
 obtain ⟨p,q,hA,hV,rfl,hfz,hnd⟩:=hW
 rw [hvars] at hV
 obtain ⟨rfl,rfl⟩:=trodVars_none hV
 obtain ⟨⟨as,a1,a2⟩,a3⟩:=args_of f.params.toList ls args.toList ds p hlay (fun j t v ht hv=>hval j t v (by simpa using ht) (by simpa using hv)) hA
 obtain ⟨n,hn⟩:=hwalk as a1
 refine (law_calls hok hn a2).mono ?_
 rintro e W' ⟨rfl,hK⟩
 have hfn' :s.fn H (ds++[])={ results:=[.lit (.bool true)],args:=ds }:=by rw [List.append_nil];exact hfn
 refine ⟨_,rfl,post_kept (pa:=p) (pv:=[]) hW' hK (fun b sp hd=> ?_) (fun sp hsp=> ?_) (fun sp _=> ?_) rfl (fun j t v ht hv=> ?_)⟩
 ·rw [hfn',hrt]
  exact trodAll_cons_mk (shut_bool htb _) trodAll_mk0
 ·rw [hfn']
  exact a3 W' hK sp (fun p' hp=>hsp p' (by simpa using hp))
 ·rw [hfn',hvars]
  rfl
 ·rw [hrt] at ht hv
  cases j with
  |zero =>
   simp at ht
   simp [Value.resultList] at hv
   subst ht
   subst hv
   exact okWide_bool_mk htb _
  |succ j=>simp at ht
end Go.Abs
namespace Go.Abs
def EnvN (A:Prog)(n:Nat)(l:Lim)(b:Nat):Env:=⟨call A n,A.prom,A.mode,A.idle,l,b⟩
def Ex (A:Prog)(l:Lim)(b:Nat)(c:ACode)(st:St)(Q:AExit→St→Prop):Prop :=
 ∃ x s N,Q x s∧∀ n,N≤n→exec (EnvN A n l b) n c st=some (x,s)
def Rn (A:Prog)(l:Lim)(b:Nat)(ops:List AIns)(draw:Bool)(T:List AVal)(H:Heap)(Q:List AVal→Heap→List AVal→Prop):Prop :=
 ∃ r N,Q r.T r.H r.L∧∀ n,N≤n→runRegion (EnvN A n l b) ops draw T H=some r
section
variable {A:Prog} {l:Lim} {b:Nat}
theorem Ex.mono {c:ACode}{st:St}{Q R:AExit→St→Prop}(h:Ex A l b c st Q)(k:∀ x s,Q x s→R x s):Ex A l b c st R:=by
 obtain ⟨x,s,N,hq,h⟩:=h
 exact ⟨x,s,N,k x s hq,h⟩
theorem Ex.skip {st:St}{Q:AExit→St→Prop}(h:Q .normal st):Ex A l b .skip st Q:=⟨_,_,0,h,fun _ _=>rfl⟩
theorem Ex.exit {id:Nat}{st:St}{Q:AExit→St→Prop}(h:Q (.exit id) st):Ex A l b (.exit id) st Q:=⟨_,_,0,h,fun _ _=>rfl⟩
theorem Ex.ret {st:St}{Q:AExit→St→Prop}(h:Q .ret st):Ex A l b .ret st Q:=⟨_,_,0,h,fun _ _=>rfl⟩
theorem Ex.region {ops:List AIns}{draw:Bool}{T:List AVal}{H:Heap}{Q:AExit→St→Prop}(h:Rn A l b ops draw T H fun T' H' _=>Q .normal ⟨T',H'⟩):Ex A l b (.region ops draw) ⟨T,H⟩ Q:=by
 obtain ⟨r,N,hq,h⟩:=h
 refine ⟨_,_,N,hq,fun n hn=> ?_⟩
 simp only [exec,h n hn]
def goOn (Q:AExit→St→Prop)(go:St→Prop):AExit→St→Prop
 | .normal,s=>go s
 | .exit i,s=>Q (.exit i) s
 | .ret,s=>Q .ret s
theorem Ex.seq {c d:ACode}{st:St}{Q:AExit→St→Prop}(h:Ex A l b c st (goOn Q fun s=>Ex A l b d s Q)):Ex A l b (.seq c d) st Q:=by
 obtain ⟨x,s,N,hq,h⟩:=h
 cases x with
 |normal =>
  obtain ⟨x2,s2,N2,hq2,h2⟩:=hq
  refine ⟨x2,s2,max N N2,hq2,fun n hn=> ?_⟩
  simp only [exec,h n (by omega)]
  exact h2 n (by omega)
 |exit i=>exact ⟨_,_,N,hq,fun n hn=>by simp only [exec,h n hn]⟩
 |ret=>exact ⟨_,_,N,hq,fun n hn=>by simp only [exec,h n hn]⟩
theorem Ex.seq_assoc {c d e:ACode}{st:St}{Q:AExit→St→Prop}(h:Ex A l b (.seq c (.seq d e)) st Q):Ex A l b (.seq (.seq c d) e) st Q:=by
 obtain ⟨x,s,N,hq,h⟩:=h
 refine ⟨x,s,N,hq,fun n hn=> ?_⟩
 rw [← h n hn]
 simp only [exec]
 split<;>rename_i h1<;>split at h1<;>simp_all
def unBlock (id:Nat)(Q:AExit→St→Prop):AExit→St→Prop
 | .exit i,s=>if i=id then Q .normal s else Q (.exit i) s
 | .normal,s=>Q .normal s
 | .ret,s=>Q .ret s
theorem Ex.block {id:Nat}{c:ACode}{st:St}{Q:AExit→St→Prop}(h:Ex A l b c st (unBlock id Q)):Ex A l b (.block id c) st Q:=by
 obtain ⟨x,s,N,hq,h⟩:=h
 cases x with
 |normal=>exact ⟨_,_,N,hq,fun n hn=>by simp only [exec,h n hn]⟩
 |ret=>exact ⟨_,_,N,hq,fun n hn=>by simp only [exec,h n hn]⟩
 |exit i =>
  simp only [unBlock] at hq
  split at hq
  ·rename_i hi
   exact ⟨_,_,N,hq,fun n hn=>by simp only [exec,h n hn];rw [if_pos hi]⟩
  ·rename_i hi
   exact ⟨_,_,N,hq,fun n hn=>by simp only [exec,h n hn];rw [if_neg hi]⟩
theorem Ex.test {ops:List AIns}{draw:Bool}{c:Opd}{d e:ACode}{T:List AVal}{H:Heap}{Q:AExit→St→Prop}
  (h:Rn A l b ops draw T H fun T' H' L=>∃ t,rho T' L c= .d (.bool t)∧(t=true→Ex A l b d ⟨T',H'⟩ Q)∧(t=false→Ex A l b e ⟨T',H'⟩ Q)):Ex A l b (.test ops draw c d e) ⟨T,H⟩ Q:=by
 obtain ⟨r,N,⟨t,h1,h2,h3⟩,h⟩:=h
 cases t with
 |true =>
  obtain ⟨x,s,N2,hq,k⟩:=h2 rfl
  exact ⟨x,s,max N N2,hq,fun n hn=>by simp only [exec,h n (by omega),h1];exact k n (by omega)⟩
 |false =>
  obtain ⟨x,s,N2,hq,k⟩:=h3 rfl
  exact ⟨x,s,max N N2,hq,fun n hn=>by simp only [exec,h n (by omega),h1];exact k n (by omega)⟩
theorem Ex.cond {c:Opd}{d e:ACode}{st:St}{t:Bool}{Q:AExit→St→Prop}(h1:rho st.T [] c= .d (.bool t))
  (h2:t=true→Ex A l b d st Q) (h3:t=false→Ex A l b e st Q):Ex A l b (.cond c d e) st Q:=by
 cases t with
 |true =>
  obtain ⟨x,s,N2,hq,k⟩:=h2 rfl
  exact ⟨x,s,N2,hq,fun n hn=>by simp only [exec,h1];exact k n hn⟩
 |false =>
  obtain ⟨x,s,N2,hq,k⟩:=h3 rfl
  exact ⟨x,s,N2,hq,fun n hn=>by simp only [exec,h1];exact k n hn⟩
theorem Ex.loop {mask:List Bool}{body:ACode}{st:St}{Q:AExit→St→Prop}(Inv:Nat→St→Prop)
  (hb:∀ k s,Inv k s→Ex A l b body (clean mask l.strict st.H.length s) (goOn Q fun s' =>∃ k',k' <k∧Inv k' s')) {k:Nat} (h:Inv k st):Ex A l b (.loop mask body) st Q:=by
 have main:∀ k s,Inv k s→∃ x s2 N,Q x s2∧∀ n,N≤n→∀ j,N≤j→loopN (exec (EnvN A n l b) n body) mask l.strict st.H.length j s=some (x,s2):=by
  intro k
  induction k using Nat.strongRecOn with
  |_ k ih =>
   intro s hs
   obtain ⟨x,s1,N,hq,h1⟩:=hb k s hs
   cases x with
   |normal =>
    obtain ⟨k',hk,hi⟩:=hq
    obtain ⟨x,s2,N2,hq2,h2⟩:=ih k' hk s1 hi
    refine ⟨x,s2,max N N2+1,hq2,fun n hn j hj=> ?_⟩
    obtain ⟨j,rfl⟩:∃ j',j=j' +1:=⟨j - 1,by omega⟩
    simp only [loopN,h1 n (by omega)]
    exact h2 n (by omega) j (by omega)
   |exit i =>
    refine ⟨_,_,N+1,hq,fun n hn j hj=> ?_⟩
    obtain ⟨j,rfl⟩:∃ j',j=j' +1:=⟨j - 1,by omega⟩
    simp only [loopN,h1 n (by omega)]
   |ret =>
    refine ⟨_,_,N+1,hq,fun n hn j hj=> ?_⟩
    obtain ⟨j,rfl⟩:∃ j',j=j' +1:=⟨j - 1,by omega⟩
    simp only [loopN,h1 n (by omega)]
 obtain ⟨x,s2,N,hq,h⟩:=main k st h
 exact ⟨x,s2,N,hq,fun n hn=>by simp only [exec];exact h n hn n hn⟩
theorem clean_nil (mask:List Bool)(strict n:Nat)(T:List AVal):clean mask strict n ⟨T,[]⟩=⟨maskT mask T,[]⟩:=by
 simp [clean]
def Pf (A:Prog)(f:FuncId)(args:List AVal)(v:AVal):Prop :=
 ∃ N,∀ n,N≤n→call A n f args [] lim0=some (v,[])
theorem Pf.of_ex {f:FuncId}{af:AFunc}{args:List AVal}{v:AVal}(T:List AVal)(hp:A.prim f=none)(hf:A.fn f=some af)(hn:args.length=af.nparams)
  (hT:args++List.replicate (af.names.length - args.length) .any=T) (h:Ex A lim0 0 af.body ⟨T,[]⟩ fun x s=>finRun af 0 (some (x,s))=some (v,[])):Pf A f args v:=by
 subst hT
 obtain ⟨x,s,N,hq,h⟩:=h
 refine ⟨N+1,fun n hn' => ?_⟩
 obtain ⟨n,rfl⟩:∃ j,n=j+1:=⟨n - 1,by omega⟩
 rw [call_fn hp hf,callBody_fin hn]
 have:=h n (by omega)
 simp only [EnvN] at this
 simp only [List.length_nil]
 rw [this,hq]
theorem closeN_zero (H:Heap)(strict k:Nat):closeN H strict k 0=0:=by
 cases k<;>simp [closeN]
theorem callEff_plain {E:Env}{k:Nat}{f:FuncId}{args:List AVal}{st:RSt}{v:AVal}(hpr:E.prom f=false)(hm:E.mode f=1)(hb:bndL args=0)
  (hc:E.cf f args [] lim0=some (v,[])):callEff E k f args st=some (put st k v):=by
 simp only [callEff,hpr,hm,hb,closeN_zero]
 have h0:strictOf st.H E.lim.strict 0=0:=by simp [strictOf]
 have h1:E.cf f args [] ⟨0,0,0,0⟩=some (v,[]):=hc
 simp [h0,h1,bndO]
def drawsPlain (ops:List AIns):Bool:=ops.all fun i=> !i.op.isAlloc&&i.unord.all fun e=>decide (e<ops.length)
end
end Go.Abs
namespace Go.Abs
theorem wrap_small {n:Int}(h: -9223372036854775808≤n)(h2:n<9223372036854775808):IntKind.wrap .i64 n=n:=by
 simp only [IntKind.wrap,IntKind.signed,IntKind.bits]
 simp
 split<;>omega
section
variable {A:Prog} {l:Lim} {b:Nat}
def AOp.rdr:AOp→Bool
 | .load _ _=>true
 | .lookup .. =>true
 | .lenM _=>true
 |_=>false
def bndU:List AIns→Nat
 |[]=>0
 |i::is=>max (if i.op.rdr then (i.unord.map (·+1)).foldl max 0 else 0) (bndU is)
theorem pure_reads {ρ:Opd→AVal}{H:Heap}{op:AOp}{v:AVal}{rs:List Nat}(h:pureOp ρ H op=some (v,rs))(hr:op.rdr=false):rs=[]:=by
 cases op<;>simp only [AOp.rdr,Bool.true_eq_false] at hr<;>simp only [pureOp] at h<;>repeat' split at h
 all_goals first
  |(cases h;done)
  |(simp only [Option.some.injEq,Prod.mk.injEq] at h;exact h.2.symm)
  |contradiction
theorem step_reads {E:Env}{ais:List AIns}{nid:Option Nat}{k:Nat}{i:AIns}{st st' :RSt}{rs:List Nat}(h:stepA E ais nid k i st=some (st',rs))(hr:i.op.rdr=false):rs=[]:=by
 simp only [stepA] at h
 split at h
 ·split at h
  ·rename_i st1 rs1 h1
   split at h
   ·simp only [Option.some.injEq,Prod.mk.injEq] at h
    obtain ⟨_,rfl⟩:=h
    simp only [stepW] at h1
    split at h1
    ·split at h1
     ·simp only [Option.some.injEq,Prod.mk.injEq] at h1
      exact h1.2.symm
     ·cases h1
    ·split at h1
     ·simp only [Option.some.injEq,Prod.mk.injEq] at h1
      exact h1.2.symm
     ·split at h1
      ·rename_i h2
       simp only [Option.some.injEq,Prod.mk.injEq] at h1
       obtain ⟨_,rfl⟩:=h1
       exact pure_reads h2 hr
      ·cases h1
   ·cases h
  ·cases h
 ·split at h
  ·simp only [Option.some.injEq,Prod.mk.injEq] at h
   exact h.2.symm
  ·cases h
 ·cases h
theorem foldl_max_le:∀ (l:List Nat) (a:Nat),a≤l.foldl max a
 |[],_=>Nat.le_refl _
 |x::l,a=>Nat.le_trans (Nat.le_max_left a x) (foldl_max_le l (max a x))
theorem foldl_max_mem:∀ (l:List Nat) (a x:Nat),x ∈ l→x≤l.foldl max a
 |y::l,a,x,h=>by
  rcases List.mem_cons.1 h with rfl|h
  ·exact Nat.le_trans (Nat.le_max_right a x) (foldl_max_le l _)
  ·exact foldl_max_mem l _ x h
theorem bndU_mem:∀ {ais:List AIns} {i:AIns} {e:Nat},i ∈ ais→i.op.rdr=true→e ∈ i.unord→e<bndU ais
 |j::ais,i,e,h,hr,he=>by
  simp only [bndU]
  rcases List.mem_cons.1 h with rfl|h
  ·have:=foldl_max_mem (i.unord.map (·+1)) 0 (e+1) (List.mem_map.2 ⟨e,he,rfl⟩)
   rw [hr,if_pos rfl]
   omega
  ·have:=bndU_mem h hr he
   omega
def Rx (A:Prog)(l:Lim)(b:Nat)(dr:Bool)(ais ops:List AIns)(T:List AVal)(H:Heap)(pre:List AVal)(tch:List Touch)(Q:List AVal→Heap→List AVal→Prop):Prop :=
 ∃ r N,Q r.T r.H r.L∧∀ n,N≤n→if dr=true then ∀ na,∃ lg:List LogE,runOpsD (EnvN A n l b) ais ops pre.length na ⟨T,H,pre++List.replicate ops.length .any,tch⟩=some (r,lg)∧lg.length=ops.length∧∀ k e,lg[k]? =some e→(pre.length+k<bndU ais→∀ rs,hitsObj e.hits rs=false)∧∀ i,ops[k]? =some i→i.op.rdr=false→e.reads=[]
  else runOps (EnvN A n l b) ais ops pre.length ⟨T,H,pre++List.replicate ops.length .any,tch⟩=some r
variable {dr:Bool} {ais ops:List AIns} {T:List AVal} {H:Heap} {pre:List AVal} {tch:List Touch} {Q:List AVal→Heap→List AVal→Prop}
theorem Rx.nil (h:Q T H pre):Rx A l b dr ais [] T H pre tch Q:=by
 refine ⟨⟨T,H,pre,tch⟩,0,h,fun n _=> ?_⟩
 cases dr<;>simp [runOps,runOpsD]
theorem Rx.stepH {i:AIns}{T' pre' :List AVal}{H' :Heap}{v:AVal}{tch' :List Touch}{rs:List Nat}{N1:Nat}(hl:pre'.length=pre.length)
  (hk:killing ⟨T,H,pre++ .any::List.replicate ops.length .any,tch⟩ i.op=false) (ha:i.op.isAlloc=false)
  (h:∀ n,N1≤n→stepA (EnvN A n l b) ais none pre.length i ⟨T,H,pre++ .any::List.replicate ops.length .any,tch⟩=some (⟨T',H',pre' ++v::List.replicate ops.length .any,tch'⟩,rs))
  (ht:pre.length<bndU ais→∀ rs,hitsObj (tch'.take (tch'.length - tch.length)) rs=false) (h2:Rx A l b dr ais ops T' H' (pre' ++[v]) tch' Q):Rx A l b dr ais (i::ops) T H pre tch Q:=by
 obtain ⟨r,N,hq,h2⟩:=h2
 refine ⟨r,max N N1,hq,fun n hn=> ?_⟩
 have h3:=h2 n (by omega)
 have h4:=h n (by omega)
 simp only [List.append_assoc,List.cons_append,List.nil_append,List.length_append,List.length_cons,List.length_nil,hl] at h3
 cases dr with
 |false =>
  simp only [Bool.false_eq_true,if_false,List.length_cons,List.replicate_succ] at h3 ⊢
  simp only [runOps,h4]
  exact h3
 |true =>
  simp only [if_true,List.length_cons,List.replicate_succ] at h3 ⊢
  intro na
  obtain ⟨lg,e1,e2,e3⟩:=h3 na
  refine ⟨logOf (EnvN A n l b) i none ⟨T,H,pre++ .any::List.replicate ops.length .any,tch⟩ ⟨T',H',pre' ++v::List.replicate ops.length .any,tch'⟩ rs::lg,?_,by simp [e2],?_⟩
  ·simp only [runOpsD,stepD,hk,ha,Bool.false_and,Bool.false_eq_true,if_false,h4,e1]
  ·intro k e he
   cases k with
   |zero =>
    simp only [List.getElem?_cons_zero,Option.some.injEq] at he
    subst he
    refine ⟨fun hb=>by simpa [logOf,newHit] using ht (by omega),fun i' hi' hr=> ?_⟩
    simp only [List.getElem?_cons_zero,Option.some.injEq] at hi'
    subst hi'
    exact step_reads h4 hr
   |succ k =>
    simp only [List.getElem?_cons_succ] at he
    refine ⟨fun hb=>(e3 k e he).1 (by omega),fun i' hi' hr=> ?_⟩
    simp only [List.getElem?_cons_succ] at hi'
    exact (e3 k e he).2 i' hi' hr
theorem Rx.stepG {i:AIns}{T' pre' :List AVal}{H' :Heap}{v:AVal}{tch' :List Touch}{rs:List Nat}{N1:Nat}(hl:pre'.length=pre.length)
  (hk:killing ⟨T,H,pre++ .any::List.replicate ops.length .any,tch⟩ i.op=false) (ha:i.op.isAlloc=false)
  (h:∀ n,N1≤n→stepA (EnvN A n l b) ais none pre.length i ⟨T,H,pre++ .any::List.replicate ops.length .any,tch⟩=some (⟨T',H',pre' ++v::List.replicate ops.length .any,tch'⟩,rs))
  (ht:∀ rs,hitsObj (tch'.take (tch'.length - tch.length)) rs=false) (h2:Rx A l b dr ais ops T' H' (pre' ++[v]) tch' Q):Rx A l b dr ais (i::ops) T H pre tch Q :=
 Rx.stepH hl hk ha h (fun _=>ht) h2
theorem Rx.step {i:AIns}{T' :List AVal}{H' :Heap}{v:AVal}{tch' :List Touch}{rs:List Nat}{N1:Nat}(hk:killing ⟨T,H,pre++ .any::List.replicate ops.length .any,tch⟩ i.op=false)(ha:i.op.isAlloc=false)
  (h:∀ n,N1≤n→stepA (EnvN A n l b) ais none pre.length i ⟨T,H,pre++ .any::List.replicate ops.length .any,tch⟩=some (⟨T',H',pre++v::List.replicate ops.length .any,tch'⟩,rs))
  (ht:∀ rs,hitsObj (tch'.take (tch'.length - tch.length)) rs=false) (h2:Rx A l b dr ais ops T' H' (pre++[v]) tch' Q):Rx A l b dr ais (i::ops) T H pre tch Q :=
 Rx.stepG rfl hk ha h ht h2
def opv (T pre:List AVal):Opd→Option AVal
 | .slot s=>T[s]?
 | .loc j=>pre[j]?
 | .const v=>some v
def Op (T pre:List AVal)(x:Opd)(v:AVal):Prop:=opv T pre x=some v∧v.asD=v
theorem Op.rho {x:Opd}{v:AVal}(h:Op T pre x v)(m:Nat):rho T (pre++ .any::List.replicate m .any) x=v:=by
 obtain ⟨h1,h2⟩:=h
 cases x with
 |slot s=>simp only [opv] at h1;simp [Abs.rho,h1,h2]
 |loc j =>
  simp only [opv] at h1
  have:j<pre.length:=by
   rcases Nat.lt_or_ge j pre.length with hj|hj
   ·exact hj
   ·rw [List.getElem?_eq_none hj] at h1;cases h1
  simp [Abs.rho,List.getElem?_append_left this,h1,h2]
 |const u=>simp only [opv,Option.some.injEq] at h1;subst h1;simp [Abs.rho,cst_of h2]
theorem set_mid (pre:List AVal)(a v:AVal)(r:List AVal):(pre++a::r).set pre.length v=pre++v::r:=by
 simp
theorem take_same {α:Type}(t:List α):t.take (t.length - t.length)=[]:=by simp
theorem Rx.pure {op:AOp}{u:List Nat}{v:AVal}{rs:List Nat}(hE:op.isEff=false)(hp:∀ m,pureOp (Abs.rho T (pre++ .any::List.replicate m .any)) H op=some (v,rs))
  (h2:Rx A l b dr ais ops T H (pre++[v]) tch Q):Rx A l b dr ais (⟨op,none,none,u⟩::ops) T H pre tch Q:=by
 have hm:∀ x,op≠ .mov x:=by
  rintro x rfl
  have:=hp 0
  simp [pureOp] at this
 refine Rx.step (N1:=0) (rs:=rs) ?_ ?_ ?_ ?_ h2
 ·cases op<;>first|rfl|(simp [AOp.isEff] at hE)
 ·cases op<;>first|rfl|(simp [AOp.isEff] at hE)|skip
  have:=hp 0
  rename_i ob
  cases ob
  ·rfl
  ·simp [pureOp] at this
 ·intro n _
  have h3:stepW (EnvN A n l b) ais none pre.length op ⟨T,H,pre++ .any::List.replicate ops.length .any,tch⟩=some (⟨T,H,pre++v::List.replicate ops.length .any,tch⟩,rs):=by
   have h4:=hp ops.length
   cases op<;>first
    |exact absurd rfl (hm _)
    |(simp only [stepW,hE,Bool.false_eq_true,if_false,h4,put,set_mid];done)
    |(simp [AOp.isEff] at hE;done)
  simp only [stepA,wantedA,h3,toSlotX,toSlot]
 ·intro rs;simp [hitsObj]
theorem Op.xfer {x:Opd}{v:AVal}(h:Op T pre x v)(m:Nat):Abs.xfer ⟨T,H,pre++ .any::List.replicate m .any,tch⟩ x=(v,⟨T,H,pre++ .any::List.replicate m .any,tch⟩):=by
 have hr:=h.rho m
 cases x with
 |slot s=>simp only [Abs.xfer,hr]
 |loc j =>
  obtain ⟨h1,h2⟩:=h
  simp only [opv] at h1
  have hj:j<pre.length:=by
   rcases Nat.lt_or_ge j pre.length with hj|hj
   ·exact hj
   ·rw [List.getElem?_eq_none hj] at h1;cases h1
  simp only [Abs.xfer,List.getElem?_append_left hj,h1]
  split
  ·rename_i heq
   cases heq
   simp [AVal.asD] at h2
  ·rename_i heq
   cases heq
   simp [AVal.asD] at h2
  ·rw [hr]
 |const u =>
  obtain ⟨h1,h2⟩:=h
  simp only [opv,Option.some.injEq] at h1
  subst h1
  rfl
theorem Rx.mov {x:Opd}{u:List Nat}{v:AVal}(hx:Op T pre x v)(h2:Rx A l b dr ais ops T H (pre++[v]) tch Q):Rx A l b dr ais (⟨.mov x,none,none,u⟩::ops) T H pre tch Q:=by
 refine Rx.step (N1:=0) (rs:=[]) rfl rfl (fun n _=> ?_) (fun rs=>by simp [hitsObj]) h2
 simp only [stepA,wantedA,stepW,AOp.isEff,Bool.false_eq_true,if_false,hx.xfer,put,set_mid,toSlotX,toSlot]
theorem Rx.movTo {x:Opd}{u:List Nat}{v:AVal}{s:Nat}(hx:Op T pre x v)(hs:T[s]?.isSome=true)(h2:Rx A l b dr ais ops (T.set s v) H (pre++[v]) (.slot s::tch) Q) :
  Rx A l b dr ais (⟨.mov x,some s,none,u⟩::ops) T H pre tch Q:=by
 refine Rx.step (N1:=0) (rs:=[]) rfl rfl (fun n _=> ?_) (fun rs=> ?_) h2
 ·have hv:=hx.2
  have hs:s<T.length:=by
   rcases Nat.lt_or_ge s T.length with h|h
   ·exact h
   ·rw [List.getElem?_eq_none h] at hs;cases hs
  simp only [stepA,wantedA,stepW,AOp.isEff,Bool.false_eq_true,if_false,hx.xfer,put,set_mid,toSlotX,toSlot,hs,if_true]
  have h3:Abs.xfer ⟨T,H,pre++v::List.replicate ops.length .any,tch⟩ (.loc pre.length)=(v,⟨T,H,pre++v::List.replicate ops.length .any,tch⟩):=by
   simp only [Abs.xfer,List.getElem?_append_right (Nat.le_refl _),Nat.sub_self,List.getElem?_cons_zero]
   split
   ·rename_i heq
    cases heq
    simp [AVal.asD] at hv
   ·rename_i heq
    cases heq
    simp [AVal.asD] at hv
   ·simp [Abs.rho,hv]
  rw [h3]
 ·have:(tch.length+1) - tch.length=1:=by omega
  simp [hitsObj,this,Touch.objHit]
theorem Rx.movOwn {s:Nat}{u:List Nat}{z n:Nat}{cs:List Data}(hx:T[s]? =some (.own z n cs))(h2:Rx A l b dr ais ops T H (pre++[.d (.slice n cs)]) tch Q):Rx A l b dr ais (⟨.mov (.slot s),none,none,u⟩::ops) T H pre tch Q:=by
 refine Rx.step (N1:=0) (rs:=[]) rfl rfl (fun n _=> ?_) (fun rs=>by simp [hitsObj]) h2
 simp only [stepA,wantedA,stepW,AOp.isEff,Bool.false_eq_true,if_false,Abs.xfer,put,set_mid,toSlotX,toSlot]
 simp [Abs.rho,hx,AVal.asD]
theorem slot_hits (s:Nat)(tch:List Touch)(rs:List Nat):hitsObj ((Touch.slot s::tch).take ((Touch.slot s::tch).length - tch.length)) rs=false:=by
 have:(tch.length+1) - tch.length=1:=by omega
 simp [hitsObj,this,Touch.objHit]
theorem Rx.append {j s sz bytes:Nat}{y:Opd}{u u' :List Nat}{d' :Option Nat}{g' :Option (Nat×Bool)}{n' len m:Nat}{cs' cells new:List Data}{vy:AVal}{cs:List AVal}
  (hj:pre[j]? =some (.d (.slice n' cs'))) (ha:ais[j]? =some ⟨.mov (.slot s),d',g',u'⟩) (ht:tch.any (Touch.slotHit s)=false) (hT:T[s]? =some (.own sz len cells))
  (hy:∀ m,Abs.rho T (pre++ .any::List.replicate m .any) y=vy) (hc:sliceCells H sz vy=some (m,cs)) (hd:datas? cs=some new) (hr:roomFor (len+m) bytes=true) (h0:0<sz)
  (h2:Rx A l b dr ais ops (T.set s (.d (.slice len cells))) H (pre++[.own sz (len+m) (cells++new)]) (.slot s::tch) Q):Rx A l b dr ais (⟨.append sz bytes false (.loc j) y,none,none,u⟩::ops) T H pre tch Q:=by
 have hjl:j<pre.length:=by
  rcases Nat.lt_or_ge j pre.length with hj' |hj'
  ·exact hj'
  ·rw [List.getElem?_eq_none hj'] at hj;cases hj
 have hL:∀ r:List AVal,(pre++ .any::r)[j]? =some (.d (.slice n' cs')):=fun r=>by rw [List.getElem?_append_left hjl,hj]
 have hrho:Abs.rho T (pre++ .any::List.replicate ops.length .any) (.loc j)= .d (.slice n' cs'):=by simp [Abs.rho,hL,AVal.asD]
 refine Rx.step (N1:=0) (rs:=[]) (by simp only [killing,hrho]) rfl (fun n _=> ?_) (slot_hits s tch) h2
 simp only [stepA,wantedA,stepW,AOp.isEff,if_true,effOp,hrho,appendOwn,hy,hc,hd,Bool.false_eq_true,if_false,takeOwn,hL,ha,takeVia,ht,hT,hr,h0,and_self,put,set_mid,toSlotX,toSlot]
theorem Rx.movOwnTo {j s:Nat}{u:List Nat}{z n0:Nat}{cs:List Data}(hj:pre[j]? =some (.own z n0 cs))(hs:T[s]?.isSome=true)
  (h2:Rx A l b dr ais ops (T.set s (.own z n0 cs)) H (pre.set j (.d (.slice n0 cs))++[.d (.slice n0 cs)]) (.slot s::tch) Q):Rx A l b dr ais (⟨.mov (.loc j),some s,none,u⟩::ops) T H pre tch Q:=by
 have hjl:j<pre.length:=by
  rcases Nat.lt_or_ge j pre.length with hj' |hj'
  ·exact hj'
  ·rw [List.getElem?_eq_none hj'] at hj;cases hj
 have hs:s<T.length:=by
  rcases Nat.lt_or_ge s T.length with h|h
  ·exact h
  ·rw [List.getElem?_eq_none h] at hs;cases hs
 refine Rx.stepG (N1:=0) (rs:=[]) (by simp) rfl rfl (fun n _=> ?_) (slot_hits s tch) h2
 have hL:∀ r:List AVal,(pre++ .any::r)[j]? =some (.own z n0 cs):=fun r=>by rw [List.getElem?_append_left hjl,hj]
 have h3:∀ (a:AVal) (r:List AVal),(pre++a::r).set j (.d (.slice n0 cs))=pre.set j (.d (.slice n0 cs))++a::r:=fun a r=>List.set_append_left _ _ hjl
 have hl:(pre.set j (.d (.slice n0 cs))).length=pre.length:=by simp
 have h4:∀ (a v:AVal) (r:List AVal),(pre.set j (.d (.slice n0 cs))++a::r).set pre.length v=pre.set j (.d (.slice n0 cs))++v::r:=fun a v r=>by rw [← hl];exact set_mid _ _ _ _
 have h5:∀ (v:AVal) (r:List AVal),(pre.set j (.d (.slice n0 cs))++v::r)[pre.length]? =some v:=fun v r=>by rw [← hl];simp
 simp only [stepA,wantedA,stepW,AOp.isEff,Bool.false_eq_true,if_false,Abs.xfer,hL,h3,put,h4,toSlotX,toSlot,hs,if_true,h5]
theorem Rn.of_text {T:List AVal}{H:Heap}(h:Rx A l b false ops ops T H [] [] Q):Rn A l b ops false T H Q:=by
 obtain ⟨r,N,hq,h⟩:=h
 exact ⟨r,N,hq,fun n hn=>by simp only [runRegion];simpa using h n hn⟩
theorem Rn.of_draw {T:List AVal}{H:Heap}(hp:drawsPlain ops=true)(h:Rx A l b true ops ops T H [] [] Q):Rn A l b ops true T H Q:=by
 obtain ⟨r,N,hq,h⟩:=h
 refine ⟨r,N,hq,fun n hn=> ?_⟩
 have h1:=h n hn
 simp only [if_true] at h1
 obtain ⟨lg,e1,e2,e3⟩:=h1 H.length
 simp only [drawsPlain,List.all_eq_true,Bool.and_eq_true,Bool.not_eq_true',decide_eq_true_eq] at hp
 have hal:allocsOf ops=[]:=by
  simp only [allocsOf,List.map_eq_nil_iff,List.filter_eq_nil_iff,Bool.not_eq_true]
  exact fun i hi=>(hp i hi).1
 have hsl:slotsOf ops=[]:=by
  simp only [slotsOf,List.filterMap_eq_nil_iff]
  intro i hi
  rw [(hp i hi).1]
  rfl
 have hlog:okLog ops lg=true:=by
  simp only [okLog,List.all_eq_true]
  rintro ⟨i,le⟩ hil e he
  obtain ⟨j,hj,hji⟩:=List.getElem_of_mem hil
  simp only [List.length_zip] at hj
  have hj1:j<ops.length:=by omega
  have hj2:j<lg.length:=by omega
  simp only [List.getElem_zip,Prod.mk.injEq] at hji
  obtain ⟨rfl,rfl⟩:=hji
  have hi:ops[j] ∈ ops:=List.getElem_mem hj1
  have hlt:=(hp _ hi).2 e he
  have this:e<lg.length:=by rw [e2];exact hlt
  rw [List.getElem?_eq_getElem this]
  cases hr:ops[j].op.rdr with
  |true =>
   have h5:=(e3 e _ (List.getElem?_eq_getElem this)).1 (by simpa using bndU_mem hi hr he)
   simp [h5,(hp _ hi).1]
  |false =>
   have h5:=(e3 j _ (List.getElem?_eq_getElem hj2)).2 _ (List.getElem?_eq_getElem hj1) hr
   simp [h5,hitsObj,(hp _ hi).1]
 simp only [List.length_nil,List.nil_append] at e1
 simp only [runRegion,if_true,hal,hsl,List.append_nil,e1,hlog]
theorem Rx.bin {o:BinOp}{x y:Opd}{u:List Nat}{c d r:Data}(hx:Op T pre x (.d c))(hy:Op T pre y (.d d))(hr:binData o c d=some r)(h2:Rx A l b dr ais ops T H (pre++[.d r]) tch Q) :
  Rx A l b dr ais (⟨.bin o x y,none,none,u⟩::ops) T H pre tch Q :=
 Rx.pure (rs:=[]) rfl (fun m=>by simp only [pureOp,hx.rho,hy.rho,hr]) h2
theorem Rx.un {o:UnOp}{x:Opd}{u:List Nat}{c r:Data}(hx:Op T pre x (.d c))(hr:unData o c=some r)(h2:Rx A l b dr ais ops T H (pre++[.d r]) tch Q) :
  Rx A l b dr ais (⟨.un o x,none,none,u⟩::ops) T H pre tch Q :=
 Rx.pure (rs:=[]) rfl (fun m=>by simp only [pureOp,hx.rho,hr]) h2
theorem Rx.len {x:Opd}{u:List Nat}{n:Nat}{cs:List Data}(hx:Op T pre x (.d (.slice n cs)))(h2:Rx A l b dr ais ops T H (pre++[.d (.int .i64 n)]) tch Q) :
  Rx A l b dr ais (⟨.len x,none,none,u⟩::ops) T H pre tch Q :=
 Rx.pure (rs:=[]) rfl (fun m=>by simp only [pureOp,hx.rho,i64]) h2
theorem Rx.lenT {x:Opd}{u:List Nat}{s:List UInt8}(hx:Op T pre x (.d (.str s)))(h2:Rx A l b dr ais ops T H (pre++[.d (.int .i64 s.length)]) tch Q) :
  Rx A l b dr ais (⟨.lenT x,none,none,u⟩::ops) T H pre tch Q :=
 Rx.pure (rs:=[]) rfl (fun m=>by simp only [pureOp,hx.rho,i64]) h2
theorem Rx.idx {sz:Nat}{x y:Opd}{u:List Nat}{n:Nat}{cs ds:List Data}{k:IntKind}{i:Int}(hx:Op T pre x (.d (.slice n cs)))(hy:Op T pre y (.d (.int k i)))(h0:0≤i)(h1:i<n)
  (hd:cs.drop (i.toNat * sz)=ds) (h2:Rx A l b dr ais ops T H (pre++[.iptr ds]) tch Q):Rx A l b dr ais (⟨.idxA sz x y,none,none,u⟩::ops) T H pre tch Q :=
 Rx.pure (rs:=[]) rfl (fun m=>by subst hd;simp [pureOp,hx.rho,hy.rho,h0,h1]) h2
theorem Rx.load {x:Opd}{u:List Nat}{c:Data}{cs:List Data}(hx:Op T pre x (.iptr (c::cs)))(h2:Rx A l b dr ais ops T H (pre++[.d c]) tch Q) :
  Rx A l b dr ais (⟨.load none x,none,none,u⟩::ops) T H pre tch Q :=
 Rx.pure (rs:=[]) rfl (fun m=>by simp only [pureOp,hx.rho]) h2
theorem Rx.loadN {x:Opd}{u:List Nat}{n:Nat}{cs:List Data}{vs:List AVal}(hx:Op T pre x (.iptr cs))(hn:n≤cs.length)(hv:(cs.take n).map .d=vs)(h2:Rx A l b dr ais ops T H (pre++[.agg vs]) tch Q) :
  Rx A l b dr ais (⟨.load (some n) x,none,none,u⟩::ops) T H pre tch Q :=
 Rx.pure (rs:=[]) rfl (fun m=>by subst hv;simp [pureOp,hx.rho,hn]) h2
theorem Rx.off {x:Opd}{u:List Nat}{k:Nat}{cs ds:List Data}(hx:Op T pre x (.iptr cs))(hd:cs.drop k=ds)(h2:Rx A l b dr ais ops T H (pre++[.iptr ds]) tch Q) :
  Rx A l b dr ais (⟨.off k x,none,none,u⟩::ops) T H pre tch Q :=
 Rx.pure (rs:=[]) rfl (fun m=>by subst hd;simp [pureOp,hx.rho]) h2
theorem Rx.extract {x:Opd}{u:List Nat}{i:Nat}{vs:List AVal}{v:AVal}(hx:Op T pre x (.tuple vs))(hv:vs[i]? =some v)(h2:Rx A l b dr ais ops T H (pre++[v]) tch Q) :
  Rx A l b dr ais (⟨.extract x i,none,none,u⟩::ops) T H pre tch Q :=
 Rx.pure (rs:=[]) rfl (fun m=>by simp only [pureOp,hx.rho,hv]) h2
theorem Rx.call {f:FuncId}{xs:List Opd}{u:List Nat}{v:AVal}{args:List AVal}(hpr:A.prom f=false)(hm:A.mode f=1)(ha:∀ m,xs.map (Abs.rho T (pre++ .any::List.replicate m .any))=args)
  (hb:bndL args=0) (hc:Pf A f args v) (h2:Rx A l b dr ais ops T H (pre++[v]) tch Q):Rx A l b dr ais (⟨.call f xs,none,none,u⟩::ops) T H pre tch Q:=by
 obtain ⟨M,hc⟩:=hc
 refine Rx.step (N1:=M) (rs:=[]) rfl rfl (fun n hn=> ?_) (fun rs=>by simp [hitsObj]) h2
 have h3:callEff (EnvN A n l b) pre.length f args ⟨T,H,pre++ .any::List.replicate ops.length .any,tch⟩=some (put ⟨T,H,pre++ .any::List.replicate ops.length .any,tch⟩ pre.length v) :=
  callEff_plain hpr hm hb (hc n hn)
 simp only [stepA,wantedA,stepW,AOp.isEff,if_true,effOp,ha,h3,toSlotX,toSlot,put,set_mid]
theorem bin_i64 {o:BinOp}{c d e:Int}(h:o= .add∧c+d=e∨o= .sub∧c - d=e)(h0: -9223372036854775808≤e)(h1:e<9223372036854775808):binData o (.int .i64 c) (.int .i64 d)=some (.int .i64 e):=by
 rcases h with ⟨rfl,rfl⟩|⟨rfl,rfl⟩<;>simp [binData,isShift,binInt,wrap_small h0 h1]
end
end Go.Abs
namespace Go.Abs
abbrev Str:=List UInt8
def encL {α:Type}(f:α→List Data)(l:List α):Data:= .slice l.length (l.flatMap f)
def num (n:Int):Data:= .int .i64 n
structure Trm where
 op:Int
 kind:Int
 int:Int
 text:Str
 col:Int
def Trm.enc (t:Trm):List Data:=[num t.op,num t.kind,num t.int,.str t.text,num t.col]
structure Col where
 name:Str
 type:Int
 space:Str
 refs:Str
 owners:List Int
 joint:Int
 duty:Int
def Col.enc (c:Col):List Data:=[.str c.name,num c.type,.str c.space,.str c.refs,encL (fun n=>[num n]) c.owners,num c.joint,num c.duty]
structure Tab where
 name:Str
 cols:List Col
 erase:Int
 retain:Int
def Tab.enc (t:Tab):List Data:=[.str t.name,encL Col.enc t.cols,num t.erase,num t.retain]
structure Itm where
 name:Str
 expr:List Trm
def Itm.enc (x:Itm):List Data:=[.str x.name,encL Trm.enc x.expr]
structure Agr where
 name:Str
 func:Int
 expr:List Trm
def Agr.enc (x:Agr):List Data:=[.str x.name,num x.func,encL Trm.enc x.expr]
structure Vw where
 name:Str
 kind:Int
 left:Str
 right:Str
 on:List (Int×Int)
 wh:List Trm
 items:List Itm
 distinct:Bool
 aggs:List Agr
def Vw.enc (v:Vw):List Data:=[.str v.name,num v.kind,.str v.left,.str v.right,encL (fun p=>[num p.1,num p.2]) v.on,encL Trm.enc v.wh,encL Itm.enc v.items,.bool v.distinct,encL Agr.enc v.aggs]
structure Idx where
 name:Str
 source:Str
 col:Int
def Idx.enc (x:Idx):List Data:=[.str x.name,.str x.source,num x.col]
structure Skt where
 name:Str
 source:Str
 col:Int
 kind:Int
 width:Int
 depth:Int
def Skt.enc (x:Skt):List Data:=[.str x.name,.str x.source,num x.col,num x.kind,num x.width,num x.depth]
structure Cch where
 name:Str
 source:Str
 col:Int
 ttl:Int
def Cch.enc (x:Cch):List Data:=[.str x.name,.str x.source,num x.col,num x.ttl]
structure Rls where
 name:Str
 source:Str
 thr:Int
def Rls.enc (x:Rls):List Data:=[.str x.name,.str x.source,num x.thr]
structure Stm where
 name:Str
 table:Str
def Stm.enc (x:Stm):List Data:=[.str x.name,.str x.table]
structure Bkp where
 name:Str
 tables:List Str
 keep:Int
def Bkp.enc (x:Bkp):List Data:=[.str x.name,encL (fun s=>[.str s]) x.tables,num x.keep]
structure Cat where
 tabs:List Tab
 views:List Vw
 idxs:List Idx
 skts:List Skt
 cchs:List Cch
 rlss:List Rls
 stms:List Stm
 bkps:List Bkp
def Cat.enc (c:Cat):List Data:=[encL Tab.enc c.tabs,encL Vw.enc c.views,encL Idx.enc c.idxs,encL Skt.enc c.skts,encL Cch.enc c.cchs,encL Rls.enc c.rlss,encL Stm.enc c.stms,encL Bkp.enc c.bkps]
def ctI:CT:= .int .i64
def ctTrm:List CT:=[ctI,ctI,ctI,.str,ctI]
def ctCol:List CT:=[.str,ctI,.str,.str,.slice [ctI],ctI,ctI]
def ctTab:List CT:=[.str,.slice ctCol,ctI,ctI]
def ctItm:List CT:=[.str,.slice ctTrm]
def ctAgr:List CT:=[.str,ctI,.slice ctTrm]
def ctVw:List CT:=[.str,ctI,.str,.str,.slice [ctI,ctI],.slice ctTrm,.slice ctItm,.bool,.slice ctAgr]
def ctIdx:List CT:=[.str,.str,ctI]
def ctSkt:List CT:=[.str,.str,ctI,ctI,ctI,ctI]
def ctCch:List CT:=[.str,.str,ctI,ctI]
def ctRls:List CT:=[.str,.str,ctI]
def ctStm:List CT:=[.str,.str]
def ctBkp:List CT:=[.str,.slice [.str],ctI]
def ctCat:List CT:=[.slice ctTab,.slice ctVw,.slice ctIdx,.slice ctSkt,.slice ctCch,.slice ctRls,.slice ctStm,.slice ctBkp]
def okI (n:Int):Prop:= -9223372036854775808≤n∧n<9223372036854775808
theorem fits_slice {α:Type}{e:List CT}{enc:α→List Data}{ok:α→Prop}(hr:∀ r,FitsL e r→∃ a,r=enc a∧ok a){d:Data}(h:Fits (.slice e) d) :
  ∃ l:List α,d=encL enc l∧l.length≤maxLen∧∀ a,a ∈ l→ok a:=by
 simp only [Fits] at h
 obtain ⟨rows,rfl,hl,hall⟩:=h
 have:∀ rows:List (List Data),(∀ r,r ∈ rows→FitsL e r)→∃ l:List α,l.length=rows.length∧rows.flatten=l.flatMap enc∧∀ a,a ∈ l→ok a:=by
  intro rows
  induction rows with
  |nil=>intro _;exact ⟨[],rfl,rfl,by simp⟩
  |cons r rs ih =>
   intro h
   obtain ⟨a,ha,hok⟩:=hr r (h r (by simp))
   obtain ⟨l,h1,h2,h3⟩:=ih (fun r hr' =>h r (by simp [hr']))
   refine ⟨a::l,by simp [h1],by simp [h2,ha],?_⟩
   intro b hb
   rcases List.mem_cons.1 hb with rfl|hb
   ·exact hok
   ·exact h3 b hb
 obtain ⟨l,h1,h2,h3⟩:=this rows hall
 exact ⟨l,by rw [encL,h1,h2],by omega,h3⟩
theorem fits_num {d:Data}(h:Fits ctI d):∃ n,d=num n∧okI n:=by
 simp only [ctI,Fits] at h
 obtain ⟨n,rfl,hw⟩:=h
 refine ⟨n,rfl,?_⟩
 simp [Lit.wf] at hw
 have hm:IntKind.i64.min= -9223372036854775808:=rfl
 rw [hm] at hw
 unfold okI
 omega
theorem fits_str {d:Data}(h:Fits .str d):∃ s:Str,d= .str s∧s.length≤maxLen:=by
 simpa only [Fits] using h
theorem fits_bool {d:Data}(h:Fits .bool d):∃ b,d= .bool b:=by
 simpa only [Fits] using h
theorem row_num {r:List Data}(h:FitsL [ctI] r):∃ n,r=[num n]∧okI n:=by
 simp only [FitsL] at h
 obtain ⟨d,_,rfl,h1,rfl⟩:=h
 obtain ⟨n,rfl,hn⟩:=fits_num h1
 exact ⟨n,rfl,hn⟩
theorem row_str {r:List Data}(h:FitsL [.str] r):∃ s:Str,r=[.str s]∧s.length≤maxLen:=by
 simp only [FitsL] at h
 obtain ⟨d,_,rfl,h1,rfl⟩:=h
 obtain ⟨n,rfl,hn⟩:=fits_str h1
 exact ⟨n,rfl,hn⟩
theorem row_pair {r:List Data}(h:FitsL [ctI,ctI] r):∃ p:Int×Int,r=[num p.1,num p.2]∧okI p.1∧okI p.2:=by
 simp only [FitsL] at h
 obtain ⟨d,_,rfl,h1,e,_,rfl,h2,rfl⟩:=h
 obtain ⟨n,rfl,hn⟩:=fits_num h1
 obtain ⟨m,rfl,hm⟩:=fits_num h2
 exact ⟨(n,m),rfl,hn,hm⟩
structure Trm.ok (x:Trm):Prop where
 op:okI x.op
 kind:okI x.kind
 int:okI x.int
 text:x.text.length≤maxLen
 col:okI x.col
theorem row_Trm {r:List Data}(h:FitsL ctTrm r):∃ x:Trm,r=x.enc∧x.ok:=by
 simp only [ctTrm,FitsL] at h
 obtain ⟨d0,_,rfl,h0,d1,_,rfl,h1,d2,_,rfl,h2,d3,_,rfl,h3,d4,_,rfl,h4,rfl⟩:=h
 obtain ⟨v0,rfl,k0⟩:=fits_num h0
 obtain ⟨v1,rfl,k1⟩:=fits_num h1
 obtain ⟨v2,rfl,k2⟩:=fits_num h2
 obtain ⟨v3,rfl,k3⟩:=fits_str h3
 obtain ⟨v4,rfl,k4⟩:=fits_num h4
 exact ⟨⟨v0,v1,v2,v3,v4⟩,rfl,⟨k0,k1,k2,k3,k4⟩⟩
structure Col.ok (x:Col):Prop where
 name:x.name.length≤maxLen
 type:okI x.type
 space:x.space.length≤maxLen
 refs:x.refs.length≤maxLen
 owners:x.owners.length≤maxLen∧∀ a,a ∈ x.owners→okI a
 joint:okI x.joint
 duty:okI x.duty
theorem row_Col {r:List Data}(h:FitsL ctCol r):∃ x:Col,r=x.enc∧x.ok:=by
 simp only [ctCol,FitsL] at h
 obtain ⟨d0,_,rfl,h0,d1,_,rfl,h1,d2,_,rfl,h2,d3,_,rfl,h3,d4,_,rfl,h4,d5,_,rfl,h5,d6,_,rfl,h6,rfl⟩:=h
 obtain ⟨v0,rfl,k0⟩:=fits_str h0
 obtain ⟨v1,rfl,k1⟩:=fits_num h1
 obtain ⟨v2,rfl,k2⟩:=fits_str h2
 obtain ⟨v3,rfl,k3⟩:=fits_str h3
 obtain ⟨v4,rfl,k4⟩:=fits_slice (fun _=>row_num) h4
 obtain ⟨v5,rfl,k5⟩:=fits_num h5
 obtain ⟨v6,rfl,k6⟩:=fits_num h6
 exact ⟨⟨v0,v1,v2,v3,v4,v5,v6⟩,rfl,⟨k0,k1,k2,k3,k4,k5,k6⟩⟩
structure Tab.ok (x:Tab):Prop where
 name:x.name.length≤maxLen
 cols:x.cols.length≤maxLen∧∀ a,a ∈ x.cols→a.ok
 erase:okI x.erase
 retain:okI x.retain
theorem row_Tab {r:List Data}(h:FitsL ctTab r):∃ x:Tab,r=x.enc∧x.ok:=by
 simp only [ctTab,FitsL] at h
 obtain ⟨d0,_,rfl,h0,d1,_,rfl,h1,d2,_,rfl,h2,d3,_,rfl,h3,rfl⟩:=h
 obtain ⟨v0,rfl,k0⟩:=fits_str h0
 obtain ⟨v1,rfl,k1⟩:=fits_slice (fun _=>row_Col) h1
 obtain ⟨v2,rfl,k2⟩:=fits_num h2
 obtain ⟨v3,rfl,k3⟩:=fits_num h3
 exact ⟨⟨v0,v1,v2,v3⟩,rfl,⟨k0,k1,k2,k3⟩⟩
structure Itm.ok (x:Itm):Prop where
 name:x.name.length≤maxLen
 expr:x.expr.length≤maxLen∧∀ a,a ∈ x.expr→a.ok
theorem row_Itm {r:List Data}(h:FitsL ctItm r):∃ x:Itm,r=x.enc∧x.ok:=by
 simp only [ctItm,FitsL] at h
 obtain ⟨d0,_,rfl,h0,d1,_,rfl,h1,rfl⟩:=h
 obtain ⟨v0,rfl,k0⟩:=fits_str h0
 obtain ⟨v1,rfl,k1⟩:=fits_slice (fun _=>row_Trm) h1
 exact ⟨⟨v0,v1⟩,rfl,⟨k0,k1⟩⟩
structure Agr.ok (x:Agr):Prop where
 name:x.name.length≤maxLen
 func:okI x.func
 expr:x.expr.length≤maxLen∧∀ a,a ∈ x.expr→a.ok
theorem row_Agr {r:List Data}(h:FitsL ctAgr r):∃ x:Agr,r=x.enc∧x.ok:=by
 simp only [ctAgr,FitsL] at h
 obtain ⟨d0,_,rfl,h0,d1,_,rfl,h1,d2,_,rfl,h2,rfl⟩:=h
 obtain ⟨v0,rfl,k0⟩:=fits_str h0
 obtain ⟨v1,rfl,k1⟩:=fits_num h1
 obtain ⟨v2,rfl,k2⟩:=fits_slice (fun _=>row_Trm) h2
 exact ⟨⟨v0,v1,v2⟩,rfl,⟨k0,k1,k2⟩⟩
structure Vw.ok (x:Vw):Prop where
 name:x.name.length≤maxLen
 kind:okI x.kind
 left:x.left.length≤maxLen
 right:x.right.length≤maxLen
 on:x.on.length≤maxLen∧∀ a,a ∈ x.on→okI a.1∧okI a.2
 wh:x.wh.length≤maxLen∧∀ a,a ∈ x.wh→a.ok
 items:x.items.length≤maxLen∧∀ a,a ∈ x.items→a.ok
 distinct:True
 aggs:x.aggs.length≤maxLen∧∀ a,a ∈ x.aggs→a.ok
theorem row_Vw {r:List Data}(h:FitsL ctVw r):∃ x:Vw,r=x.enc∧x.ok:=by
 simp only [ctVw,FitsL] at h
 obtain ⟨d0,_,rfl,h0,d1,_,rfl,h1,d2,_,rfl,h2,d3,_,rfl,h3,d4,_,rfl,h4,d5,_,rfl,h5,d6,_,rfl,h6,d7,_,rfl,h7,d8,_,rfl,h8,rfl⟩:=h
 obtain ⟨v0,rfl,k0⟩:=fits_str h0
 obtain ⟨v1,rfl,k1⟩:=fits_num h1
 obtain ⟨v2,rfl,k2⟩:=fits_str h2
 obtain ⟨v3,rfl,k3⟩:=fits_str h3
 obtain ⟨v4,rfl,k4⟩:=fits_slice (fun _=>row_pair) h4
 obtain ⟨v5,rfl,k5⟩:=fits_slice (fun _=>row_Trm) h5
 obtain ⟨v6,rfl,k6⟩:=fits_slice (fun _=>row_Itm) h6
 obtain ⟨v7,rfl⟩:=fits_bool h7
 obtain ⟨v8,rfl,k8⟩:=fits_slice (fun _=>row_Agr) h8
 exact ⟨⟨v0,v1,v2,v3,v4,v5,v6,v7,v8⟩,rfl,⟨k0,k1,k2,k3,k4,k5,k6,trivial,k8⟩⟩
structure Idx.ok (x:Idx):Prop where
 name:x.name.length≤maxLen
 source:x.source.length≤maxLen
 col:okI x.col
theorem row_Idx {r:List Data}(h:FitsL ctIdx r):∃ x:Idx,r=x.enc∧x.ok:=by
 simp only [ctIdx,FitsL] at h
 obtain ⟨d0,_,rfl,h0,d1,_,rfl,h1,d2,_,rfl,h2,rfl⟩:=h
 obtain ⟨v0,rfl,k0⟩:=fits_str h0
 obtain ⟨v1,rfl,k1⟩:=fits_str h1
 obtain ⟨v2,rfl,k2⟩:=fits_num h2
 exact ⟨⟨v0,v1,v2⟩,rfl,⟨k0,k1,k2⟩⟩
structure Skt.ok (x:Skt):Prop where
 name:x.name.length≤maxLen
 source:x.source.length≤maxLen
 col:okI x.col
 kind:okI x.kind
 width:okI x.width
 depth:okI x.depth
theorem row_Skt {r:List Data}(h:FitsL ctSkt r):∃ x:Skt,r=x.enc∧x.ok:=by
 simp only [ctSkt,FitsL] at h
 obtain ⟨d0,_,rfl,h0,d1,_,rfl,h1,d2,_,rfl,h2,d3,_,rfl,h3,d4,_,rfl,h4,d5,_,rfl,h5,rfl⟩:=h
 obtain ⟨v0,rfl,k0⟩:=fits_str h0
 obtain ⟨v1,rfl,k1⟩:=fits_str h1
 obtain ⟨v2,rfl,k2⟩:=fits_num h2
 obtain ⟨v3,rfl,k3⟩:=fits_num h3
 obtain ⟨v4,rfl,k4⟩:=fits_num h4
 obtain ⟨v5,rfl,k5⟩:=fits_num h5
 exact ⟨⟨v0,v1,v2,v3,v4,v5⟩,rfl,⟨k0,k1,k2,k3,k4,k5⟩⟩
structure Cch.ok (x:Cch):Prop where
 name:x.name.length≤maxLen
 source:x.source.length≤maxLen
 col:okI x.col
 ttl:okI x.ttl
theorem row_Cch {r:List Data}(h:FitsL ctCch r):∃ x:Cch,r=x.enc∧x.ok:=by
 simp only [ctCch,FitsL] at h
 obtain ⟨d0,_,rfl,h0,d1,_,rfl,h1,d2,_,rfl,h2,d3,_,rfl,h3,rfl⟩:=h
 obtain ⟨v0,rfl,k0⟩:=fits_str h0
 obtain ⟨v1,rfl,k1⟩:=fits_str h1
 obtain ⟨v2,rfl,k2⟩:=fits_num h2
 obtain ⟨v3,rfl,k3⟩:=fits_num h3
 exact ⟨⟨v0,v1,v2,v3⟩,rfl,⟨k0,k1,k2,k3⟩⟩
structure Rls.ok (x:Rls):Prop where
 name:x.name.length≤maxLen
 source:x.source.length≤maxLen
 thr:okI x.thr
theorem row_Rls {r:List Data}(h:FitsL ctRls r):∃ x:Rls,r=x.enc∧x.ok:=by
 simp only [ctRls,FitsL] at h
 obtain ⟨d0,_,rfl,h0,d1,_,rfl,h1,d2,_,rfl,h2,rfl⟩:=h
 obtain ⟨v0,rfl,k0⟩:=fits_str h0
 obtain ⟨v1,rfl,k1⟩:=fits_str h1
 obtain ⟨v2,rfl,k2⟩:=fits_num h2
 exact ⟨⟨v0,v1,v2⟩,rfl,⟨k0,k1,k2⟩⟩
structure Stm.ok (x:Stm):Prop where
 name:x.name.length≤maxLen
 table:x.table.length≤maxLen
theorem row_Stm {r:List Data}(h:FitsL ctStm r):∃ x:Stm,r=x.enc∧x.ok:=by
 simp only [ctStm,FitsL] at h
 obtain ⟨d0,_,rfl,h0,d1,_,rfl,h1,rfl⟩:=h
 obtain ⟨v0,rfl,k0⟩:=fits_str h0
 obtain ⟨v1,rfl,k1⟩:=fits_str h1
 exact ⟨⟨v0,v1⟩,rfl,⟨k0,k1⟩⟩
structure Bkp.ok (x:Bkp):Prop where
 name:x.name.length≤maxLen
 tables:x.tables.length≤maxLen∧∀ a,a ∈ x.tables→a.length≤maxLen
 keep:okI x.keep
theorem row_Bkp {r:List Data}(h:FitsL ctBkp r):∃ x:Bkp,r=x.enc∧x.ok:=by
 simp only [ctBkp,FitsL] at h
 obtain ⟨d0,_,rfl,h0,d1,_,rfl,h1,d2,_,rfl,h2,rfl⟩:=h
 obtain ⟨v0,rfl,k0⟩:=fits_str h0
 obtain ⟨v1,rfl,k1⟩:=fits_slice (fun _=>row_str) h1
 obtain ⟨v2,rfl,k2⟩:=fits_num h2
 exact ⟨⟨v0,v1,v2⟩,rfl,⟨k0,k1,k2⟩⟩
structure Cat.ok (x:Cat):Prop where
 tabs:x.tabs.length≤maxLen∧∀ a,a ∈ x.tabs→a.ok
 views:x.views.length≤maxLen∧∀ a,a ∈ x.views→a.ok
 idxs:x.idxs.length≤maxLen∧∀ a,a ∈ x.idxs→a.ok
 skts:x.skts.length≤maxLen∧∀ a,a ∈ x.skts→a.ok
 cchs:x.cchs.length≤maxLen∧∀ a,a ∈ x.cchs→a.ok
 rlss:x.rlss.length≤maxLen∧∀ a,a ∈ x.rlss→a.ok
 stms:x.stms.length≤maxLen∧∀ a,a ∈ x.stms→a.ok
 bkps:x.bkps.length≤maxLen∧∀ a,a ∈ x.bkps→a.ok
theorem row_Cat {r:List Data}(h:FitsL ctCat r):∃ x:Cat,r=x.enc∧x.ok:=by
 simp only [ctCat,FitsL] at h
 obtain ⟨d0,_,rfl,h0,d1,_,rfl,h1,d2,_,rfl,h2,d3,_,rfl,h3,d4,_,rfl,h4,d5,_,rfl,h5,d6,_,rfl,h6,d7,_,rfl,h7,rfl⟩:=h
 obtain ⟨v0,rfl,k0⟩:=fits_slice (fun _=>row_Tab) h0
 obtain ⟨v1,rfl,k1⟩:=fits_slice (fun _=>row_Vw) h1
 obtain ⟨v2,rfl,k2⟩:=fits_slice (fun _=>row_Idx) h2
 obtain ⟨v3,rfl,k3⟩:=fits_slice (fun _=>row_Skt) h3
 obtain ⟨v4,rfl,k4⟩:=fits_slice (fun _=>row_Cch) h4
 obtain ⟨v5,rfl,k5⟩:=fits_slice (fun _=>row_Rls) h5
 obtain ⟨v6,rfl,k6⟩:=fits_slice (fun _=>row_Stm) h6
 obtain ⟨v7,rfl,k7⟩:=fits_slice (fun _=>row_Bkp) h7
 exact ⟨⟨v0,v1,v2,v3,v4,v5,v6,v7⟩,rfl,⟨k0,k1,k2,k3,k4,k5,k6,k7⟩⟩
end Go.Abs
namespace Go.Abs
section
variable {A:Prog} {l:Lim} {b:Nat}
variable {dr:Bool} {ais ops:List AIns} {T:List AVal} {H:Heap} {pre:List AVal} {tch:List Touch} {Q:List AVal→Heap→List AVal→Prop}
theorem mid_at {j:Nat}{v:AVal}(h:pre[j]? =some v)(r:List AVal):(pre++r)[j]? =some v:=by
 have hj:j<pre.length:=by
  rcases Nat.lt_or_ge j pre.length with hj' |hj'
  ·exact hj'
  ·rw [List.getElem?_eq_none hj'] at h;cases h
 rw [List.getElem?_append_left hj,h]
theorem Rx.skipped {op:AOp}{j:Nat}{want w:Bool}{u:List Nat}(h:pre[j]? =some (.d (.bool w)))(hw:(w==want)=false)(hk:killing ⟨T,H,pre++ .any::List.replicate ops.length .any,tch⟩ op=false)(ha:op.isAlloc=false)
  (h2:Rx A l b dr ais ops T H (pre++[.tuple []]) tch Q):Rx A l b dr ais (⟨op,none,some (j,want),u⟩::ops) T H pre tch Q:=by
 refine Rx.step (N1:=0) (rs:=[]) hk ha (fun n _=> ?_) (fun rs=>by simp [hitsObj]) h2
 simp only [stepA,wantedA,mid_at h,hw,put,set_mid,toSlotX,toSlot]
theorem Rx.pick {c x y:Opd}{u:List Nat}{t:Bool}{v:AVal}(hc:Op T pre c (.d (.bool t)))(hx:t=true→Op T pre x v)(hy:t=false→Op T pre y v)(h2:Rx A l b dr ais ops T H (pre++[v]) tch Q) :
  Rx A l b dr ais (⟨.pick c x y,none,none,u⟩::ops) T H pre tch Q:=by
 refine Rx.pure (rs:=[]) rfl (fun m=> ?_) h2
 cases t with
 |true=>simp [pureOp,hc.rho,(hx rfl).rho]
 |false=>simp [pureOp,hc.rho,(hy rfl).rho]
theorem clean_len {mask:List Bool}{strict n:Nat}(h:H.length=n):clean mask strict n ⟨T,H⟩=⟨maskT mask T,H⟩:=by
 subst h
 simp [clean]
theorem Rx.offP {x:Opd}{u:List Nat}{k id o:Nat}(hx:Op T pre x (.ptr id o))(h2:Rx A l b dr ais ops T H (pre++[.ptr id (o+k)]) tch Q) :
  Rx A l b dr ais (⟨.off k x,none,none,u⟩::ops) T H pre tch Q :=
 Rx.pure (rs:=[]) rfl (fun m=>by simp only [pureOp,hx.rho]) h2
theorem Rx.loadP {x:Opd}{u:List Nat}{id o:Nat}{v w:AVal}(hx:Op T pre x (.ptr id o))(hr:rd H id o 1=some [v])(hv:v.asD=w)(h2:Rx A l b dr ais ops T H (pre++[w]) tch Q) :
  Rx A l b dr ais (⟨.load none x,none,none,u⟩::ops) T H pre tch Q :=
 Rx.pure (rs:=[id]) rfl (fun m=>by simp only [pureOp,hx.rho,hr,hv]) h2
theorem stepA_wanted {E:Env}{nid:Option Nat}{k j:Nat}{op:AOp}{dst:Option Nat}{want w:Bool}{u:List Nat}{st:RSt}(h:st.L[j]? =some (.d (.bool w)))(hw:(w==want)=true) :
  stepA E ais nid k ⟨op,dst,some (j,want),u⟩ st=stepA E ais nid k ⟨op,dst,none,u⟩ st:=by
 simp only [stepA,wantedA,h,hw]
theorem Rx.wanted {op:AOp}{dst:Option Nat}{j:Nat}{want w:Bool}{u:List Nat}(h:pre[j]? =some (.d (.bool w)))(hw:(w==want)=true)
  (h2:Rx A l b dr ais (⟨op,dst,none,u⟩::ops) T H pre tch Q):Rx A l b dr ais (⟨op,dst,some (j,want),u⟩::ops) T H pre tch Q:=by
 obtain ⟨r,N,hq,hr⟩:=h2
 refine ⟨r,N,hq,fun n hn=> ?_⟩
 have h3:=hr n hn
 have h4:∀ E nid,stepA E ais nid pre.length ⟨op,dst,some (j,want),u⟩ ⟨T,H,pre++List.replicate (ops.length+1) .any,tch⟩=stepA E ais nid pre.length ⟨op,dst,none,u⟩ ⟨T,H,pre++List.replicate (ops.length+1) .any,tch⟩ :=
  fun E nid=>stepA_wanted (mid_at h _) hw
 cases dr with
 |false =>
  simp only [Bool.false_eq_true,if_false,List.length_cons,runOps] at h3 ⊢
  rw [h4]
  exact h3
 |true =>
  simp only [if_true,List.length_cons,runOpsD,stepD] at h3 ⊢
  intro na
  rw [h4]
  obtain ⟨lg,e1,e2,e3⟩:=h3 na
  refine ⟨lg,e1,e2,fun k e he=>⟨(e3 k e he).1,fun i hi hr=> ?_⟩⟩
  cases k with
  |zero =>
   simp only [List.getElem?_cons_zero,Option.some.injEq] at hi
   subst hi
   exact (e3 0 e he).2 ⟨op,dst,none,u⟩ rfl hr
  |succ k=>exact (e3 (k+1) e he).2 i (by simpa using hi) hr
theorem Rx.stepT {i:AIns}{T' pre' :List AVal}{H' :Heap}{v:AVal}{tch' :List Touch}{rs:List Nat}{N1:Nat}(hl:pre'.length=pre.length)
  (h:∀ n,N1≤n→stepA (EnvN A n l b) ais none pre.length i ⟨T,H,pre++ .any::List.replicate ops.length .any,tch⟩=some (⟨T',H',pre' ++v::List.replicate ops.length .any,tch'⟩,rs))
  (h2:Rx A l b false ais ops T' H' (pre' ++[v]) tch' Q):Rx A l b false ais (i::ops) T H pre tch Q:=by
 obtain ⟨r,N,hq,h2⟩:=h2
 refine ⟨r,max N N1,hq,fun n hn=> ?_⟩
 have h3:=h2 n (by omega)
 have h4:=h n (by omega)
 simp only [List.append_assoc,List.cons_append,List.nil_append,List.length_append,List.length_cons,List.length_nil,hl] at h3
 simp only [Bool.false_eq_true,if_false,List.length_cons,List.replicate_succ] at h3 ⊢
 simp only [runOps,h4]
 exact h3
theorem Rx.boxTo {x:Opd}{u:List Nat}{v:AVal}{cs:List AVal}{s:Nat}(hx:Op T pre x v)(hc:v.cells? =some cs)(hs:T[s]?.isSome=true)
  (h2:Rx A l b false ais ops (T.set s (.ptr H.length 0)) (H++[.cells cs]) (pre++[.ptr H.length 0]) (.slot s::tch) Q):Rx A l b false ais (⟨.box x,some s,none,u⟩::ops) T H pre tch Q:=by
 have hs:s<T.length:=by
  rcases Nat.lt_or_ge s T.length with h|h
  ·exact h
  ·rw [List.getElem?_eq_none h] at hs;cases hs
 refine Rx.stepT (N1:=0) (rs:=[]) rfl (fun n _=> ?_) h2
 have h3:∀ r:List AVal,(pre++ .ptr H.length 0::r)[pre.length]? =some (.ptr H.length 0):=fun r=>by simp
 simp only [stepA,wantedA,stepW,AOp.isEff,if_true,effOp,hx.rho,hc,newObjA,newId,Option.getD_none,put,set_mid,toSlotX,toSlot,hs,Abs.xfer,h3]
 simp [Abs.rho,AVal.asD]
theorem own_rho {j z n:Nat}{cs:List Data}(h:pre[j]? =some (.own z n cs))(m:Nat):Abs.rho T (pre++ .any::List.replicate m .any) (.loc j)= .d (.slice n cs):=by
 simp [Abs.rho,mid_at h,AVal.asD]
theorem Rx.one {x:Opd}{u:List Nat}{z c:Data}(hx:Op T pre x (.d c))(h2:Rx A l b dr ais ops T H (pre++[.own 1 1 [c]]) tch Q) :
  Rx A l b dr ais (⟨.bslice 1 1 [.d z] [(0,1,x)] false,none,none,u⟩::ops) T H pre tch Q :=
 Rx.pure (rs:=[]) rfl (fun m=>by simp [pureOp,fillA,hx.rho,AVal.cells?,splice,datas?,AVal.data?,AVal.one]) h2
theorem one_cells (H:Heap)(c:Data):sliceCells H 1 (.d (.slice 1 [c]))=some (1,[.d c]):=by
 simp [sliceCells]
theorem Rx.ownTo {s z n0:Nat}{cs:List Data}{u:List Nat}(hs:T[s]?.isSome=true)(h2:Rx A l b dr ais ops (T.set s (.own z n0 cs)) H (pre++[.d (.slice n0 cs)]) (.slot s::tch) Q) :
  Rx A l b dr ais (⟨.mov (.const (.own z n0 cs)),some s,none,u⟩::ops) T H pre tch Q:=by
 have hs:s<T.length:=by
  rcases Nat.lt_or_ge s T.length with h|h
  ·exact h
  ·rw [List.getElem?_eq_none h] at hs;cases hs
 refine Rx.step (N1:=0) (rs:=[]) rfl rfl (fun n _=> ?_) (slot_hits s tch) h2
 have h5:∀ r:List AVal,(pre++ .own z n0 cs::r)[pre.length]? =some (.own z n0 cs):=fun r=>by simp
 simp only [stepA,wantedA,stepW,AOp.isEff,Bool.false_eq_true,if_false,Abs.xfer,put,set_mid,toSlotX,toSlot,hs,if_true,h5]
theorem Ex.loopS {mask:List Bool}{body:ACode}{R:AExit→St→Prop}(Inv:Nat→List AVal→Heap→Prop)(hl:∀ k T' H',Inv k T' H' →H'.length=H.length)
  (hb:∀ k T' H',Inv k T' H' →Ex A l b body ⟨maskT mask T',H'⟩ (goOn R fun s=>∃ k',k' <k∧Inv k' s.T s.H)) {k:Nat} (h:Inv k T H):Ex A l b (.loop mask body) ⟨T,H⟩ R:=by
 refine Ex.loop (fun k s=>Inv k s.T s.H) (fun k s hs=> ?_) (k:=k) h
 obtain ⟨T',H'⟩:=s
 rw [clean_len (hl k T' H' hs)]
 exact hb k T' H' hs
end
end Go.Abs
namespace Go.Abs
theorem flatMap_drop {α:Type}{enc:α→List Data}{sz:Nat}(hs:∀ a,(enc a).length=sz):∀ (l:List α) (i:Nat) (h:i<l.length),(l.flatMap enc).drop (i * sz)=enc l[i]++(l.drop (i+1)).flatMap enc
 |a::l,0,h=>by simp
 |a::l,i+1,h=>by
  have h1:=flatMap_drop hs l i (by simpa using h)
  rw [List.flatMap_cons,Nat.succ_mul,Nat.add_comm,← List.drop_drop]
  rw [show (enc a++l.flatMap enc).drop sz=l.flatMap enc by rw [← hs a,List.drop_left]]
  simpa using h1
theorem enc_drop {α:Type}{enc:α→List Data}{sz:Nat}(hs:∀ a,(enc a).length=sz)(l:List α)(i:Nat)(h:i<l.length) :
  (l.flatMap enc).drop ((i:Int).toNat * sz)=enc l[i]++(l.drop (i+1)).flatMap enc:=by
 rw [Int.toNat_natCast]
 exact flatMap_drop hs l i h
def Cat.names (c:Cat):List Str:=c.tabs.map Tab.name++c.views.map Vw.name++c.idxs.map Idx.name++c.skts.map Skt.name++c.cchs.map Cch.name++c.rlss.map Rls.name++c.stms.map Stm.name++c.bkps.map Bkp.name
def cat (c:Cat):AVal:= .agg (c.enc.map .d)
def strs (l:List Str):List Data:=l.map .str
def Cat.few (c:Cat):Prop:=c.tabs.length≤1000∧c.views.length≤1000∧c.idxs.length≤1000∧c.skts.length≤1000∧c.cchs.length≤1000∧c.rlss.length≤1000∧c.stms.length≤1000∧c.bkps.length≤1000
theorem room16 {n:Nat}(h:n≤8001):roomFor n 16=true:=by
 simp only [roomFor,decide_eq_true_eq]
 omega
end Go.Abs
