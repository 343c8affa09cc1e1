import Derived.Test.YtibjocmpkoepoaaGreatB6
set_option linter.all false
open Bool renaming and_eq_true → c7, false_eq_true → j4, not_eq_true' → o7
open List renaming all_eq_true → Q2, append_assoc → D2, cons_append → F8, drop_of_length_le → l6, getElem?_append_left → A8, getElem?_append_right → u9, length_append → k9, length_cons → p8, length_map → B9, map_cons → L8, mem_cons → B8, mem_map → L1, mem_singleton → s8, nil_append → E0, replicate → c9, take_of_length_le → y6
open Nat renaming add_assoc → M6, beq → s7, ble → E1, eq_of_beq_eq_true → e8, le_of_ble_eq_true → j5, le_refl → n5, le_trans → F9, lt_or_ge → A5
namespace Go.A2.Sh
open Go.A2
inductive Rel where
 |no
 |eq (i:Nat)
 |lt (i:Nat)
inductive SB where
 |tT
 |cmp (i n:Nat) (pol:Bool)
inductive SD where
 |top
 |lit (x:Data)
 |bool (c:SB)
 |int (k:IntKind) (lo hi:Int) (r:Rel)
 |anyI (k:IntKind)
 |str (n:Nat)
 |slice (v:Option Nat) (lo hi:Nat) (row:List SD)
 |pr (k:Nat) (x:SD)
inductive SV where
 |top
 |any
 |d (x:SD)
 |own (sz:Nat) (x:SD)
 |O2
 |ptr (id off:Nat)
 |T4 (row:List SD)
 |B4 (id sz lo len:Nat)
 |agg (p:Option Nat) (l:List SV)
 |tuple (l:List SV)
 |bn (k:Nat)  
 |q (x:SD)    
 |wp (id lo sz cnt:Nat)  
instance:Inhabited SV:=⟨.any⟩
instance:Inhabited SD:=⟨.top⟩
inductive SO where
 |dead
 |cells (p:Option Nat) (l:List SV)
 |pr (k:Nat)
 |bn (k:Nat)
 |top
 |BJ (k b:Nat)  
instance:Inhabited SO:=⟨.dead⟩
structure Ctx where
 Φ:Nat->Data->Prop
 Θ:Nat->List c8->Prop
 Ψ:Nat->A1->Prop
 O5:∀ k o,Ψ k o->o.O5=0
 Ω:Nat->A1->Prop:=fun _ _=>False
def Rel.g (vs:List Nat):Rel->Int->Prop
 | .no,_=>True
 | .eq i,n=>∃ m,vs[i]? =some m/\n=(m:Int)
 | .lt i,n=>∃ m,vs[i]? =some m/\0<=n/\n<(m:Int)
def SB.g (vs:List Nat):SB->Bool->Prop
 | .tT,_=>True
 | .cmp i n pol,b=>∃ m,vs[i]? =some m/\b=(decide (n<m)==pol)
section
variable (C:Ctx)
mutual
def SD.g (vs:List Nat):SD->Data->Prop
 | .top,_=>True
 | .lit x,d=>d=x
 | .bool c,d=>∃ b,d= .bool b/\c.g vs b
 | .int k lo hi r,d=>∃ n,d= .int k n/\lo<=n/\n<=hi/\r.g vs n
 | .anyI k,d=>∃ n,d= .int k n
 | .str m,d=>∃ s,d= .str s/\s.length<=m
 | .slice v lo hi row,d=>∃ rows:List (List Data),d= .slice rows.length rows.flatten/\lo<=rows.length/\rows.length<=hi/\(∀ i,v=some i->vs[i]? =some rows.length)/\∀ r,r ∈ rows->J1.g vs row r
 | .pr k x,d=>C.Φ k d/\SD.g vs x d
def J1.g (vs:List Nat):List SD->List Data->Prop
 |[],ds=>ds=[]
 |x::xs,ds=>∃ d ds',ds=d::ds' /\SD.g vs x d/\J1.g vs xs ds'
end
mutual
def SV.g (vs:List Nat):SV->c8->Prop
 | .top,_=>True
 | .any,v=>v= .any
 | .d x,v=>∃ y,v= .d y/\SD.g C vs x y
 | .own sz x,v=>∃ len cells,v= .own sz len cells/\SD.g C vs x (.slice len cells)
 | .O2,v=>v= .O2
 | .ptr id off,v=>v= .ptr id off
 | .T4 row,v=>∃ cells rest,v= .T4 (cells++rest)/\J1.g C vs row cells
 | .B4 id sz lo len,v=>v= .B4 id sz lo len
 | .agg p l,v=>∃ cs,v= .agg cs/\y7.g vs l cs/\∀ k,p=some k->C.Θ k (cs.map c8.J3)
 | .tuple l,v=>∃ cs,v= .tuple cs/\y7.g vs l cs
 | .bn k,v=>v.O5=k/\v.one=true
 | .q x,v=>∃ y,v.J3= .d y/\SD.g C vs x y
 | .wp id lo sz cnt,v=>∃ j,j<cnt/\v= .ptr id (lo+j * sz)
def y7.g (vs:List Nat):List SV->List c8->Prop
 |[],as=>as=[]
 |x::xs,as=>∃ a as',as=a::as' /\SV.g vs x a/\y7.g vs xs as'
end
def SO.g (vs:List Nat):SO->A1->Prop
 | .dead,o=>o= .dead
 | .cells p l,o=>∃ cs,o= .cells cs/\y7.g C vs l cs/\∀ k,p=some k->C.Θ k (cs.map c8.J3)
 | .pr k,o=>C.Ψ k o
 | .bn k,o=>o.O5=k
 | .top,_=>True
 | .BJ k b,o=>C.Ω k o/\o.O5=b
def J6.g (vs:List Nat):List SO->p9->Prop
 |[],os=>os=[]
 |x::xs,os=>∃ o os',os=o::os' /\SO.g C vs x o/\J6.g vs xs os'
end
def Le (vs ws:List Nat):Prop:=∀ (i m:Nat),vs[i]? =some m->ws[i]? =some m
theorem Le.refl (vs:List Nat):Le vs vs:=fun _ _ h=>h
theorem Le.trans {a b c:List Nat}(h:Le a b)(k:Le b c):Le a c:=fun i m e=>k i m (h i m e)
theorem Le.app (vs ws:List Nat):Le vs (vs++ws):=fun i m h=>by
 grind
section
variable {C:Ctx} {vs ws:List Nat}
theorem Rel.R1 (hl:Le vs ws){r:Rel}{n:Int}(h:r.g vs n):r.g ws n:=by
 cases r with
 |no=>trivial
 |eq i=>obtain ⟨m,h1,h2⟩:=h;exact ⟨m,hl _ _ h1,h2⟩
 |lt i=>obtain ⟨m,h1,h2⟩:=h;exact ⟨m,hl _ _ h1,h2⟩
theorem SB.R1 (hl:Le vs ws){r:SB}{n:Bool}(h:r.g vs n):r.g ws n:=by
 cases r with
 |tT=>trivial
 |cmp i n pol=>obtain ⟨m,h1,h2⟩:=h;exact ⟨m,hl _ _ h1,h2⟩
mutual
theorem SD.R1 (hl:Le vs ws):∀ (x:SD) {d:Data},x.g C vs d->x.g C ws d
 | .top,_,h=>by simp [SD.g]
 | .lit _,_,h=>by simp_all [SD.g]
 | .bool c,_,h=>by grind [SD.g,SB.R1]
 | .int k lo hi r,_,h=>by grind [SD.g,Rel.R1]
 | .anyI _,_,h=>by simp_all [SD.g]
 | .str _,_,h=>by simp_all [SD.g]
 | .slice v lo hi row,_,h=>by
  obtain ⟨rows,h1,h2,h3,h4,h5⟩:=h;exact ⟨rows,h1,h2,h3,fun i e=>hl _ _ (h4 i e),fun r hr=>J1.R1 hl row (h5 r hr)⟩
 | .pr _ x,_,h=>by exact ⟨h.1,SD.R1 hl x h.2⟩
theorem J1.R1 (hl:Le vs ws):∀ (x:List SD) {d:List Data},J1.g C vs x d->J1.g C ws x d
 |[],_,h=>by simp_all [J1.g]
 |x::xs,_,h=>by obtain ⟨d,ds,h1,h2,h3⟩:=h;exact ⟨d,ds,h1,SD.R1 hl x h2,J1.R1 hl xs h3⟩
end
mutual
theorem SV.R1 (hl:Le vs ws):∀ (x:SV) {d:c8},x.g C vs d->x.g C ws d
 | .top,_,h=>by simp only [SV.g]
 | .any,_,h=>by simpa only [SV.g] using h
 | .d x,_,h=>by simp only [SV.g] at h ⊢;obtain ⟨y,h1,h2⟩:=h;exact ⟨y,h1,SD.R1 hl x h2⟩
 | .own _ x,_,h=>by simp only [SV.g] at h ⊢;obtain ⟨a,b,h1,h2⟩:=h;exact ⟨a,b,h1,SD.R1 hl x h2⟩
 | .O2,_,h=>by simpa only [SV.g] using h
 | .ptr ..,_,h=>by simpa only [SV.g] using h
 | .T4 row,_,h=>by simp only [SV.g] at h ⊢;obtain ⟨a,b,h1,h2⟩:=h;exact ⟨a,b,h1,J1.R1 hl row h2⟩
 | .B4 ..,_,h=>by simpa only [SV.g] using h
 | .wp ..,_,h=>by simpa only [SV.g] using h
 | .agg p l,_,h=>by simp only [SV.g] at h ⊢;obtain ⟨cs,h1,h2,h3⟩:=h;exact ⟨cs,h1,y7.R1 hl l h2,h3⟩
 | .tuple l,_,h=>by simp only [SV.g] at h ⊢;obtain ⟨cs,h1,h2⟩:=h;exact ⟨cs,h1,y7.R1 hl l h2⟩
 | .bn _,_,h=>by simpa only [SV.g] using h
 | .q x,_,h=>by simp only [SV.g] at h ⊢;obtain ⟨y,h1,h2⟩:=h;exact ⟨y,h1,SD.R1 hl x h2⟩
theorem y7.R1 (hl:Le vs ws):∀ (x:List SV) {d:List c8},y7.g C vs x d->y7.g C ws x d
 |[],_,h=>by simpa only [y7.g] using h
 |x::xs,_,h=>by simp only [y7.g] at h ⊢;obtain ⟨d,ds,h1,h2,h3⟩:=h;exact ⟨d,ds,h1,SV.R1 hl x h2,y7.R1 hl xs h3⟩
end
theorem SO.R1 (hl:Le vs ws)(x:SO){o:A1}(h:x.g C vs o):x.g C ws o:=by
 cases x with
 |dead=>exact h
 |cells p l=>obtain ⟨cs,h1,h2,h3⟩:=h;exact ⟨cs,h1,y7.R1 hl l h2,h3⟩
 |pr k=>exact h
 |bn k=>exact h
 |top=>trivial
 |BJ k b=>exact h
theorem J6.R1 (hl:Le vs ws):∀ (x:List SO) {o:p9},J6.g C vs x o->J6.g C ws x o
 |[],_,h=>by simp_all [J6.g]
 |x::xs,_,h=>by obtain ⟨d,ds,h1,h2,h3⟩:=h;exact ⟨d,ds,h1,SO.R1 hl x h2,J6.R1 hl xs h3⟩
end
section
variable {C:Ctx} {vs:List Nat}
theorem J1.len:∀ {x:List SD} {d:List Data},J1.g C vs x d->d.length=x.length
 |[],_,h=>by simp_all [J1.g]
 |x::xs,_,h=>by obtain ⟨d,ds,rfl,_,h3⟩:=h;simp [J1.len h3]
theorem y7.len:∀ {x:List SV} {d:List c8},y7.g C vs x d->d.length=x.length
 |[],_,h=>by simp_all [y7.g]
 |x::xs,_,h=>by obtain ⟨d,ds,rfl,_,h3⟩:=h;simp [y7.len h3]
theorem J6.len:∀ {x:List SO} {d:p9},J6.g C vs x d->d.length=x.length
 |[],_,h=>by simp_all [J6.g]
 |x::xs,_,h=>by obtain ⟨d,ds,rfl,_,h3⟩:=h;simp [J6.len h3]
theorem y7.app:∀ {x y:List SV} {d e:List c8},y7.g C vs x d->y7.g C vs y e->y7.g C vs (x++y) (d++e)
 |[],_,_,_,h,k=>by simp_all [y7.g]
 |x::xs,_,_,_,h,k=>by obtain ⟨d,ds,rfl,h2,h3⟩:=h;exact ⟨d,_,rfl,h2,y7.app h3 k⟩
theorem J6.app:∀ {x y:List SO} {d e:p9},J6.g C vs x d->J6.g C vs y e->J6.g C vs (x++y) (d++e)
 |[],_,_,_,h,k=>by simp_all [J6.g]
 |x::xs,_,_,_,h,k=>by obtain ⟨d,ds,rfl,h2,h3⟩:=h;exact ⟨d,_,rfl,h2,J6.app h3 k⟩
theorem y7.get:∀ {x:List SV} {d:List c8},y7.g C vs x d->∀ {i:Nat} {a:SV},x[i]? =some a->∃ b,d[i]? =some b/\a.g C vs b
 |[],_,_,_,_,e=>by simp at e
 |x::xs,_,h,i,a,e=>by
  obtain ⟨d,ds,rfl,h2,h3⟩:=h;cases i with
  |zero=>simp at e;subst e;exact ⟨d,rfl,h2⟩
  |succ i=>simpa using y7.get h3 (by simpa using e)
theorem y7.none:∀ {x:List SV} {d:List c8},y7.g C vs x d->∀ {i:Nat},x[i]? =none->d[i]? =none:=fun h i e=>by
 grind [List.getElem?_eq_none_iff,y7.len]
theorem J6.get:∀ {x:List SO} {d:p9},J6.g C vs x d->∀ {i:Nat} {a:SO},x[i]? =some a->∃ b,d[i]? =some b/\a.g C vs b
 |[],_,_,_,_,e=>by simp at e
 |x::xs,_,h,i,a,e=>by
  obtain ⟨d,ds,rfl,h2,h3⟩:=h;cases i with
  |zero=>simp at e;subst e;exact ⟨d,rfl,h2⟩
  |succ i=>simpa using J6.get h3 (by simpa using e)
theorem y7.set:∀ {x:List SV} {d:List c8},y7.g C vs x d->∀ (i:Nat) {a:SV} {b:c8},a.g C vs b->y7.g C vs (x.set i a) (d.set i b)
 |[],_,h,_,_,_,_=>by simp_all [y7.g]
 |x::xs,_,h,i,a,b,e=>by
  obtain ⟨d,ds,rfl,h2,h3⟩:=h;cases i with
  |zero=>exact ⟨_,_,rfl,e,h3⟩
  |succ i=>exact ⟨_,_,rfl,h2,y7.set h3 i e⟩
theorem J6.set:∀ {x:List SO} {d:p9},J6.g C vs x d->∀ (i:Nat) {a:SO} {b:A1},a.g C vs b->J6.g C vs (x.set i a) (d.set i b)
 |[],_,h,_,_,_,_=>by simp_all [J6.g]
 |x::xs,_,h,i,a,b,e=>by
  obtain ⟨d,ds,rfl,h2,h3⟩:=h;cases i with
  |zero=>exact ⟨_,_,rfl,e,h3⟩
  |succ i=>exact ⟨_,_,rfl,h2,J6.set h3 i e⟩
theorem y7.take:∀ {x:List SV} {d:List c8},y7.g C vs x d->∀ (n:Nat),y7.g C vs (x.take n) (d.take n)
 |[],_,h,n=>by simp_all [y7.g]
 |x::xs,_,h,n=>by
  obtain ⟨d,ds,rfl,h2,h3⟩:=h;cases n with
  |zero=>simp [y7.g]
  |succ n=>exact ⟨_,_,rfl,h2,y7.take h3 n⟩
theorem y7.drop:∀ {x:List SV} {d:List c8},y7.g C vs x d->∀ (n:Nat),y7.g C vs (x.drop n) (d.drop n)
 |[],_,h,n=>by simp_all [y7.g]
 |x::xs,_,h,n=>by
  have h' :=h;obtain ⟨d,ds,rfl,h2,h3⟩:=h;cases n with
  |zero=>exact h'
  |succ n=>simpa using y7.drop h3 n
theorem J6.take:∀ {x:List SO} {d:p9},J6.g C vs x d->∀ (n:Nat),J6.g C vs (x.take n) (d.take n)
 |[],_,h,n=>by simp_all [J6.g]
 |x::xs,_,h,n=>by
  obtain ⟨d,ds,rfl,h2,h3⟩:=h;cases n with
  |zero=>simp [J6.g]
  |succ n=>exact ⟨_,_,rfl,h2,J6.take h3 n⟩
theorem J6.drop:∀ {x:List SO} {d:p9},J6.g C vs x d->∀ (n:Nat),J6.g C vs (x.drop n) (d.drop n)
 |[],_,h,n=>by simp_all [J6.g]
 |x::xs,_,h,n=>by
  have h' :=h;obtain ⟨d,ds,rfl,h2,h3⟩:=h;cases n with
  |zero=>exact h'
  |succ n=>simpa using J6.drop h3 n
theorem y7.map {f:SV->SV}{f' :c8->c8}(hf:∀ x a,SV.g C vs x a->SV.g C vs (f x) (f' a)):∀ {x:List SV} {d:List c8},y7.g C vs x d->y7.g C vs (x.map f) (d.map f')
 |[],_,h=>by simp_all [y7.g]
 |x::xs,_,h=>by
  obtain ⟨d,ds,rfl,h2,h3⟩:=h;exact ⟨_,_,rfl,hf _ _ h2,y7.map hf h3⟩
end
def UC:IntKind->IntKind->Bool:=fun a b=>decide (a=b)
mutual
def GG:Data->Data->Bool
 | .bool a,.bool b=>a==b
 | .int k n,.int k' n' =>decide (k=k')&&decide (n=n')
 | .str s,.str t=>s==t
 | .slice n l,.slice m r=>s7 n m&&wJ l r
 | .cu,.cu=>true
 | .P5,.P5=>true
 | .dy,.dy=>true
 | .nilIface,.nilIface=>true
 |_,_=>false
def wJ:List Data->List Data->Bool
 |[],[]=>true
 |a::l,b::r=>GG a b&&wJ l r
 |_,_=>false
end
mutual
theorem GH:∀ (a b:Data),GG a b=true->a=b
 | .bool a,b,h=>by cases b<;>simp_all [GG]
 | .int k n,b,h=>by cases b<;>simp_all [GG]
 | .str s,b,h=>by cases b<;>simp_all [GG]
 | .slice n l,b,h=>by
  cases b<;>simp only [GG,c7,j4] at h;rename_i m r;rw [e8 h.1,GI l r h.2]
 | .cu,b,h=>by grind [GG]
 | .P5,b,h=>by grind [GG]
 | .dy,b,h=>by grind [GG]
 | .nilIface,b,h=>by grind [GG]
theorem GI:∀ (a b:List Data),wJ a b=true->a=b
 |[],b,h=>by grind [wJ]
 |x::a,b,h=>by
  cases b<;>simp [wJ,c7,j4] at h;rw [GH _ _ h.1,GI _ _ h.2]
end
abbrev ji:=List (Nat×Nat)
def Bg (vs:List Nat)(B:ji):Prop:=vs.length=B.length/\∀ (i lo hi:Nat),B[i]? =some (lo,hi)->∃ m,vs[i]? =some m/\lo<=m/\m<=hi
def bdV (B:ji)(v:Option Nat)(lo hi:Nat):Nat×Nat:=match v with
 |none=>(lo,hi)
 |some i=>match B[i]? with
  |some (a,b)=>(max lo a,min hi b)
  |none=>(lo,hi)
def am2 {vs:List Nat}{B:ji}(hB:Bg vs B){v:Option Nat}{lo hi m:Nat}(h1:lo<=m)(h2:m<=hi)(h3:∀ i,v=some i->vs[i]? =some m):(bdV B v lo hi).1<=m/\m<=(bdV B v lo hi).2:=by
 unfold bdV;split
 .omega
 .split
  .rename_i a b hb
   obtain ⟨m',e1,e2,e3⟩:=hB.2 _ _ _ hb
   grind
  omega
def SD.int? (B:ji):SD->Option (IntKind×Int×Int×Rel)
 | .lit (.int k n)=>some (k,n,n,.no)
 | .int k lo hi r=>match r with
  | .eq i=>match B[i]? with
   |some (a,b)=>some (k,max lo a,min hi b,.eq i)
   |none=>some (k,lo,hi,.eq i)
  |_=>some (k,lo,hi,r)
 | .pr _ x=>x.int? B
 |_=>none
def SD.uV :SD->Option (Nat×Option (List UInt8))
 | .lit (.str s)=>some (s.length,some s)
 | .str m=>some (m,none)
 | .pr _ x=>x.uV
 |_=>none
inductive BK where
 |t (b:Bool)
 |u (c:SB)
def SD.bool? :SD->Option BK
 | .lit (.bool b)=>some (.t b)
 | .bool c=>some (.u c)
 | .pr _ x=>x.bool?
 |_=>none
def SD.kind? :SD->Option IntKind
 | .lit (.int k _)=>some k
 | .int k _ _ _=>some k
 | .anyI k=>some k
 | .pr _ x=>x.kind?
 |_=>none
def pN:List Data->Option (IntKind×Int×Int)
 |[]=>none
 | .int k n::r=>match r with
  |[]=>some (k,n,n)
  |_=>match pN r with
   |some (k',lo,hi)=>if UC k k' then some (k,min lo n,max hi n) else none
   |none=>none
 |_=>none
def JS:Data->Data->SD
 | .int k n,.int k' n' =>if UC k k' then .int k (min n n') (max n n') .no else .top
 | .str s,.str t=> .str (max s.length t.length)
 | .bool _,.bool _=> .bool .tT
 | .slice n cs,.slice m ds=>if s7 cs.length n&&s7 ds.length m then match pN (cs++ds) with
   |some (k,lo,hi)=> .slice none (min n m) (max n m) [.int k lo hi .no]
   |none=> .top
  else .top
 |_,_=> .top
def Rel.join:Rel->Rel->Rel
 | .eq i,.eq j=>if s7 i j then .eq i else .no
 | .lt i,.lt j=>if s7 i j then .lt i else .no
 |_,_=> .no
def Ua:SD->Data->SD
 | .lit a,b=>if GG a b then .lit a else JS a b
 | .int k lo hi _,.int k' n=>if UC k k' then .int k (min lo n) (max hi n) .no else .top
 | .str m,.str t=> .str (max m t.length)
 | .bool _,.bool _=> .bool .tT
 |_,_=> .top
def xk:List SD->List Data->List SD
 |x::xs,d::ds=>Ua x d::xk xs ds
 |_,_=>[]
def rowsOf (sz:Nat):Nat->List Data->List (List Data)
 |0,_=>[]
 |n+1,cs=>cs.take sz::rowsOf sz n (cs.drop sz)
def KM (sz:Nat):List (List Data)->List SD
 |[]=>c9 sz .top
 |r::rs=>rs.foldl xk (r.map .lit)
def SD.tA (B:ji):SD->Option (Option Nat×Nat×Nat)
 | .lit (.slice n _)=>some (none,n,n)
 | .slice v lo hi _=>some (v,bdV B v lo hi)
 | .pr _ x=>x.tA B
 |_=>none
def SD.slice? (B:ji)(sz:Nat):SD->Option (Option Nat×Nat×Nat×List SD)
 | .lit (.slice n cells)=>if s7 cells.length (n * sz) then some (none,n,n,KM sz (rowsOf sz n cells)) else none
 | .slice v lo hi row=>if s7 row.length sz then some (v,(bdV B v lo hi).1,(bdV B v lo hi).2,row) else none
 | .pr _ x=>x.slice? B sz
 |_=>none
section
variable {C:Ctx} {vs:List Nat} {B:ji}
theorem SD.jQ (hB:Bg vs B):∀ {x:SD} {d:Data} {k:IntKind} {lo hi:Int} {r:Rel},x.int? B=some (k,lo,hi,r)->x.g C vs d->∃ n,d= .int k n/\lo<=n/\n<=hi/\r.g vs n
 | .lit (.int k' n'),_,_,_,_,_,h,hg=>by
  obtain ⟨rfl,rfl,rfl,rfl⟩:=h;exact ⟨_,hg,Int.le_refl _,Int.le_refl _,trivial⟩
 | .int k' lo' hi' r',_,_,_,_,_,h,hg=>by
  obtain ⟨n,rfl,h1,h2,h3⟩:=hg;simp [SD.int?] at h;split at h
  .split at h
   .rename_i a b hb
    obtain ⟨rfl,rfl,rfl,rfl⟩:=h;obtain ⟨m,e1,e2⟩:=h3;obtain ⟨m',e3,e4,e5⟩:=hB.2 _ _ _ hb;rw [e1] at e3;cases e3;exact ⟨n,rfl,by omega,by omega,m,e1,e2⟩
   simp_all
  simp_all
 | .pr k' x,_,_,_,_,_,h,hg=>by
  simp [SD.int?] at h;exact SD.jQ hB h hg.2
 | .lit (.bool _),_,_,_,_,_,h,_=>by simp [SD.int?] at h
 | .lit (.str _),_,_,_,_,_,h,_=>by simp [SD.int?] at h
 | .lit (.slice _ _),_,_,_,_,_,h,_=>by simp [SD.int?] at h
 | .lit .cu,_,_,_,_,_,h,_=>by simp [SD.int?] at h
 | .lit .P5,_,_,_,_,_,h,_=>by simp [SD.int?] at h
 | .lit .dy,_,_,_,_,_,h,_=>by simp [SD.int?] at h
 | .lit .nilIface,_,_,_,_,_,h,_=>by simp [SD.int?] at h
 | .top,_,_,_,_,_,h,_=>by simp [SD.int?] at h
 | .bool _,_,_,_,_,_,h,_=>by simp [SD.int?] at h
 | .anyI _,_,_,_,_,_,h,_=>by simp [SD.int?] at h
 | .str _,_,_,_,_,_,h,_=>by simp [SD.int?] at h
 | .slice ..,_,_,_,_,_,h,_=>by simp [SD.int?] at h
theorem SD.xA:∀ {x:SD} {d:Data} {m:Nat} {e:Option (List UInt8)},x.uV =some (m,e)->x.g C vs d->∃ s,d= .str s/\s.length<=m/\∀ t,e=some t->s=t
 | .lit x,_,_,_,h,hg=>by
  cases x<;>simp [SD.uV,reduceCtorEq] at h
  grind [SD.g]
 | .str m',_,_,_,h,hg=>by
  grind [SD.uV,Option.some.injEq,Prod.mk.injEq,SD.g]
 | .pr _ x,_,_,_,h,hg=>by
  simp [SD.uV] at h;exact SD.xA h hg.2
 | .top,_,_,_,h,_=>by simp [SD.uV] at h
 | .bool _,_,_,_,h,_=>by simp [SD.uV] at h
 | .anyI _,_,_,_,h,_=>by simp [SD.uV] at h
 | .int ..,_,_,_,h,_=>by simp [SD.uV] at h
 | .slice ..,_,_,_,h,_=>by simp [SD.uV] at h
theorem SD.fC:∀ {x:SD} {d:Data} {c:BK},x.bool? =some c->x.g C vs d->∃ b,d= .bool b/\match c with| .t b' =>b=b' | .u c=>c.g vs b
 | .lit x,_,_,h,hg=>by
  cases x<;>simp [SD.bool?,reduceCtorEq] at h
  grind [SD.g]
 | .bool c,_,_,h,hg=>by
  grind [SD.bool?,Option.some.injEq,SD.g]
 | .pr _ x,_,_,h,hg=>by
  simp [SD.bool?] at h;exact SD.fC h hg.2
 | .top,_,_,h,_=>by simp [SD.bool?] at h
 | .str _,_,_,h,_=>by simp [SD.bool?] at h
 | .anyI _,_,_,h,_=>by simp [SD.bool?] at h
 | .int ..,_,_,h,_=>by simp [SD.bool?] at h
 | .slice ..,_,_,h,_=>by simp [SD.bool?] at h
theorem SD.zR:∀ {x:SD} {d:Data} {k:IntKind},x.kind? =some k->x.g C vs d->∃ n,d= .int k n
 | .lit x,_,_,h,hg=>by
  cases x<;>simp [SD.kind?,reduceCtorEq] at h;simp_all [SD.g]
 | .int ..,_,_,h,hg=>by
  grind [SD.kind?,Option.some.injEq,SD.g]
 | .anyI _,_,_,h,hg=>by
  simp_all [SD.kind?,Option.some.injEq,SD.g]
 | .pr _ x,_,_,h,hg=>by
  simp [SD.kind?] at h;exact SD.zR h hg.2
 | .top,_,_,h,_=>by simp [SD.kind?] at h
 | .str _,_,_,h,_=>by simp [SD.kind?] at h
 | .bool _,_,_,h,_=>by simp [SD.kind?] at h
 | .slice ..,_,_,h,_=>by simp [SD.kind?] at h
theorem SD.NL (hB:Bg vs B):∀ {x:SD} {d:Data} {v:Option Nat} {lo hi:Nat},x.tA B=some (v,lo,hi)->x.g C vs d->∃ n cells,d= .slice n cells/\lo<=n/\n<=hi/\∀ i,v=some i->vs[i]? =some n
 | .lit x,_,_,_,_,h,hg=>by
  cases x<;>simp [SD.tA,reduceCtorEq] at h
  grind [SD.g]
 | .slice v' lo' hi' row,_,_,_,_,h,hg=>by
  simp [SD.tA,Option.some.injEq,Prod.mk.injEq] at h;obtain ⟨rfl,h⟩:=h;obtain ⟨rows,rfl,h1,h2,h3,_⟩:=hg;have:=am2 hB h1 h2 h3;simp_all
 | .pr _ x,_,_,_,_,h,hg=>by
  simp [SD.tA] at h;exact SD.NL hB h hg.2
 | .top,_,_,_,_,h,_=>by simp [SD.tA] at h
 | .str _,_,_,_,_,h,_=>by simp [SD.tA] at h
 | .bool _,_,_,_,_,h,_=>by simp [SD.tA] at h
 | .anyI _,_,_,_,_,h,_=>by simp [SD.tA] at h
 | .int ..,_,_,_,_,h,_=>by simp [SD.tA] at h
theorem PC:∀ {l:List Data} {k:IntKind} {lo hi:Int},pN l=some (k,lo,hi)->∀ d,d ∈ l->∃ n,d= .int k n/\lo<=n/\n<=hi
 |[],_,_,_,h,_,_=>by simp_all
 | .int k n::r,_,_,_,h,d,hd=>by
  simp [pN] at h;split at h
  .grind
  .split at h
   .rename_i k' lo' hi' e
    split at h
    .rename_i hk
     have hk:k=k' :=of_decide_eq_true hk
     rcases B8.1 hd with rfl|hd
     .grind
     .obtain ⟨m,rfl,h1,h2⟩:=PC e d hd
      grind
    .cases h
   .cases h
 | .bool _::_,_,_,_,h,_,_=>by simp [pN] at h
 | .str _::_,_,_,_,h,_,_=>by simp [pN] at h
 | .slice _ _::_,_,_,_,h,_,_=>by simp [pN] at h
 | .cu::_,_,_,_,h,_,_=>by simp [pN] at h
 | .P5::_,_,_,_,h,_,_=>by simp [pN] at h
 | .dy::_,_,_,_,h,_,_=>by simp [pN] at h
 | .nilIface::_,_,_,_,h,_,_=>by simp [pN] at h
theorem VC:∀ l:List Data,(l.map fun d=>[d]).flatten=l
 |[]=>rfl
 |d::l=>by simp [VC l]
theorem GX (a b:Data):(JS a b).g C vs a/\(JS a b).g C vs b:=by
 unfold JS;split
 .rename_i k n k' n'
  split
  .rename_i hk
   have hk:k=k' :=of_decide_eq_true hk;subst hk;exact ⟨⟨_,rfl,by omega,by omega,trivial⟩,⟨_,rfl,by omega,by omega,trivial⟩⟩
  .simp [SD.g]
 .grind [SD.g]
 .exact ⟨⟨_,rfl,trivial⟩,⟨_,rfl,trivial⟩⟩
 .rename_i n cs m ds
  split
  .rename_i hc
   simp only [c7] at hc;have c1:=e8 hc.1;have c2:=e8 hc.2;split
   .rename_i k lo hi e
    have key:∀ l:List Data,(∀ d,d ∈ l->d ∈ cs++ds)->∀ r,r ∈ l.map (fun d=>[d])->J1.g C vs [.int k lo hi .no] r:=by
     intro l hl r hr;obtain ⟨d,hd,rfl⟩:=L1.1 hr;obtain ⟨q,rfl,h1,h2⟩:=PC e d (hl d hd);exact ⟨_,_,rfl,⟨q,rfl,h1,h2,trivial⟩,rfl⟩
    exact ⟨⟨cs.map fun d=>[d],by rw [VC,B9,c1],by grind,by grind,(fun i h=>by cases h),key cs fun d h=>List.mem_append_left _ h⟩,
     ⟨ds.map fun d=>[d],by rw [VC,B9,c2],by grind,by grind,(fun i h=>by cases h),key ds fun d h=>List.mem_append_right _ h⟩⟩
   .simp [SD.g]
  .simp [SD.g]
 .simp [SD.g]
theorem XF {x:SD}{a:Data}(b:Data)(h:x.g C vs a):(Ua x b).g C vs a:=by
 unfold Ua;split
 .grind [SD.g,GX]
 .split
  .obtain ⟨m,rfl,h1,h2,_⟩:=h
   exact ⟨_,rfl,by omega,by omega,trivial⟩
  .simp [SD.g]
 .grind [SD.g]
 .obtain ⟨m,rfl,h1⟩:=h
  exact ⟨_,rfl,trivial⟩
 .simp [SD.g]
def XG (x:SD)(b:Data):(Ua x b).g C vs b:=by
 unfold Ua;split
 .split
  .grind [SD.g,GH]
  .exact (GX _ _).2
 .rename_i k lo hi r k' n
  split
  .rename_i hk
   have hk:k=k' :=of_decide_eq_true hk;subst hk;exact ⟨_,rfl,by omega,by omega,trivial⟩
  .simp [SD.g]
 .grind [SD.g]
 .exact ⟨_,rfl,trivial⟩
 .simp [SD.g]
theorem Xy:∀ {x:List SD} {a b:List Data},J1.g C vs x a->a.length=b.length->J1.g C vs (xk x b) a
 |[],_,_,h,hl=>by simp_all [J1.g,xk]
 |x::xs,_,b,h,hl=>by
  obtain ⟨d,ds,rfl,h1,h2⟩:=h;cases b with
  |nil=>simp at hl
  |cons b bs=>exact ⟨_,_,rfl,XF b h1,Xy h2 (by simp_all)⟩
theorem Xz:∀ {x:List SD} {b:List Data},x.length=b.length->J1.g C vs (xk x b) b
 |[],[],_=>by rfl
 |[],_::_,h=>by simp at h
 |_::_,[],h=>by simp at h
 |x::xs,b::bs,h=>by exact ⟨_,_,rfl,XG x b,Xz (by simpa using h)⟩
theorem KJ:∀ (x:List SD) (b:List Data),x.length=b.length->(xk x b).length=x.length
 |[],[],_=>rfl
 |[],_::_,h=>by simp at h
 |_::_,[],h=>by simp at h
 |x::xs,b::bs,h=>by simp [xk,p8];rw [KJ xs bs (by simpa using h)]
theorem Wr:∀ (r:List Data),J1.g C vs (r.map .lit) r
 |[]=>by simp [J1.g]
 |d::r=>by exact ⟨_,_,rfl,rfl,Wr r⟩
theorem zP {sz:Nat}:∀ (rs:List (List Data)) (x:List SD),x.length=sz->(∀ r,r ∈ rs->r.length=sz)->(∀ a,a.length=sz->J1.g C vs x a->J1.g C vs (rs.foldl xk x) a)/\(∀ r,r ∈ rs->J1.g C vs (rs.foldl xk x) r)/\(rs.foldl xk x).length=sz
 |[],x,hx,_=>⟨fun a _ h=>h,by simp,hx⟩
 |r::rs,x,hx,hr=>by
  have hl:(xk x r).length=sz:=by simp_all [KJ]
  obtain ⟨h1,h2,h3⟩:=zP rs (xk x r) hl (fun r' h=>hr r' (by simp [h]));simp_all [Xy,B8,Xz]
theorem eU {sz:Nat}:∀ (n:Nat) (cs:List Data),cs.length=n * sz->(rowsOf sz n cs).flatten=cs/\(rowsOf sz n cs).length=n/\∀ r,r ∈ rowsOf sz n cs->r.length=sz
 |0,cs,h=>by simp_all [rowsOf]
 |n+1,cs,h=>by
  rw [Nat.succ_mul] at h;obtain ⟨h1,h2,h3⟩:=eU (sz:=sz) n (cs.drop sz) (by simp;omega);simp_all [rowsOf,B8]
def PW {sz:Nat}{rs:List (List Data)}(hr:∀ r,r ∈ rs->r.length=sz):(∀ r,r ∈ rs->J1.g C vs (KM sz rs) r)/\(KM sz rs).length=sz:=by
 cases rs with
 |nil=>simp_all [KM]
 |cons r rs =>
  obtain ⟨h1,h2,h3⟩:=zP (C:=C) (vs:=vs) rs (r.map .lit) (by simp_all) (fun r' h=>hr r' (by simp [h]));refine ⟨fun r' h=> ?_,h3⟩
  rcases B8.1 h with rfl|h
  .exact h1 _ (hr _ (by simp)) (Wr _)
  .exact h2 _ h
theorem SD.fS (hB:Bg vs B){sz:Nat}:∀ {x:SD} {d:Data} {v:Option Nat} {lo hi:Nat} {row:List SD},x.slice? B sz=some (v,lo,hi,row)->x.g C vs d ->
  row.length=sz/\∃ rows:List (List Data),d= .slice rows.length rows.flatten/\lo<=rows.length/\rows.length<=hi/\(∀ i,v=some i->vs[i]? =some rows.length)/\∀ r,r ∈ rows->J1.g C vs row r
 | .lit x,_,_,_,_,_,h,hg=>by
  cases x<;>simp only [SD.slice?,reduceCtorEq] at h;rename_i n cells;split at h
  .rename_i hc
   have hc:=e8 hc;simp [Option.some.injEq] at h;subst hg;obtain ⟨h1,h2,h3⟩:=eU n cells hc;obtain ⟨h4,h5⟩:=PW (C:=C) (vs:=vs) h3
   grind
  .cases h
 | .slice v' lo' hi' row',_,_,_,_,_,h,hg=>by
  simp only [SD.slice?] at h;split at h
  .rename_i hc
   have hc:=e8 hc;obtain ⟨rows,rfl,h1,h2,h3,h4⟩:=hg;have:=am2 hB h1 h2 h3
   grind
  .cases h
 | .pr _ x,_,_,_,_,_,h,hg=>by
  simp [SD.slice?] at h;exact SD.fS hB h hg.2
 | .top,_,_,_,_,_,h,_=>by simp [SD.slice?] at h
 | .str _,_,_,_,_,_,h,_=>by simp [SD.slice?] at h
 | .bool _,_,_,_,_,_,h,_=>by simp [SD.slice?] at h
 | .anyI _,_,_,_,_,_,h,_=>by simp [SD.slice?] at h
 | .int ..,_,_,_,_,_,h,_=>by simp [SD.slice?] at h
end
def Rel.le:Rel->Rel->Bool
 |_,.no=>true
 | .eq i,.eq j=>s7 i j
 | .lt i,.lt j=>s7 i j
 |_,_=>false
theorem Rel.cO {vs:List Nat}{r s:Rel}{n:Int}(h:r.le s=true)(hr:r.g vs n):s.g vs n:=by
 cases r<;>cases s<;>simp [Rel.le] at h<;>first
  |trivial
  |simp_all
def iLe (a b:Int):Bool:=decide (a<=b)
mutual
def SD.le (B:ji)(x:SD):SD->Bool
 | .top=>true
 | .lit b=>match x with
  | .lit a=>GG a b
  |_=>false
 | .bool .tT=>match x.bool? with
  |some _=>true
  |none=>false
 | .bool _=>false
 | .int k lo hi r=>match x.int? B with
  |some (k',a,b,s)=>UC k' k&&iLe lo a&&iLe b hi&&s.le r
  |none=>false
 | .anyI k=>match x.kind? with
  |some k' =>UC k' k
  |none=>false
 | .str m=>match x.uV with
  |some (m',_)=>E1 m' m
  |none=>false
 | .slice none lo hi row=>match x.slice? B row.length with
  |some (_,a,b,row')=>E1 lo a&&E1 b hi&&(s7 b 0||J1.le B row' row)
  |none=>false
 | .slice (some i) lo hi row=>match x with
  | .slice (some j) lo' hi' row' =>s7 i j&&E1 lo lo' &&E1 hi' hi&&J1.le B row' row
  |_=>false
 | .pr k y=>match x with
  | .pr k' _=>s7 k k' &&SD.le B x y
  |_=>false
def J1.le (B:ji)(xs:List SD):List SD->Bool
 |[]=>xs.isEmpty
 |y::ys=>match xs with
  |x::xs=>SD.le B x y&&J1.le B xs ys
  |[]=>false
end
section
variable {C:Ctx} {vs:List Nat} {B:ji} (hB:Bg vs B)
include hB
mutual
theorem SD.cO:∀ (y:SD) {x:SD} {d:Data},SD.le B x y=true->x.g C vs d->y.g C vs d
 | .top,_,_,_,_=>by simp [SD.g]
 | .lit b,x,_,h,hx=>by
  simp [SD.le] at h
  grind [SD.g,GH]
 | .bool c,x,_,h,hx=>by
  cases c with
  |cmp i n pol=>simp [SD.le] at h
  |tT =>
   simp [SD.le] at h;split at h
   .rename_i c hc
    obtain ⟨b,h1,_⟩:=SD.fC hc hx;exact ⟨b,h1,trivial⟩
   .cases h
 | .int k lo hi r,x,_,h,hx=>by
  simp [SD.le] at h;split at h
  .rename_i k' a b s hc
   simp [c7,iLe] at h;obtain ⟨n,h1,h2,h3,h4⟩:=SD.jQ hB hc hx;have hk:k' =k:=of_decide_eq_true h.1.1.1
   grind [SD.g,Rel.cO]
  .cases h
 | .anyI k,x,_,h,hx=>by
  simp [SD.le] at h;split at h
  .rename_i k' hc
   have hk:k' =k:=of_decide_eq_true h
   grind [SD.g,SD.zR]
  .cases h
 | .str m,x,_,h,hx=>by
  simp [SD.le] at h;split at h
  .rename_i m' e hc
   obtain ⟨s,h1,h2,_⟩:=SD.xA hc hx;simp_all [SD.g]<;>omega
  .cases h
 | .slice none lo hi row,x,_,h,hx=>by
  simp [SD.le] at h;split at h
  .rename_i v a b row' hc
   simp only [c7,Bool.or_eq_true] at h;obtain ⟨e,rows,h1,h2,h3,h4,h5⟩:=SD.fS hB hc hx;have l1:=j5 h.1.1;have l2:=j5 h.1.2;refine ⟨rows,h1,by omega,by omega,(fun i e=>by cases e),fun r hr=> ?_⟩
   rcases h.2 with h0|h0
   .simp_all
   .exact J1.cO row h0 (h5 r hr)
  .cases h
 | .slice (some i) lo hi row,x,_,h,hx=>by
  simp [SD.le] at h;split at h
  .simp only [c7] at h
   have l0:=e8 h.1.1.1;have l1:=j5 h.1.1.2;have l2:=j5 h.1.2;subst l0;obtain ⟨rows,h1,h2,h3,h4,h5⟩:=hx;exact ⟨rows,h1,by omega,by omega,h4,fun r hr=>J1.cO row h.2 (h5 r hr)⟩
  .cases h
 | .pr k y,x,_,h,hx=>by
  simp [SD.le] at h;split at h
  .simp only [c7] at h
   have l0:=e8 h.1;have h6:=SD.cO y h.2 hx;simp_all [SD.g]
  .cases h
theorem J1.cO:∀ (y:List SD) {x:List SD} {d:List Data},J1.le B x y=true->J1.g C vs x d->J1.g C vs y d
 |[],x,_,h,hx=>by
  simp_all [J1.le]
 |y::ys,x,_,h,hx=>by
  simp [J1.le] at h;cases x with
  |nil=>cases h
  |cons x xs =>
   simp [c7] at h;obtain ⟨d,ds,rfl,h1,h2⟩:=hx;exact ⟨d,ds,rfl,SD.cO y h.1 h1,J1.cO ys h.2 h2⟩
end
end
def SV.J3:SV->SV
 | .own _ x=> .d x
 | .O2=> .d (.lit (.slice 0 []))
 | .q x=> .d x
 |v=>v
def SV.one:SV->Bool
 | .top=>false
 | .any=>false
 | .agg _ _=>false
 | .tuple _=>false
 |_=>true
def SV.cells? :SV->Option (List SV)
 | .agg _ l=>if l.all SV.one then some l else none
 |v=>if v.one then some [v] else none
def SV.tag:SV->Option Nat
 | .agg p _=>p
 |_=>none
def SV.data? :SV->Option SD
 | .d x=>some x
 | .own _ x=>some x
 | .O2=>some (.lit (.slice 0 []))
 | .q x=>some x
 |_=>none
def kK :List SV->Option (List SD)
 |[]=>some []
 |v::vs=>match v.data? with
  |some x=>match kK vs with
   |some xs=>some (x::xs)
   |none=>none
  |none=>none
def ZM:c8->SV
 | .any=> .any
 | .d x=> .d (.lit x)
 | .own z len cells=> .own z (.lit (.slice len cells))
 | .O2=> .O2
 | .ptr a b=> .ptr a b
 | .B4 a b c e=> .B4 a b c e
 |_=> .top
def cC (T L:List SV):y5->SV
 | .loc j=>(L.getD j .any).J3
 | .slot s=>(T.getD s .any).J3
 | .const v=>ZM v.SU
section
variable {C:Ctx} {vs:List Nat}
theorem SV.rQ {x:SV}{v:c8}(h:x.g C vs v):x.J3.g C vs v.J3:=by
 cases x with
 |own sz x=>simp only [SV.g] at h;obtain ⟨len,cells,rfl,h1⟩:=h;simp only [SV.J3,c8.J3,SV.g];exact ⟨_,rfl,h1⟩
 |O2=>simp only [SV.g] at h;subst h;simp only [SV.J3,c8.J3,SV.g,SD.g];exact ⟨_,rfl,rfl⟩
 |top=>simp [SV.J3,SV.g]
 |any=>simp only [SV.g] at h;subst h;simp [SV.J3,c8.J3,SV.g]
 |d x=>have h' :=h;simp only [SV.g] at h;obtain ⟨y,rfl,h1⟩:=h;exact h'
 |ptr a b=>have h' :=h;simp only [SV.g] at h;subst h;exact h'
 |T4 a=>have h' :=h;simp only [SV.g] at h;obtain ⟨a,b,rfl,_⟩:=h;exact h'
 |B4 a b c e=>have h' :=h;simp only [SV.g] at h;subst h;exact h'
 |wp a b c e=>have h' :=h;simp only [SV.g] at h;obtain ⟨_,_,rfl⟩:=h;exact h'
 |agg p l=>have h' :=h;simp only [SV.g] at h;obtain ⟨cs,rfl,_⟩:=h;exact h'
 |tuple l=>have h' :=h;simp only [SV.g] at h;obtain ⟨cs,rfl,_⟩:=h;exact h'
 |bn k =>
  simp only [SV.g] at h;simp only [SV.J3,SV.g];cases v<;>simp_all [c8.J3,c8.O5,c8.one]
 |q x =>
  simp only [SV.g] at h;obtain ⟨y,h1,h2⟩:=h;simp only [SV.J3,h1,SV.g];exact ⟨_,rfl,h2⟩
def SV.BG {x:SV}{v:c8}(h:x.g C vs v)(h1:x.one=true):v.one=true:=by
 cases x<;>simp only [SV.one,j4] at h1<;>simp only [SV.g] at h
 .obtain ⟨y,rfl,_⟩:=h;rfl
 .obtain ⟨a,b,rfl,_⟩:=h;rfl
 .subst h;rfl
 .subst h;rfl
 .obtain ⟨a,b,rfl,_⟩:=h;rfl
 .subst h;rfl
 .exact h.2
 .obtain ⟨y,h1,_⟩:=h;cases v<;>simp only [c8.J3,reduceCtorEq] at h1<;>rfl
 .obtain ⟨_,_,rfl⟩:=h;rfl
theorem y7.BG:∀ {x:List SV} {v:List c8},y7.g C vs x v->x.all SV.one=true->v.all c8.one=true
 |[],_,h,_=>by simp_all [y7.g]
 |x::xs,_,h,h1=>by
  obtain ⟨d,ds,rfl,h2,h3⟩:=h;simp only [List.all_cons,c7] at h1 ⊢;exact ⟨SV.BG h2 h1.1,y7.BG h3 h1.2⟩
def SV.zK {x:SV}{v:c8}{l:List SV}(h:x.g C vs v)(h1:x.cells? =some l):∃ cs,v.cells? =some cs/\y7.g C vs l cs/\∀ k,x.tag=some k->C.Θ k (cs.map c8.J3):=by
 cases x with
 |agg p l' =>
  simp only [SV.cells?] at h1;split at h1
  .rename_i h2
   cases h1;obtain ⟨cs,rfl,h3,h4⟩:=h;exact ⟨cs,by simp [c8.cells?,y7.BG h3 h2],h3,h4⟩
  .cases h1
 |_ =>
  simp only [SV.cells?] at h1;split at h1
  .rename_i h2
   cases h1;have h3:=SV.BG h h2;refine ⟨[v],?_,by simp_all [y7.g],fun k h=>by cases h⟩;simp_all [c8.one,c8.cells?]<;>grind
  .cases h1
def SV.Nj {x:SV}{v:c8}{y:SD}(h:x.g C vs v)(h1:x.data? =some y):∃ d,v.data? =some d/\y.g C vs d:=by
 cases x<;>simp [SV.data?,reduceCtorEq,Option.some.injEq] at h1<;>subst h1<;>simp [SV.g] at h
 .obtain ⟨d,rfl,h2⟩:=h;exact ⟨d,rfl,h2⟩
 .obtain ⟨a,b,rfl,h2⟩:=h;exact ⟨_,rfl,h2⟩
 .subst h;exact ⟨_,rfl,by simp [SD.g]⟩
 .obtain ⟨d,h1,h2⟩:=h
  cases v<;>simp [c8.J3,reduceCtorEq,c8.d.injEq] at h1<;>subst h1<;>exact ⟨_,rfl,h2⟩
theorem qf:∀ {x:List SV} {v:List c8} {y:List SD},y7.g C vs x v->kK x=some y->∃ d,O0 v=some d/\J1.g C vs y d
 |[],_,_,h,h1=>by subst h;simp [kK,Option.some.injEq] at h1;subst h1;exact ⟨[],rfl,by simp [J1.g]⟩
 |x::xs,_,_,h,h1=>by
  obtain ⟨d,ds,rfl,h2,h3⟩:=h;simp [kK] at h1;split at h1
  .rename_i a ha
   split at h1
   .rename_i as has
    simp [Option.some.injEq] at h1;obtain ⟨e,e1,e2⟩:=SV.Nj h2 ha;obtain ⟨es,e3,e4⟩:=qf h3 has
    grind [O0,J1.g]
   .cases h1
  .cases h1
def WJ (v:c8):(ZM v).g C vs v:=by
 cases v<;>simp [ZM,SV.g,SD.g]
def VN {x:List SV}{v:List c8}(h:y7.g C vs x v)(j:Nat):(x.getD j .any).g C vs (v.getD j .any):=by
 grind [y7.none,SV.g,y7.get]
def HS {T L:List SV}{T' L' :List c8}(hT:y7.g C vs T T')(hL:y7.g C vs L L')(x:y5):(cC T L x).g C vs (J2 T' L' x):=by
 cases x with
 |loc j=>exact SV.rQ (VN hL j)
 |slot j=>exact SV.rQ (VN hT j)
 |const v=>exact WJ _
end
def srd (H:List SO)(id off n:Nat):Option (List SV):=match H[id]? with
 |some (.cells _ l)=>if E1 (off+n) l.length then some ((l.drop off).take n) else none
 |_=>none
def Ag (l:List SV)(off:Nat)(vs:List SV):List SV:=l.take off++vs++l.drop (off+vs.length)
def swr (H:List SO)(id off:Nat)(p:Option Nat)(vs:List SV):Option (List SO):=match H[id]? with
 |some (.cells _ l)=>if E1 (off+vs.length) l.length then some (H.set id (.cells (if s7 off 0&&s7 vs.length l.length then p else none) (Ag l off vs))) else none
 |_=>none
section
variable {C:Ctx} {vs:List Nat}
theorem EY {H:List SO}{H' :p9}{id off n:Nat}{l:List SV}(h:J6.g C vs H H')(h1:srd H id off n=some l):∃ cs,rd H' id off n=some cs/\y7.g C vs l cs:=by
 unfold srd at h1;split at h1
 .rename_i p l' hl
  split at h1
  .cases h1
   obtain ⟨o,h2,h3⟩:=J6.get h hl;obtain ⟨cs,rfl,h4,_⟩:=h3;refine ⟨(cs.drop off).take n,?_,y7.take (y7.drop h4 off) n⟩;have:=y7.len h4;simp_all [rd,if_pos]
  .cases h1
 .cases h1
def Fb {l vl:List SV}{l' vl' :List c8}(off:Nat)(h:y7.g C vs l l')(h1:y7.g C vs vl vl'):y7.g C vs (Ag l off vl) (splice l' off vl'):=by
 grind [Ag,splice,y7.len,y7.app,y7.take,y7.drop]
def bd8 {H H2:List SO}{H' :p9}{id off:Nat}{p:Option Nat}{vl:List SV}{cs:List c8}(h:J6.g C vs H H')(hv:y7.g C vs vl cs)(hp:∀ k,p=some k->C.Θ k (cs.map c8.J3))(h1:swr H id off p vl=some H2) :
  ∃ H3,wr H' id off cs=some H3/\J6.g C vs H2 H3:=by
 unfold swr at h1;split at h1
 .rename_i p' l hl
  split at h1
  .cases h1
   obtain ⟨o,h2,h3⟩:=J6.get h hl;obtain ⟨cs',rfl,h4,_⟩:=h3;have e1:=y7.len h4;have e2:=y7.len hv;refine ⟨H'.set id (.cells (splice cs' off cs)),?_,J6.set h id ⟨_,rfl,Fb off h4 hv,?_⟩⟩
   .simp_all [wr,if_pos]
   simp_all [c7,e8,splice,l6]
  .cases h1
 .cases h1
end
def BS (cells:List SV):List (Nat×Nat×SV)->Option (List SV)
 |[]=>some cells
 |(off,sz,v)::rest=>match v.cells? with
  |some l=>if s7 l.length sz&&E1 (off+sz) cells.length then BS (Ag cells off l) rest else none
  |none=>none
inductive UL (C:Ctx) (vs:List Nat):List (Nat×Nat×SV)->List (Nat×Nat×c8)->Prop where
 |nil:UL C vs [] []
 |cons {o s:Nat} {x:SV} {a:c8} {r r'}:x.g C vs a->UL C vs r r' ->UL C vs ((o,s,x)::r) ((o,s,a)::r')
theorem Ab {C:Ctx}{vs:List Nat}:∀ {ps:List (Nat×Nat×SV)} {qs:List (Nat×Nat×c8)} {cells l:List SV} {cs:List c8},UL C vs ps qs->y7.g C vs cells cs->BS cells ps=some l->∃ ds,cg cs qs=some ds/\y7.g C vs l ds
 |[],_,_,_,cs,hp,hc,h=>by
  cases hp;simp [BS,Option.some.injEq] at h;subst h;exact ⟨cs,rfl,hc⟩
 |(o,s,x)::r,_,_,_,cs,hp,hc,h=>by
  cases hp with
  |cons hx hr =>
   simp [BS] at h;split at h
   .rename_i l' hl
    split at h
    .obtain ⟨ds,h1,h2,_⟩:=SV.zK hx hl
     have e1:=y7.len h2;have e2:=y7.len hc;obtain ⟨es,h3,h4⟩:=Ab hr (Fb o hc h2) h;simp_all [cg,if_pos]
    .cases h
   .cases h
theorem uG {C:Ctx}{vs:List Nat}{σ:y5->SV}{ρ:y5->c8}(hρ:∀ x,(σ x).g C vs (ρ x)):∀ (parts:List (Nat×Nat×y5)),UL C vs (parts.map fun (o,s,x)=>(o,s,σ x)) (parts.map fun (o,s,x)=>(o,s,ρ x))
 |[]=> .nil
 |(_,_,x)::r=> .cons (hρ x) (uG hρ r)
theorem BF {C:Ctx}{vs:List Nat}:∀ l:List c8,y7.g C vs (l.map ZM) l
 |[]=>by simp [y7.g]
 |a::l=>by exact ⟨_,_,rfl,WJ a,BF l⟩
def mn:Int:= -9223372036854775808
def mx:Int:=9223372036854775807
def isI (k:IntKind):Bool:=UC k .i64
def SB.not:SB->SB
 | .tT=> .tT
 | .cmp i n p=> .cmp i n (!p)
def sLt:Int×Int×Rel->Int×Int×Rel->SD
 |(l1,h1,r1),(l2,h2,r2) =>
  if decide (h1<l2) then .lit (.bool true) else if decide (h2<=l1) then .lit (.bool false) else
  match r2,r1 with
  | .eq i,_=>if decide (l1=h1)&&decide (0<=l1) then .bool (.cmp i l1.toNat true) else .bool .tT
  |_,.eq i=>if decide (l2=h2)&&decide (1<=l2) then .bool (.cmp i (l2 - 1).toNat false) else .bool .tT
  |_,_=> .bool .tT
def SD.neg:SD->SD
 | .lit (.bool b)=> .lit (.bool (!b))
 | .bool c=> .bool c.not
 |_=> .top
def sEq:Int×Int×Rel->Int×Int×Rel->SD
 |(l1,h1,r1),(l2,h2,r2) =>
  if decide (h1<l2)||decide (h2<l1) then .lit (.bool false) else if decide (l1=h1)&&decide (l2=h2)&&decide (l1=l2) then .lit (.bool true) else
  match r1,r2 with
  | .eq i,_=>if decide (l2=h2)&&decide (l2=0) then .bool (.cmp i 0 false) else .bool .tT
  |_,.eq i=>if decide (l1=h1)&&decide (l1=0) then .bool (.cmp i 0 false) else .bool .tT
  |_,_=> .bool .tT
def rng (k:IntKind)(lo hi:Int)(r:Rel):Option SD:=if isI k&&decide (mn<=lo)&&decide (hi<=mx) then some (if decide (lo=hi) then .lit (.int k lo) else .int k lo hi r) else none
def PY (op:BinOp)(k:IntKind)(a b:Int×Int×Rel):Option SD :=
 match op with
 | .add=>rng k (a.1+b.1) (a.2.1+b.2.1) .no
 | .sub=>rng k (a.1 - b.2.1) (a.2.1 - b.1) .no
 | .mul=>if decide (0<=a.1)&&decide (0<=b.1) then rng k 0 (a.2.1 * b.2.1) .no else none
 | .quo=>if decide (0<=a.1)&&decide (b.1=b.2.1)&&decide (1<=b.1) then rng k (a.1.tdiv b.1) (a.2.1.tdiv b.1) .no else none
 | .rem=>if decide (1<=b.1) then (if decide (0<=a.1) then rng k 0 (min a.2.1 (b.2.1 - 1)) (match b.2.2 with| .eq i=> .lt i|_=> .no) else rng k (1 - b.2.1) (b.2.1 - 1) .no) else none
 | .eql=>some (sEq a b)
 | .neq=>some (sEq a b).neg
 | .lss=>some (sLt a b)
 | .gtr=>some (sLt b a)
 | .leq=>some (sLt b a).neg
 | .geq=>some (sLt a b).neg
 |_=>none
def XA (op:BinOp)(a b:Nat×Option (List UInt8)):Option SD :=
 match op with
 | .add=>if E1 (a.1+b.1) 4000000000 then (match a.2,b.2 with
  |some s,some t=>some (.lit (.str (s++t)))
  |_,_=>some (.str (a.1+b.1))) else none
 | .eql=>match a.2,b.2 with
  |some s,some t=>some (.lit (.bool (s==t)))
  |_,_=>some (.bool .tT)
 | .neq=>match a.2,b.2 with
  |some s,some t=>some (.lit (.bool (!(s==t))))
  |_,_=>some (.bool .tT)
 |_=>none
def aG0 (B:ji)(op:BinOp)(x y:SD):Option SD :=
 match x.int? B,y.int? B with
 |some (k,a),some (k',b)=>if UC k k' then PY op k a b else none
 |_,_=>match x.uV,y.uV with
  |some a,some b=>XA op a b
  |_,_=>none
section
variable {C:Ctx} {vs:List Nat} {B:ji}
def EM {k:IntKind}{lo hi:Int}{r:Rel}{x:SD}{n:Int}(h:rng k lo hi r=some x)(h1:lo<=n)(h2:n<=hi)(h3:r.g vs n):x.g C vs (.int k (k.wrap n))/\k.wrap n=n:=by
 unfold rng at h;split at h
 .rename_i hc
  simp [c7,decide_eq_true_eq] at hc;have e1:mn= -9223372036854775808:=rfl;have e2:mx=9223372036854775807:=rfl;have hk:k= .i64:=of_decide_eq_true hc.1.1;have e:IntKind.wrap .i64 n=n:=wrap_small (by omega) (by omega)
  grind [SD.g]
 .cases h
theorem PM {x:SD}{b:Bool}(h:x.g C vs (.bool b)):x.neg.g C vs (.bool (!b)):=by
 unfold SD.neg;split
 .simp_all [SD.g,Data.bool.injEq]
 .rename_i c
  obtain ⟨b',h1,h2⟩:=h;refine ⟨_,rfl,?_⟩;cases c with
  |tT=>trivial
  |cmp i n p =>
   obtain ⟨m,e1,e2⟩:=h2;refine ⟨m,e1,?_⟩
   grind
 .simp [SD.g]
theorem PZ {a b:Int×Int×Rel}{n m:Int}(h1:a.1<=n)(h2:n<=a.2.1)(h3:a.2.2.g vs n)(k1:b.1<=m)(k2:m<=b.2.1)(k3:b.2.2.g vs m):(sLt a b).g C vs (.bool (decide (n<m))):=by
 obtain ⟨l1,u1,r1⟩:=a;obtain ⟨l2,u2,r2⟩:=b;simp [sLt];split
 .grind [SD.g]
 .split
  .grind [SD.g]
  .split
   .split
    .obtain ⟨q,e1,e2⟩:=k3
     refine ⟨_,rfl,q,e1,?_⟩
     grind
    .exact ⟨_,rfl,trivial⟩
   .split
    .obtain ⟨q,e1,e2⟩:=h3
     refine ⟨_,rfl,q,e1,?_⟩
     grind
    .exact ⟨_,rfl,trivial⟩
   .exact ⟨_,rfl,trivial⟩
theorem as0 {a b:Int×Int×Rel}{n m:Int}(h1:a.1<=n)(h2:n<=a.2.1)(h3:a.2.2.g vs n)(k1:b.1<=m)(k2:m<=b.2.1)(k3:b.2.2.g vs m):(sEq a b).g C vs (.bool (n==m)):=by
 obtain ⟨l1,u1,r1⟩:=a;obtain ⟨l2,u2,r2⟩:=b;simp [sEq];split
 .simp_all [SD.g]<;>omega
 .split
  .grind [SD.g]
  .split
   .split
    .obtain ⟨q,e1,e2⟩:=h3
     refine ⟨_,rfl,q,e1,?_⟩
     grind
    .exact ⟨_,rfl,trivial⟩
   .split
    .obtain ⟨q,e1,e2⟩:=k3
     refine ⟨_,rfl,q,e1,?_⟩
     grind
    .exact ⟨_,rfl,trivial⟩
   .exact ⟨_,rfl,trivial⟩
def Fg {a b c:Int}(h0:0<=a)(h:a<=b)(hc:1<=c):a.tdiv c<=b.tdiv c:=by
 rw [Int.tdiv_eq_ediv_of_nonneg h0,Int.tdiv_eq_ediv_of_nonneg (by omega)];exact Int.ediv_le_ediv (by omega) h
def ai0 {op:BinOp}{k:IntKind}{a b:Int×Int×Rel}{n m:Int}{x:SD}(h1:a.1<=n)(h2:n<=a.2.1)(h3:a.2.2.g vs n)(k1:b.1<=m)(k2:m<=b.2.1)(k3:b.2.2.g vs m)(h:PY op k a b=some x) :
  ∃ d,cq op k n m=some d/\x.g C vs d:=by
 cases op<;>simp only [PY,reduceCtorEq,Option.some.injEq] at h<;>simp only [cq]
 case add=>exact ⟨_,rfl,(EM h (by omega) (by omega) trivial).1⟩
 case sub=>exact ⟨_,rfl,(EM h (by omega) (by omega) trivial).1⟩
 case mul =>
  split at h
  .rename_i hc
   simp [c7,decide_eq_true_eq] at hc;exact ⟨_,rfl,(EM h (Int.mul_nonneg (by omega) (by omega)) (Int.mul_le_mul (by omega) (by omega) (by omega) (by omega)) trivial).1⟩
  .cases h
 case quo =>
  split at h
  .rename_i hc
   simp [c7,decide_eq_true_eq] at hc;have hm:m=b.1:=by omega
   subst hm;rw [if_neg (by omega)];exact ⟨_,rfl,(EM h (Fg (by omega) (by omega) (by omega)) (Fg (by omega) (by omega) (by omega)) trivial).1⟩
  .cases h
 case rem =>
  split at h
  .rename_i hc
   simp [decide_eq_true_eq] at hc;have hm:0<m:=by omega
   have hlt:=Int.tmod_lt_of_pos n hm;split at h
   .rename_i oC
    simp [decide_eq_true_eq] at oC;have h0:=Int.tmod_nonneg (a:=n) m (by omega);have hle:n.tmod m<=n:=by
     by_cases hl:n<m
     .rw [Int.tmod_eq_of_lt (by omega) hl]
      omega
     .omega
    have:=(EM (C:=C) (vs:=vs) (n:=n.tmod m) h h0 (by omega) (by
     split
     .rename_i i hi
      rw [hi] at k3;obtain ⟨q,e1,e2⟩:=k3;exact ⟨q,e1,h0,by omega⟩
     .trivial))
    grind
   .have hge: -m<n.tmod m:=by
     by_cases hn:n<0
     .have e:n.tmod m= -((-n).tmod m):=by simp_all
      have:=Int.tmod_lt_of_pos (-n) hm;omega
     .have:=Int.tmod_nonneg (a:=n) m (by omega)
      omega
    have:=(EM (C:=C) (vs:=vs) (n:=n.tmod m) h (by omega) (by omega) trivial)
    grind
  .cases h
 case eql=>grind [as0]
 case neq=>grind [PM,as0]
 case lss=>grind [PZ]
 case gtr=>subst h;simp_all [PZ]
 case leq =>
  have:=PM (PZ (C:=C) k1 k2 k3 h1 h2 h3)
  grind [decide_not,decide]
 case geq =>
  have:=PM (PZ (C:=C) h1 h2 h3 k1 k2 k3)
  grind [decide_not,decide]
def ai1 {op:BinOp}{a b:Nat×Option (List UInt8)}{s t:List UInt8}{x:SD}(h1:s.length<=a.1)(h2:∀ u,a.2=some u->s=u)(k1:t.length<=b.1)(k2:∀ u,b.2=some u->t=u)(h:XA op a b=some x) :
  ∃ d,wq op s t=some d/\x.g C vs d:=by
 cases op<;>simp only [XA,reduceCtorEq] at h<;>simp only [wq]
 case add =>
  split at h
  .rename_i hc
   have hc:=j5 hc;rw [if_pos (by omega)]
   grind [SD.g]
  .cases h
 case eql =>
  refine ⟨_,rfl,?_⟩;split at h
  .grind [SD.g]
  .cases h
   exact ⟨_,rfl,trivial⟩
 case neq =>
  refine ⟨_,rfl,?_⟩;split at h
  .grind [SD.g]
  .cases h
   exact ⟨_,rfl,trivial⟩
def aG1 (hB:Bg vs B){op:BinOp}{x y z:SD}{a b:Data}(hx:x.g C vs a)(hy:y.g C vs b)(h:aG0 B op x y=some z):∃ d,P4 op a b=some d/\z.g C vs d:=by
 unfold aG0 at h;split at h
 .rename_i k p k' q hp hq
  split at h
  .rename_i hk
   have hk:k=k' :=of_decide_eq_true hk;obtain ⟨n,rfl,h1,h2,h3⟩:=SD.jQ hB hp hx;obtain ⟨m,rfl,k1,k2,k3⟩:=SD.jQ hB hq hy;obtain ⟨d,e1,e2⟩:=ai0 (C:=C) (vs:=vs) h1 h2 h3 k1 k2 k3 h;simp_all [ak,PY,P4]<;>grind
  .cases h
 .split at h
  .rename_i p q hp hq
   obtain ⟨p1,p2⟩:=p;obtain ⟨q1,q2⟩:=q;obtain ⟨s,rfl,h1,h2⟩:=SD.xA hp hx;obtain ⟨t,rfl,k1,k2⟩:=SD.xA hq hy;obtain ⟨d,e1,e2⟩:=ai1 (C:=C) (vs:=vs) (a:=(p1,p2)) (b:=(q1,q2)) h1 h2 k1 k2 h;simp_all [P4]
  .cases h
end
def SB.join:SB->SB->SB
 | .cmp i n p,.cmp j m q=>if s7 i j&&s7 n m&&(p==q) then .cmp i n p else .tT
 |_,_=> .tT
def Lq:Option Nat->Option Nat->Option Nat
 |some i,some j=>if s7 i j then some i else none
 |_,_=>none
def SD.strip:SD->SD
 | .pr _ x=>x.strip
 |x=>x
def PJ (a b:Data):SD:=match a,b with
 | .slice n cs,.slice m ds =>
  if s7 cs.length (n * (if s7 n 0 then ds.length / m else cs.length / n))&&s7 ds.length (m * (if s7 n 0 then ds.length / m else cs.length / n)) then
   .slice none (min n m) (max n m) (KM (if s7 n 0 then ds.length / m else cs.length / n) (rowsOf (if s7 n 0 then ds.length / m else cs.length / n) n cs++rowsOf (if s7 n 0 then ds.length / m else cs.length / n) m ds))
  else .top
 |a,b=>JS a b
def DN (x:SD)(b:Data):SD:=match x,b with
 | .slice _ lo hi row,.slice n cells=>if s7 cells.length (n * row.length) then .slice none (min lo n) (max hi n) ((rowsOf row.length n cells).foldl xk row) else .top
 | .anyI k,.int k' _=>if UC k k' then .anyI k else .top
 |x,b=>Ua x b
mutual
def SD.join:SD->SD->SD
 | .lit a,y=>match y with
  | .lit b=>if GG a b then .lit a else PJ a b
  |y=>DN y.strip a
 | .pr k x,y=>match y with
  | .pr k' y' =>if s7 k k' then .pr k (x.join y') else x.join y'
  |y=>x.join y
 | .int k lo hi r,y=>match y.strip with
  | .lit b=>DN (.int k lo hi r) b
  | .int k' lo' hi' r' =>if UC k k' then .int k (min lo lo') (max hi hi') (r.join r') else .top
  | .anyI k' =>if UC k k' then .anyI k else .top
  |_=> .top
 | .anyI k,y=>match y.strip with
  | .lit b=>DN (.anyI k) b
  | .int k' _ _ _=>if UC k k' then .anyI k else .top
  | .anyI k' =>if UC k k' then .anyI k else .top
  |_=> .top
 | .str m,y=>match y.strip with
  | .lit b=>DN (.str m) b
  | .str m' => .str (max m m')
  |_=> .top
 | .bool c,y=>match y.strip with
  | .lit b=>DN (.bool c) b
  | .bool c' => .bool (c.join c')
  |_=> .top
 | .slice v lo hi row,y=>match y.strip with
  | .lit b=>DN (.slice v lo hi row) b
  | .slice v' lo' hi' row' =>if s7 row.length row'.length then .slice (Lq v v') (min lo lo') (max hi hi') (J1.join row row') else .top
  |_=> .top
 | .top,_=> .top
def J1.join:List SD->List SD->List SD
 |x::xs,y::ys=>x.join y::J1.join xs ys
 |_,_=>[]
end
section
variable {C:Ctx} {vs:List Nat}
theorem SD.oo:∀ {x:SD} {d:Data},x.g C vs d->x.strip.g C vs d
 | .pr _ x,_,h=>by simp_all [SD.g,SD.strip,SD.oo]
 | .top,_,h=>h
 | .lit _,_,h=>h
 | .bool _,_,h=>h
 | .int ..,_,h=>h
 | .anyI _,_,h=>h
 | .str _,_,h=>h
 | .slice ..,_,h=>h
theorem PK (a b:Data):(PJ a b).g C vs a/\(PJ a b).g C vs b:=by
 unfold PJ;split
 .rename_i n cs m ds
  generalize (if s7 n 0 then ds.length / m else cs.length / n)=sz;split
  .rename_i hc
   simp only [c7] at hc;have c1:=e8 hc.1;have c2:=e8 hc.2;obtain ⟨e1,e2,e3⟩:=eU n cs c1;obtain ⟨f1,f2,f3⟩:=eU m ds c2;obtain ⟨g1,_⟩:=PW (C:=C) (vs:=vs) (sz:=sz) (rs:=rowsOf sz n cs++rowsOf sz m ds) (fun r hr=>(List.mem_append.1 hr).elim (e3 r) (f3 r))
   grind [SD.g,List.mem_append_left,List.mem_append_right]
  .simp [SD.g]
 .exact GX a b
theorem xm {x:SD}{a:Data}(b:Data)(h:x.g C vs a):(DN x b).g C vs a:=by
 unfold DN;split
 .rename_i v lo hi row n cells
  split
  .rename_i hc
   have hc:=e8 hc;simp [SD.g] at h ⊢;obtain ⟨e1,e2,e3⟩:=eU n cells hc;obtain ⟨f1,_,_⟩:=zP (C:=C) (vs:=vs) (rowsOf row.length n cells) row rfl e3
   grind [J1.len]
  .simp [SD.g]
 all_goals grind [SD.g,XF]
theorem xq (x:SD)(b:Data):(DN x b).g C vs b:=by
 unfold DN;split
 .rename_i v lo hi row n cells
  split
  .rename_i hc
   have hc:=e8 hc;simp [SD.g];obtain ⟨e1,e2,e3⟩:=eU n cells hc;obtain ⟨_,f2,_⟩:=zP (C:=C) (vs:=vs) (rowsOf row.length n cells) row rfl e3
   grind
  .simp [SD.g]
 .split
  .rename_i k k' n hk
   have hk:k=k' :=of_decide_eq_true hk;simp_all [SD.g]
  .simp [SD.g]
 .exact XG _ b
theorem SB.U7 {a b:SB}{t:Bool}(h:a.g vs t):(a.join b).g vs t:=by
 unfold SB.join;split
 .split
  .exact h
  .trivial
 .trivial
theorem SB.U8 {a b:SB}{t:Bool}(h:b.g vs t):(a.join b).g vs t:=by
 unfold SB.join;split
 .split
  .simp_all
  .trivial
 .trivial
theorem Rel.U7 {a b:Rel}{t:Int}(h:a.g vs t):(a.join b).g vs t:=by
 unfold Rel.join;split
 .split
  .exact h
  .trivial
 .split
  .exact h
  .trivial
 .trivial
theorem Rel.U8 {a b:Rel}{t:Int}(h:b.g vs t):(a.join b).g vs t:=by
 unfold Rel.join;split
 .split
  .simp_all
  .trivial
 .split
  .simp_all
  .trivial
 .trivial
def ak7 {v w:Option Nat}{m:Nat}(h:∀ i,v=some i->vs[i]? =some m):∀ i,Lq v w=some i->vs[i]? =some m:=by
 simp_all [Lq]<;>grind
def ak8 {v w:Option Nat}{m:Nat}(h:∀ i,w=some i->vs[i]? =some m):∀ i,Lq v w=some i->vs[i]? =some m:=by
 simp_all [Lq]<;>grind
mutual
theorem SD.U7:∀ (x y:SD) {d:Data},x.g C vs d->(x.join y).g C vs d
 | .lit a,y,_,h=>by
  simp [SD.join]
  grind [SD.g,PK,xq]
 | .pr k x,y,_,h=>by
  simp [SD.join];split
  .split
   .exact ⟨h.1,SD.U7 x _ h.2⟩
   .exact SD.U7 x _ h.2
  .exact SD.U7 x _ h.2
 | .int k lo hi r,y,_,h=>by
  grind [SD.join,xm,SD.g,Rel.U7]
 | .anyI k,y,_,h=>by
  grind [SD.join,xm,SD.g]
 | .str m,y,_,h=>by
  grind [SD.join,xm,SD.g]
 | .bool c,y,_,h=>by
  grind [SD.join,xm,SD.g,SB.U7]
 | .slice v lo hi row,y,_,h=>by
  simp only [SD.join];split
  .exact xm _ h
  .split
   .rename_i hc
    have hc:=e8 hc;obtain ⟨rows,rfl,h1,h2,h3,h4⟩:=h;exact ⟨rows,rfl,by omega,by omega,ak7 h3,fun r hr=>J1.U7 row _ hc (h4 r hr)⟩
   .simp [SD.g]
  .simp [SD.g]
 | .top,y,_,h=>by simp [SD.join,SD.g]
theorem J1.U7:∀ (x y:List SD) {d:List Data},x.length=y.length->J1.g C vs x d->J1.g C vs (J1.join x y) d
 |[],[],_,_,h=>by grind [J1.join]
 |[],_::_,_,hl,h=>by simp at hl
 |_::_,[],_,hl,h=>by simp at hl
 |x::xs,y::ys,_,hl,h=>by
  obtain ⟨d,ds,rfl,h1,h2⟩:=h;exact ⟨_,_,rfl,SD.U7 x y h1,J1.U7 xs ys (by simp_all) h2⟩
end
mutual
theorem SD.U8:∀ (x y:SD) {d:Data},y.g C vs d->(x.join y).g C vs d
 | .lit a,y,_,h=>by
  simp [SD.join];split
  .split
   .grind [GH]
   simp_all [SD.g,PK]
  .exact xm _ (SD.oo h)
 | .pr k x,y,_,h=>by
  simp only [SD.join];split
  .split
   .rename_i hc
    rw [e8 hc];exact ⟨h.1,SD.U8 x _ h.2⟩
   .exact SD.U8 x _ h.2
  .exact SD.U8 x _ h
 | .int k lo hi r,y,_,h=>by
  have h:=SD.oo h;simp [SD.join];split
  .simp_all [SD.g,xq]
  .split
   .rename_i hk
    have hk:=of_decide_eq_true hk
    grind [SD.g,Rel.U8]
   .simp [SD.g]
  .split
   .rename_i hk
    have hk:=of_decide_eq_true hk;simp_all
   .simp [SD.g]
  .simp [SD.g]
 | .anyI k,y,_,h=>by
  have h:=SD.oo h;simp [SD.join];split
  .simp_all [SD.g,xq]
  .split
   .rename_i hk
    have hk:=of_decide_eq_true hk
    grind [SD.g]
   .simp [SD.g]
  .split
   .rename_i hk
    have hk:=of_decide_eq_true hk;simp_all
   .simp [SD.g]
  .simp [SD.g]
 | .str m,y,_,h=>by
  have h:=SD.oo h
  grind [SD.join,SD.g,xq]
 | .bool c,y,_,h=>by
  have h:=SD.oo h
  grind [SD.join,SD.g,xq,SB.U8]
 | .slice v lo hi row,y,_,h=>by
  have h:=SD.oo h;simp only [SD.join];split
  .simp_all [SD.g,xq]
  .rename_i e
   rw [e] at h;split
   .rename_i hc
    have hc:=e8 hc;obtain ⟨rows,rfl,h1,h2,h3,h4⟩:=h;exact ⟨rows,rfl,by omega,by omega,ak8 h3,fun r hr=>J1.U8 row _ hc (h4 r hr)⟩
   .simp [SD.g]
  .simp [SD.g]
 | .top,y,_,h=>by simp [SD.join,SD.g]
theorem J1.U8:∀ (x y:List SD) {d:List Data},x.length=y.length->J1.g C vs y d->J1.g C vs (J1.join x y) d
 |[],[],_,_,h=>by grind [J1.join]
 |[],_::_,_,hl,h=>by simp at hl
 |_::_,[],_,hl,h=>by simp at hl
 |x::xs,y::ys,_,hl,h=>by
  obtain ⟨d,ds,rfl,h1,h2⟩:=h;exact ⟨_,_,rfl,SD.U8 x y h1,J1.U8 xs ys (by simp_all) h2⟩
end
theorem J1.JO:∀ (x y:List SD),x.length=y.length->(J1.join x y).length=x.length
 |[],[],_=>rfl
 |[],_::_,h=>by simp at h
 |_::_,[],h=>by simp at h
 |x::xs,y::ys,h=>by simp_all [J1.join,p8,J1.JO]
end
def yA (sz:Nat):Nat->List SD->List (List SD)
 |0,_=>[]
 |n+1,cs=>cs.take sz::yA sz n (cs.drop sz)
def XB (sz:Nat):List (List SD)->List SD
 |[]=>c9 sz .top
 |r::rs=>rs.foldl J1.join r
def JR :List SD->Option (List Data)
 |[]=>some []
 | .lit d::r=>match JR r with
  |some ds=>some (d::ds)
  |none=>none
 |_=>none
def mkSlice (sz len:Nat)(xs:List SD):SD:=match JR xs with
 |some ds=> .lit (.slice len ds)
 |none=> .slice none len len (XB sz (yA sz len xs))
section
variable {C:Ctx} {vs:List Nat}
theorem Wq:∀ {xs:List SD} {ds es:List Data},JR xs=some ds->J1.g C vs xs es->es=ds
 |[],_,_,h,hg=>by simp_all [JR,Option.some.injEq,J1.g]
 |x::xs,_,_,h,hg=>by
  obtain ⟨d,ds',rfl,h1,h2⟩:=hg;cases x<;>simp [JR,reduceCtorEq] at h;split at h
  .rename_i ds hds
   cases h;rw [h1,Wq hds h2]
  .cases h
theorem KQ {sz:Nat}:∀ (rs:List (List SD)) (x:List SD),x.length=sz->(∀ r,r ∈ rs->r.length=sz)->(∀ a,J1.g C vs x a->J1.g C vs (rs.foldl J1.join x) a)/\(∀ r a,r ∈ rs->J1.g C vs r a->J1.g C vs (rs.foldl J1.join x) a)/\(rs.foldl J1.join x).length=sz
 |[],x,hx,_=>⟨fun a h=>h,by simp,hx⟩
 |r::rs,x,hx,hr=>by
  have hl:(J1.join x r).length=sz:=by simp_all [J1.JO]
  obtain ⟨h1,h2,h3⟩:=KQ rs (J1.join x r) hl (fun r' h=>hr r' (by simp [h]))
  grind [J1.U7,J1.U8]
theorem J1.take {x:List SD}:∀ {d:List Data},J1.g C vs x d->∀ n,J1.g C vs (x.take n) (d.take n):=by
 induction x with
 |nil=>simp_all [J1.g]
 |cons x xs ih =>
  intro d h n;cases n with
  |zero=>simp [J1.g]
  |succ n=>grind [J1.g]
theorem J1.drop {x:List SD}:∀ {d:List Data},J1.g C vs x d->∀ n,J1.g C vs (x.drop n) (d.drop n):=by
 induction x with
 |nil=>simp_all [J1.g]
 |cons x xs ih =>
  intro d h n;have h' :=h;obtain ⟨d,ds,rfl,h2,h3⟩:=h;cases n with
  |zero=>exact h'
  |succ n=>simp_all
theorem Qa {sz:Nat}:∀ (n:Nat) {xs:List SD} {ds:List Data},xs.length=n * sz->J1.g C vs xs ds ->
  ∃ rows:List (List Data),rows.flatten=ds/\rows.length=n/\(∀ r,r ∈ yA sz n xs->r.length=sz)/\∀ r,r ∈ rows->∃ s,s ∈ yA sz n xs/\J1.g C vs s r
 |0,xs,ds,hl,h=>by
  have:xs=[]:=List.eq_nil_of_length_eq_zero (by omega);subst this;simp only [J1.g] at h;subst h;exact ⟨[],rfl,rfl,by simp [yA],by simp⟩
 |n+1,xs,ds,hl,h=>by
  rw [Nat.succ_mul] at hl;obtain ⟨rows,h1,h2,h3,h4⟩:=Qa (sz:=sz) n (xs:=xs.drop sz) (by simp;omega) (J1.drop h sz);refine ⟨ds.take sz::rows,by simp [h1],by simp [h2],fun r hr=> ?_,fun r hr=> ?_⟩
  .grind [yA]
  .rcases B8.1 hr with rfl|hr
   all_goals simp_all [yA,J1.take]
def qY {sz len:Nat}{xs:List SD}{ds:List Data}(hl:xs.length=len * sz)(h:J1.g C vs xs ds):(mkSlice sz len xs).g C vs (.slice len ds):=by
 unfold mkSlice;split
 .grind [SD.g,Wq]
 .obtain ⟨rows,h1,h2,h3,h4⟩:=Qa len hl h
  refine ⟨rows,by rw [h1,h2],by omega,by omega,(fun i e=>by cases e),fun r hr=> ?_⟩;obtain ⟨s,h5,h6⟩:=h4 r hr;cases hs:yA sz len xs with
  |nil=>simp_all
  |cons q qs =>
   rw [hs] at h5 h3;obtain ⟨f1,f2,_⟩:=KQ (C:=C) (vs:=vs) qs q (h3 q (by simp)) (fun r hr=>h3 r (by simp [hr]))
   grind [XB]
end
def exact? (B:ji)(x:SD):Option Int:=match x.int? B with
 |some (_,a,b,_)=>if decide (a=b) then some a else none
 |none=>none
def ES (σ:y5->SV)(B:ji)(dl dh:Int):Option y5->Option (Int×Int)
 |none=>some (dl,dh)
 |some x=>match σ x with
  | .d y=>match y.int? B with
   |some (_,a,b,_)=>some (a,b)
   |none=>none
  |_=>none
def Wn (v:Option Nat)(lo hi:Nat):SD:=if s7 lo hi then .lit (.int .i64 lo) else .int .i64 lo hi (match v with|some i=> .eq i|none=> .no)
def inR:Rel->Option Nat->Bool
 | .lt p,some q=>s7 p q
 |_,_=>false
def BZ (σ:y5->SV)(H:List SO)(B:ji):x9->Option (SV×List Nat)
 | .pick c a b=>match σ c with
  | .d x=>match x.bool? with
   |some (.t t)=>some (if t then σ a else σ b,[])
   |_=>none
  |_=>none
 | .build zero parts=>match BS (zero.map ZM) (parts.map fun (o,s,x)=>(o,s,σ x)) with
  |some cs=>some (.agg none cs,[])
  |none=>none
 | .F5 sz len zero parts false=>match BS (zero.map ZM) (parts.map fun (o,s,x)=>(o,s,σ x)) with
  |some cs=>match kK cs with
   |some xs=>if Nat.blt 0 sz&&s7 xs.length (len * sz) then some (.own sz (mkSlice sz len xs),[]) else none
   |none=>none
  |none=>none
 | .load none x=>match σ x with
  | .ptr id off=>match srd H id off 1 with
   |some [v]=>some (v.J3,[id])
   |_=>none
  | .T4 (c::_)=>some (.d c,[])
  |_=>none
 | .load (some n) x=>match σ x with
  | .ptr id off=>match H[id]? with
   |some (.cells p l)=>if E1 (off+n) l.length then some (.agg (if s7 off 0&&s7 n l.length then p else none) (((l.drop off).take n).map SV.J3),[id]) else none
   |_=>none
  | .T4 row=>if E1 n row.length then some (.agg none ((row.take n).map .d),[]) else none
  |_=>none
 | .aV x=>match σ x with
  | .ptr id off=>some (.ptr id off,[])
  | .wp id lo z c=>some (.wp id lo z c,[])
  | .T4 row=>some (.T4 row,[])
  |_=>none
 | .bin op x y=>match σ x,σ y with
  | .d a,.d b=>match aG0 B op a b with
   |some z=>some (.d z,[])
   |none=>none
  |_,_=>none
 | .s9 _ x y=>match σ x,σ y with
  | .d a,.d b=>match a.bool?,b.bool? with
   |some _,some _=>some (.d (.bool .tT),[])
   |_,_=>none
  |_,_=>none
 | .un .not x=>match σ x with
  | .d a=>match a.bool? with
   |some (.t b)=>some (.d (.lit (.bool (!b))),[])
   |some (.u c)=>some (.d (.bool c.not),[])
   |none=>none
  |_=>none
 | .oA k x=>match σ x with
  | .d a=>match a.kind? with
   |some _=>some (.d (.anyI k),[])
   |none=>none
  |_=>none
 | .lu x=>match σ x with
  | .d a=>match a.slice? B 1 with
   |some (_,_,hi,[c])=>match c.kind? with
    |some .u8=>some (.d (.str hi),[])
    |_=>none
   |_=>none
  |_=>none
 | .aW sz x lo hi=>match σ x with
  | .d a=>match a.slice? B sz with
   |some (_,l1,l2,row)=>match ES σ B 0 0 lo,hi with
    |some (a1,a2),none=>if decide (0<=a1)&&decide (a2<=l1) then some (.d (.slice none (l1 - a2.toNat) (l2 - a1.toNat) row),[]) else none
    |some (a1,a2),some h=>match ES σ B 0 0 (some h) with
     |some (b1,b2)=>if decide (0<=a1)&&decide (a2<=b1)&&decide (b2<=l1) then some (.d (.slice none (b1 - a2).toNat (b2 - a1).toNat row),[]) else none
     |none=>none
    |_,_=>none
   |none=>none
  | .B4 id z a len=>match ES σ B 0 0 lo,ES σ B len len hi with
   |some (a1,a2),some (b1,b2)=>if decide (a1=a2)&&decide (b1=b2)&&decide (0<=a1)&&decide (a1<=b1)&&decide (b1<=len)&&s7 z sz then
     (if decide (a1=b1) then some (.d (.lit (.slice 0 [])),[]) else some (.B4 id sz (a+a1.toNat * sz) (b1 - a1).toNat,[])) else none
   |_,_=>none
  |_=>none
 | .off k x=>match σ x with
  | .ptr id off=>some (.ptr id (off+k),[])
  | .wp id lo z c=>some (.wp id (lo+k) z c,[])
  | .T4 row=>if E1 k row.length then some (.T4 (row.drop k),[]) else none
  |_=>none
 | .N8 sz x i=>match σ x,σ i with
  | .d a,.d j=>match a.slice? B sz,j.int? B with
   |some (v,lo,_,row),some (_,j1,j2,r)=>if decide (0<=j1)&&(decide (j2<lo)||inR r v) then some (.T4 row,[]) else none
   |_,_=>none
  | .B4 id z lo len,.d j=>match exact? B j with
   |some n=>if decide (0<=n)&&decide (n<len)&&s7 z sz then some (.ptr id (lo+n.toNat * sz),[]) else none
   |none=>match j.int? B with
    |some (_,a,b,_)=>if decide (0<=a)&&decide (b<len)&&s7 z sz then some (.wp id lo sz len,[]) else none
    |none=>none
  |_,_=>none
 | .extract x i=>match σ x with
  | .tuple vs=>match vs[i]? with
   |some v=>some (v,[])
   |none=>none
  |_=>none
 | .len x=>match σ x with
  | .d a=>match a.tA B with
   |some (v,lo,hi)=>some (.d (Wn v lo hi),[])
   |none=>none
  | .B4 _ _ _ len=>some (.d (.lit (.int .i64 len)),[])
  |_=>none
 | .W5 x=>match σ x with
  | .d a=>match a.uV with
   |some (m,none)=>some (.d (.int .i64 0 m .no),[])
   |some (_,some s)=>some (.d (.lit (.int .i64 s.length)),[])
   |none=>none
  |_=>none
 |_=>none
section
variable {C:Ctx} {vs:List Nat} {B:ji}
theorem bG {x:SD}{v:c8}(h:(SV.d x).g C vs v):∃ d,v= .d d/\x.g C vs d:=by simp_all [SV.g]
theorem tE {z:Nat}{x:SD}{v:c8}(h:(SV.own z x).g C vs v):∃ len cells,v= .own z len cells/\x.g C vs (.slice len cells):=by simp_all [SV.g]
theorem cK {x:SD}{d:Data}(h:x.g C vs d):(SV.d x).g C vs (.d d):=by simp_all [SV.g]
def cw {id off:Nat}{v:c8}(h:(SV.ptr id off).g C vs v):v= .ptr id off:=by simp_all [SV.g]
def om {id off a b:Nat}{v:c8}(h:(SV.B4 id off a b).g C vs v):v= .B4 id off a b:=by simp_all [SV.g]
def zQ {row:List SD}{v:c8}(h:(SV.T4 row).g C vs v):∃ cells rest,v= .T4 (cells++rest)/\J1.g C vs row cells:=by simp_all [SV.g]
def ae4 {v:Option Nat}{lo hi n:Nat}(h1:lo<=n)(h2:n<=hi)(h3:∀ i,v=some i->vs[i]? =some n):(Wn v lo hi).g C vs (.int .i64 n):=by
 unfold Wn;split
 .grind [e8,SD.g]
 .refine ⟨_,rfl,by omega,by omega,?_⟩
  split
  .exact ⟨n,h3 _ rfl,rfl⟩
  .trivial
def aa9 (hB:Bg vs B){x:SD}{d:Data}{n:Int}(h:exact? B x=some n)(hx:x.g C vs d):∃ k,d= .int k n:=by
 unfold exact? at h;split at h
 .split at h
  .grind [SD.jQ]
  .cases h
 .cases h
def BP (hB:Bg vs B){σ:y5->SV}{ρ:y5->c8}(hρ:∀ x,(σ x).g C vs (ρ x)){dl dh a b:Int}{n:Nat}{o:Option y5}(hn:o=none->dl<=n/\(n:Int)<=dh)(h:ES σ B dl dh o=some (a,b)):∃ m,X4 ρ n o=some m/\a<=m/\m<=b:=by
 cases o with
 |none=>obtain ⟨rfl,rfl⟩:=h;exact ⟨n,rfl,hn rfl⟩
 |some x =>
  have h1:=hρ x;simp [ES] at h;split at h
  .rename_i y hy
   rw [hy] at h1;split at h
   .rename_i k p q r hi
    obtain ⟨d,e,h1⟩:=bG h1;obtain ⟨m,rfl,h2,h3,_⟩:=SD.jQ hB hi h1;simp_all [X4]
   .cases h
  .cases h
theorem y7.NP:∀ {x:List SD} {d:List Data},J1.g C vs x d->y7.g C vs (x.map .d) (d.map .d)
 |[],_,h=>by simp_all [J1.g,y7.g]
 |x::xs,_,h=>by
  obtain ⟨d,ds,rfl,h1,h2⟩:=h;exact ⟨_,_,rfl,cK h1,y7.NP h2⟩
theorem PX {sz:Nat}:∀ {rows:List (List Data)} {i:Nat},(∀ r,r ∈ rows->r.length=sz)->i<rows.length->∃ r,r ∈ rows/\rows.flatten.drop (i * sz)=r++rows.flatten.drop ((i+1) * sz)
 |[],i,_,h=>by simp at h
 |r::rows,0,hr,h=>by
  simp_all
 |r::rows,i+1,hr,h=>by
  obtain ⟨q,h1,h2⟩:=PX (rows:=rows) (i:=i) (fun r h=>hr r (by simp [h])) (by simpa using h);simp_all [List.flatten_cons,List.drop_append,l6,Nat.succ_mul,Nat.add_sub_cancel]
theorem mD {sz:Nat}:∀ {rows:List (List Data)},(∀ r,r ∈ rows->r.length=sz)->rows.flatten.length=rows.length * sz
 |[],_=>by simp
 |r::rows,h=>by
  have:=mD (rows:=rows) (fun r hr=>h r (by simp [hr]))
  grind
theorem Cl {sz:Nat}:∀ {rows:List (List Data)},(∀ r,r ∈ rows->r.length=sz)->∀ i,rows.flatten.take (i * sz)=(rows.take i).flatten
 |[],_,i=>by simp
 |r::rows,h,0=>by simp
 |r::rows,h,i+1=>by
  have:=Cl (rows:=rows) (fun r hr=>h r (by simp [hr])) i;simp_all [List.flatten_cons,List.take_succ_cons,List.take_append,y6,Nat.succ_mul,Nat.add_sub_cancel]
theorem AM {sz:Nat}:∀ {rows:List (List Data)},(∀ r,r ∈ rows->r.length=sz)->∀ i,rows.flatten.drop (i * sz)=(rows.drop i).flatten
 |[],_,i=>by simp
 |r::rows,h,0=>by simp
 |r::rows,h,i+1=>by
  have:=AM (rows:=rows) (fun r hr=>h r (by simp [hr])) i;simp_all [List.flatten_cons,List.drop_succ_cons,List.drop_append,l6,Nat.succ_mul,Nat.add_sub_cancel]
def WS {sz:Nat}{row:List SD}{rows:List (List Data)}{a b l1 l2:Nat}(hw:row.length=sz)(hr:∀ r,r ∈ rows->J1.g C vs row r)(hab:a<=b)(hb:b<=rows.length)(h1:l1<=b - a)(h2:b - a<=l2) :
  (SD.slice none l1 l2 row).g C vs (.slice ((b:Int) - a).toNat ((rows.flatten.take (b * sz)).drop (a * sz))):=by
 have hrl:∀ r,r ∈ rows->r.length=sz:=fun r h=>by grind [J1.len]
 grind [List.mem_of_mem_take,Cl,AM,SD.g,List.mem_of_mem_drop]
theorem OU {c:SD}(hk:c.kind? =some .u8):∀ {rows:List (List Data)},(∀ r,r ∈ rows->J1.g C vs [c] r)->∃ bs,iw rows.flatten=some bs/\bs.length=rows.length
 |[],_=>⟨[],rfl,rfl⟩
 |r::rows,h=>by
  obtain ⟨bs,h1,h2⟩:=OU hk (rows:=rows) (fun r hr=>h r (by simp [hr]));have h3:=h r (by simp)
  grind [J1.g,SD.zR,UInt8.ofNat,iw]
def aj6 (hB:Bg vs B){σ:y5->SV}{ρ:y5->c8}(hρ:∀ x,(σ x).g C vs (ρ x)){H:List SO}{H' :p9}(hH:J6.g C vs H H'){op:x9}{v:SV}{rs:List Nat}(h:BZ σ H B op=some (v,rs)) :
  ∃ r,o6 ρ H' op=some (r,rs)/\v.g C vs r:=by
 cases op<;>simp only [BZ,reduceCtorEq] at h
 case pick c a b =>
  have hc:=hρ c;split at h
  .rename_i x hx
   rw [hx] at hc;obtain ⟨d,e1,hd⟩:=bG hc;split at h
   .rename_i t ht
    obtain ⟨t',rfl,e2⟩:=SD.fC ht hd;simp only at e2;subst e2;cases h;refine ⟨_,(by simp only [o6,e1];rfl),?_⟩;cases t' <;>exact hρ _
   .cases h
  .cases h
 case build zero parts =>
  split at h
  .rename_i cs hcs
   cases h;obtain ⟨ds,h1,h2⟩:=Ab (uG hρ parts) (BF zero) hcs;exact ⟨_,(by simp only [o6,h1];rfl),by simp only [SV.g];exact ⟨_,rfl,h2,fun k h=>by cases h⟩⟩
  .cases h
 case F5 sz len zero parts ob =>
  cases ob<;>simp only [BZ,reduceCtorEq] at h;split at h
  .rename_i cs hcs
   split at h
   .rename_i xs hxs
    split at h
    .rename_i hc
     simp only [c7] at hc;have c1:=j5 hc.1;have c2:=e8 hc.2;cases h;obtain ⟨ds,h1,h2⟩:=Ab (uG hρ parts) (BF zero) hcs;obtain ⟨es,h3,h4⟩:=qf h2 hxs;have hl:=J1.len h4;refine ⟨.own sz len es,?_,by simp only [SV.g];exact ⟨_,_,rfl,qY c2 h4⟩⟩;simp only [o6,h1,h3];rw [if_pos ⟨by omega,by omega⟩]
    .cases h
   .cases h
  .cases h
 case load n x =>
  have hx:=hρ x;cases n with
  |none =>
   simp only [BZ] at h;split at h
   .rename_i id off e
    rw [e] at hx;have e1:=cw hx;split at h
    .rename_i w hw
     cases h;obtain ⟨cs,h1,h2⟩:=EY hH hw;simp only [y7.g] at h2;obtain ⟨a,_,rfl,h3,rfl⟩:=h2;exact ⟨_,(by simp only [o6,e1,h1]),SV.rQ h3⟩
    .cases h
   .rename_i c row e
    rw [e] at hx;obtain ⟨cells,rest,e1,h1⟩:=zQ hx;cases h;simp only [J1.g] at h1;obtain ⟨d,ds,rfl,h2,h3⟩:=h1;exact ⟨.d d,by simp only [o6,e1,F8],cK h2⟩
   .cases h
  |some n =>
   simp only [BZ] at h;split at h
   .rename_i id off e
    rw [e] at hx;have e1:=cw hx;split at h
    .rename_i p l hl
     split at h
     .rename_i hc
      have hc:=j5 hc;cases h;obtain ⟨o,h1,h2⟩:=J6.get hH hl;obtain ⟨cs,rfl,h3,h4⟩:=h2;have hlen:=y7.len h3;refine ⟨.agg (((cs.drop off).take n).map c8.J3),?_,?_⟩
      .simp only [o6,e1,rd,h1]
       rw [if_pos (by omega)]
      .simp only [SV.g]
       refine ⟨_,rfl,y7.map (fun _ _=>SV.rQ) (y7.take (y7.drop h3 off) n),fun k hk=> ?_⟩;split at hk
       .rename_i oC
        simp only [c7] at oC;have c1:=e8 oC.1;have c2:=e8 oC.2;subst c1;have:(cs.drop 0).take n=cs:=by rw [List.drop_zero,y6 (by omega)]
        rw [this];have e3:(cs.map c8.J3).map c8.J3=cs.map c8.J3:=by
         rw [List.map_map]
         congr 1
         funext v
         cases v<;>rfl
        rw [e3];exact h4 k hk
       .cases hk
     .cases h
    .cases h
   .rename_i row e
    rw [e] at hx;obtain ⟨cells,rest,e1,h1⟩:=zQ hx;split at h
    .rename_i hc
     have hc:=j5 hc;cases h;have hlen:=J1.len h1;refine ⟨.agg ((cells.take n).map .d),?_,?_⟩
     .simp only [o6,e1]
      rw [if_pos (by simp;omega),List.take_append_of_le_length (by omega)]
     .simp only [SV.g]
      exact ⟨_,rfl,y7.NP (J1.take h1 n),fun k h=>by cases h⟩
    .cases h
   .cases h
 case aV x =>
  have hx:=hρ x;split at h
  .rename_i id off e
   cases h;rw [e] at hx;exact ⟨_,(by simp only [o6,cw hx];rfl),by simp only [SV.g]⟩
  .rename_i id lo z c e
   cases h;rw [e] at hx;simp only [SV.g] at hx;obtain ⟨j,j1,j2⟩:=hx;exact ⟨_,(by simp only [o6,j2];rfl),by simp only [SV.g];exact ⟨j,j1,rfl⟩⟩
  .rename_i row e
   cases h;rw [e] at hx;obtain ⟨cells,rest,e1,h1⟩:=zQ hx;exact ⟨_,(by simp only [o6,e1];rfl),by simp only [SV.g];exact ⟨_,_,rfl,h1⟩⟩
  .cases h
 case bin op x y =>
  have hx:=hρ x;have hy:=hρ y;split at h
  .rename_i a b ea eb
   rw [ea] at hx;rw [eb] at hy;obtain ⟨d,e1,h1⟩:=bG hx;obtain ⟨f,e2,h2⟩:=bG hy;split at h
   .rename_i z hz
    cases h;obtain ⟨r,h3,h4⟩:=aG1 hB h1 h2 hz;exact ⟨.d r,by simp only [o6,e1,e2,h3],cK h4⟩
   .cases h
  .cases h
 case un op x =>
  cases op<;>simp only [BZ,reduceCtorEq] at h;have hx:=hρ x;split at h
  .rename_i a ea
   rw [ea] at hx;obtain ⟨d,e1,h1⟩:=bG hx;split at h
   .rename_i b hb
    cases h;obtain ⟨b',rfl,e2⟩:=SD.fC hb h1;simp only at e2;subst e2;exact ⟨_,(by simp only [o6,e1,Cu];rfl),cK (by simp [SD.g])⟩
   .rename_i c hc
    cases h;obtain ⟨b',rfl,e2⟩:=SD.fC hc h1;have:=PM (C:=C) (vs:=vs) (x:= .bool c) (b:=b') (by simp only [SD.g];exact ⟨_,rfl,e2⟩);exact ⟨_,(by simp only [o6,e1,Cu]),cK this⟩
   .cases h
  .cases h
 case s9 neg x y =>
  have hx:=hρ x;have hy:=hρ y;split at h
  .rename_i a b ea eb
   rw [ea] at hx;rw [eb] at hy;obtain ⟨d,e1,h1⟩:=bG hx;obtain ⟨f,e2,h2⟩:=bG hy;split at h
   .rename_i p q hp hq
    cases h;obtain ⟨t,rfl,_⟩:=SD.fC hp h1;obtain ⟨u,rfl,_⟩:=SD.fC hq h2;exact ⟨_,(by simp only [o6,e1,e2];rfl),cK (by simp only [SD.g];exact ⟨_,rfl,trivial⟩)⟩
   .cases h
  .cases h
 case oA k x =>
  have hx:=hρ x;split at h
  .rename_i a ea
   rw [ea] at hx;obtain ⟨d,e1,h1⟩:=bG hx;split at h
   .rename_i k' hk
    cases h;obtain ⟨n,rfl⟩:=SD.zR hk h1;exact ⟨_,(by simp only [o6,e1];rfl),cK (by simp only [SD.g];exact ⟨_,rfl⟩)⟩
   .cases h
  .cases h
 case lu x =>
  have hx:=hρ x;split at h
  .rename_i a ea
   rw [ea] at hx;obtain ⟨d,e1,h1⟩:=bG hx;split at h
   .rename_i v lo hi c hs
    split at h
    .rename_i hk
     cases h;obtain ⟨_,rows,rfl,h2,h3,h4,h5⟩:=SD.fS hB hs h1;obtain ⟨bs,h6,h7⟩:=OU hk h5;have hl:rows.flatten.length=rows.length:=by
      have:=mD (sz:=1) (rows:=rows) (fun r hr=>J1.len (h5 r hr));omega
     exact ⟨.d (.str bs),by simp only [o6,e1,hl,if_true,h6],cK (by simp only [SD.g];exact ⟨_,rfl,by omega⟩)⟩
    .cases h
   .cases h
  .cases h
 case aW sz x lo hi =>
  have hx:=hρ x;split at h
  .rename_i a ea
   rw [ea] at hx;obtain ⟨d,e1,h1⟩:=bG hx;split at h
   .rename_i v l1 l2 row hs
    obtain ⟨hw,rows,rfl,h2,h3,h4,h5⟩:=SD.fS hB hs h1;have hfl:rows.flatten.length=rows.length * sz:=mD (fun r hr=>by rw [J1.len (h5 r hr)];exact hw);split at h
    .rename_i a1 a2 hlo
     split at h
     .rename_i hc
      simp only [c7,decide_eq_true_eq] at hc;cases h;obtain ⟨m,b1,b2,b3⟩:=BP (n:=0) hB hρ (fun _=>⟨Int.le_refl _,Int.le_refl _⟩) hlo;obtain ⟨m',rfl⟩:=Int.eq_ofNat_of_zero_le (show 0<=m by omega);refine ⟨_,?_,cK (WS (a:=m') (b:=rows.length) (l1:=l1 - a2.toNat) (l2:=l2 - a1.toNat) hw h5 (by omega) (n5 _) (by omega) (by omega))⟩;have b4:X4 ρ rows.length none=some (rows.length:Int):=rfl;simp only [o6,e1,b1,b4];rw [if_pos (by refine ⟨?_,?_,?_,hfl⟩<;>omega)];simp
     .cases h
    .rename_i a1 a2 hop hlo
     split at h
     .rename_i b1 b2 hhi
      split at h
      .rename_i hc
       simp only [c7,decide_eq_true_eq] at hc;cases h;obtain ⟨m,c1,c2,c3⟩:=BP (n:=0) hB hρ (fun _=>⟨Int.le_refl _,Int.le_refl _⟩) hlo;obtain ⟨q,d1,d2,d3⟩:=BP (n:=rows.length) (dl:=0) (dh:=0) hB hρ (o:=some hop) (fun h=>by cases h) hhi;obtain ⟨m',rfl⟩:=Int.eq_ofNat_of_zero_le (show 0<=m by omega);obtain ⟨q',rfl⟩:=Int.eq_ofNat_of_zero_le (show 0<=q by omega);refine ⟨_,?_,cK (WS (a:=m') (b:=q') (l1:=(b1 - a2).toNat) (l2:=(b2 - a1).toNat) hw h5 (by omega) (by omega) (by omega) (by omega))⟩;simp only [o6,e1,c1,d1];rw [if_pos (by refine ⟨?_,?_,?_,hfl⟩<;>omega)];simp
      .cases h
     .cases h
    .cases h
   .cases h
  .rename_i id z a len ea
   rw [ea] at hx;have e1:=om hx;split at h
   .rename_i a1 a2 b1 b2 hlo hhi
    split at h
    .rename_i hc
     simp only [c7,decide_eq_true_eq] at hc;obtain ⟨⟨⟨⟨⟨c1,c2⟩,c3⟩,c4⟩,c5⟩,c6⟩:=hc;have c6:=e8 c6;subst c6;obtain ⟨m,f1,f2,f3⟩:=BP (n:=0) hB hρ (fun _=>⟨Int.le_refl _,Int.le_refl _⟩) hlo;obtain ⟨q,g1,g2,g3⟩:=BP (n:=len) hB hρ (fun _=>⟨Int.le_refl _,Int.le_refl _⟩) hhi;have em:m=a1:=by omega
     have eq:q=b1:=by omega
     subst em eq;simp only [o6,e1,f1,g1];rw [if_pos ⟨by omega,by omega,by omega,trivial⟩];split at h
     .rename_i he
      simp only [decide_eq_true_eq] at he;cases h;rw [if_pos he];exact ⟨_,rfl,cK (by simp [SD.g])⟩
     .rename_i he
      simp only [decide_eq_true_eq] at he;cases h;rw [if_neg he];exact ⟨_,rfl,by simp only [SV.g]⟩
    .cases h
   .cases h
  .cases h
 case off k x =>
  have hx:=hρ x;split at h
  .rename_i id off e
   cases h;rw [e] at hx;exact ⟨_,(by simp only [o6,cw hx];rfl),by simp only [SV.g]⟩
  .rename_i id lo z c e
   cases h;rw [e] at hx;simp only [SV.g] at hx;obtain ⟨j,j1,j2⟩:=hx;exact ⟨.ptr id (lo+j * z+k),(by simp only [o6,j2]),by simp only [SV.g];exact ⟨j,j1,by rw [show lo+k+j * z=lo+j * z+k by omega]⟩⟩
  .rename_i row e
   rw [e] at hx;split at h
   .rename_i hc
    have hc:=j5 hc;cases h;obtain ⟨cells,rest,e1,h1⟩:=zQ hx;have:=J1.len h1;refine ⟨_,(by simp only [o6,e1];rfl),?_⟩;simp only [SV.g];exact ⟨cells.drop k,rest,by rw [List.drop_append_of_le_length (by omega)],J1.drop h1 k⟩
   .cases h
  .cases h
 case N8 sz x i =>
  have hx:=hρ x;have hi:=hρ i;split at h
  .rename_i a j ea ej
   rw [ea] at hx;rw [ej] at hi;obtain ⟨d,e1,h1⟩:=bG hx;obtain ⟨f,e2,h2⟩:=bG hi;split at h
   .rename_i v lo hi' row k j1 j2 r hs hj
    split at h
    .rename_i hc
     simp only [c7,Bool.or_eq_true,decide_eq_true_eq] at hc;cases h;obtain ⟨hw,rows,rfl,h3,h4,h5,h6⟩:=SD.fS hB hs h1;obtain ⟨n,rfl,k1,k2,k3⟩:=SD.jQ hB hj h2;have hlt:0<=n/\n<rows.length:=by
      refine ⟨by omega,?_⟩
      rcases hc.2 with hc|hc
      .omega
      .unfold inR at hc
       split at hc
       .rename_i p q
        have hpq:=e8 hc;subst hpq;obtain ⟨m,m1,m2,m3⟩:=k3;rw [h5 _ rfl] at m1;cases m1;exact m3
       .cases hc
     obtain ⟨n',rfl⟩:=Int.eq_ofNat_of_zero_le hlt.1;obtain ⟨q,q1,q2⟩:=PX (sz:=sz) (rows:=rows) (i:=n') (fun r hr=>by rw [J1.len (h6 r hr)];exact hw) (by omega);refine ⟨.T4 (rows.flatten.drop (n' * sz)),?_,?_⟩
     .simp only [o6,e1,e2]
      rw [if_pos hlt];simp
     .simp only [SV.g]
      exact ⟨q,_,by rw [q2],h6 q q1⟩
    .cases h
   .cases h
  .rename_i id z lo len j ea ej
   rw [ea] at hx;rw [ej] at hi;have e1:=om hx;obtain ⟨f,e2,h2⟩:=bG hi;split at h
   .rename_i n hn
    split at h
    .rename_i hc
     simp only [c7,decide_eq_true_eq] at hc;have c2:=e8 hc.2;cases h;obtain ⟨k,rfl⟩:=aa9 hB hn h2;refine ⟨.ptr id (lo+n.toNat * sz),?_,by simp only [SV.g]⟩;simp only [o6,e1,e2];rw [if_pos ⟨hc.1.1,hc.1.2,c2⟩]
    .cases h
   .split at h
    .rename_i k a b r hj
     split at h
     .rename_i hc
      simp only [c7,decide_eq_true_eq] at hc;have c2:=e8 hc.2;cases h;obtain ⟨n,rfl,k1,k2,_⟩:=SD.jQ hB hj h2;refine ⟨.ptr id (lo+n.toNat * sz),?_,?_⟩
      .simp only [o6,e1,e2]
       rw [if_pos ⟨by omega,by omega,c2⟩]
      .simp only [SV.g]
       exact ⟨n.toNat,by omega,rfl⟩
     .cases h
    .cases h
  .cases h
 case extract x i =>
  have hx:=hρ x;split at h
  .rename_i l e
   rw [e] at hx;simp only [SV.g] at hx;obtain ⟨cs,e1,h1⟩:=hx;split at h
   .rename_i v' hv
    cases h;obtain ⟨b,h2,h3⟩:=y7.get h1 hv;exact ⟨b,by simp only [o6,e1,h2],h3⟩
   .cases h
  .cases h
 case len x =>
  have hx:=hρ x;split at h
  .rename_i a ea
   rw [ea] at hx;obtain ⟨d,e1,h1⟩:=bG hx;split at h
   .rename_i v' lo hi hl
    cases h;obtain ⟨n,cells,rfl,h2,h3,h4⟩:=SD.NL hB hl h1;exact ⟨.d (.int .i64 n),by simp only [o6,e1,i64],cK (ae4 h2 h3 h4)⟩
   .cases h
  .rename_i e
   cases h;rw [e] at hx;exact ⟨_,(by simp only [o6,om hx,i64];rfl),cK (by simp [SD.g])⟩
  .cases h
 case W5 x =>
  have hx:=hρ x;split at h
  .rename_i a ea
   rw [ea] at hx;obtain ⟨d,e1,h1⟩:=bG hx;split at h
   .rename_i m hm
    cases h;obtain ⟨s,rfl,h2,_⟩:=SD.xA hm h1;exact ⟨.d (.int .i64 s.length),by simp only [o6,e1,i64],cK (by simp only [SD.g];exact ⟨_,rfl,by omega,by omega,trivial⟩)⟩
   .rename_i m s hm
    cases h;obtain ⟨s',rfl,h2,h3⟩:=SD.xA hm h1;have:=h3 s rfl;subst this;exact ⟨.d (.int .i64 s'.length),by simp only [o6,e1,i64],cK (by simp [SD.g])⟩
   .cases h
  .cases h
end
structure SS where
 T:List SV
 H:List SO
 L:List SV
 p7:List Touch
 B:ji
def SS.g (C:Ctx)(vs:List Nat)(s:SS)(st:H6):Prop:=y7.g C vs s.T st.T/\J6.g C vs s.H st.H/\y7.g C vs s.L st.L/\st.p7=s.p7/\Bg vs s.B
def qj (s:SS)(k:Nat)(v:SV):SS:={ s with L:=s.L.set k v }
mutual
def SV.Y3 :SV->Option Nat
 | .top=>none
 | .ptr id _=>some (id+1)
 | .B4 id _ _ _=>some (id+1)
 | .wp id _ _ _=>some (id+1)
 | .agg _ l=>y7.Y3 l
 | .tuple l=>y7.Y3 l
 | .bn k=>some k
 |_=>some 0
def y7.Y3 :List SV->Option Nat
 |[]=>some 0
 |x::xs=>match x.Y3,y7.Y3 xs with
  |some a,some b=>some (max a b)
  |_,_=>none
end
def SO.Y3 :SO->Option Nat
 | .dead=>some 0
 | .cells _ l=>y7.Y3 l
 | .pr _=>some 0
 | .bn k=>some k
 | .top=>none
 | .BJ _ b=>some b
def Aw :List SO->Option (List Nat)
 |[]=>some []
 |o::os=>match o.Y3,Aw os with
  |some a,some b=>some (a::b)
  |_,_=>none
mutual
def SV.kill (id:Nat):SV->SV
 | .ptr i o=>if s7 i id then .any else .ptr i o
 | .B4 i z l n=>if s7 i id then .any else .B4 i z l n
 | .agg p l=>match y7.Y3 l with
  |some 0=> .agg p l
  |_=> .agg none (y7.kill id l)
 | .tuple l=> .tuple (y7.kill id l)
 | .bn k=>if s7 k 0 then .bn 0 else .top
 | .wp .. => .top
 |v=>v
def y7.kill (id:Nat):List SV->List SV
 |[]=>[]
 |v::vs=>v.kill id::y7.kill id vs
end
def SO.kill (id:Nat):SO->SO
 | .cells p l=>match y7.Y3 l with
  |some 0=> .cells p l
  |_=> .cells none (y7.kill id l)
 | .bn k=>if s7 k 0 then .bn 0 else .top
 | .BJ k b=>if E1 b id then .BJ k b else .top
 |o=>o
mutual
theorem Wi (id:Nat):∀ (v:c8),v.O5<=id->v.kill id=v
 | .any,_=>by simp [c8.kill]
 | .d _,_=>by simp [c8.kill]
 | .ptr i o,h=>by simp only [c8.O5] at h;simp only [c8.kill];rw [if_neg (by omega)]
 | .T4 _,_=>by simp [c8.kill]
 | .B4 i z l n,h=>by simp only [c8.O5] at h;simp only [c8.kill];rw [if_neg (by omega)]
 | .own _ _ _,_=>by simp [c8.kill]
 | .O2,_=>by simp [c8.kill]
 | .agg l,h=>by simp only [c8.O5] at h;simp only [c8.kill];rw [tw id l h]
 | .tuple l,h=>by simp only [c8.O5] at h;simp only [c8.kill];rw [tw id l h]
 | .func f a b,h=>by simp only [c8.O5] at h;simp only [c8.kill];rw [tw id a (by omega),tw id b (by omega)]
 | .map i,h=>by simp only [c8.O5] at h;simp only [c8.kill];rw [if_neg (by omega)]
theorem tw (id:Nat):∀ (l:List c8),C5 l<=id->I6 id l=l
 |[],_=>rfl
 |v::l,h=>by simp only [C5] at h;simp only [I6];rw [Wi id v (by omega),tw id l (by omega)]
end
def ap6 (id:Nat)(v:c8)(h:v.O5=0):v.kill id=v:=Wi id v (by omega)
def Wj (id:Nat)(l:List c8)(h:C5 l=0):I6 id l=l:=tw id l (by omega)
def WM (id:Nat){o:A1}(h:o.O5<=id):o.kill id=o:=by
 cases o with
 |dead=>rfl
 |cells l=>simp only [A1.O5] at h;simp only [A1.kill,tw id l h]
 |map es =>
  simp only [A1.O5] at h;simp only [A1.kill]
  congr 1
  have:∀ es:List (Key×c8),C5 (es.map (·.2))<=id->es.map (fun p=>(p.1,p.2.kill id))=es:=by
   intro es
   induction es with
   |nil=>intro _;rfl
   |cons e es ih =>
    intro h;simp only [L8,C5] at h;simp only [L8];rw [Wi id e.2 (by omega),ih (by omega)]
  exact this es h
def WL (id:Nat){o:A1}(h:o.O5=0):o.kill id=o:=WM id (by omega)
section
variable {C:Ctx} {vs:List Nat}
mutual
theorem SV.cU:∀ {x:SV} {v:c8} {n:Nat},x.Y3 =some n->x.g C vs v->v.O5=n
 | .top,_,_,h,_=>by simp [SV.Y3] at h
 | .any,_,_,h,hg=>by simp only [SV.g] at hg;subst hg;simp only [SV.Y3,Option.some.injEq] at h;subst h;rfl
 | .d _,_,_,h,hg=>by simp only [SV.g] at hg;obtain ⟨y,rfl,_⟩:=hg;simp only [SV.Y3,Option.some.injEq] at h;subst h;rfl
 | .own _ _,_,_,h,hg=>by simp only [SV.g] at hg;obtain ⟨y,_,rfl,_⟩:=hg;simp only [SV.Y3,Option.some.injEq] at h;subst h;rfl
 | .O2,_,_,h,hg=>by simp only [SV.g] at hg;subst hg;simp only [SV.Y3,Option.some.injEq] at h;subst h;rfl
 | .ptr ..,_,_,h,hg=>by simp only [SV.g] at hg;subst hg;simp only [SV.Y3,Option.some.injEq] at h;subst h;simp [c8.O5]
 | .T4 _,_,_,h,hg=>by simp only [SV.g] at hg;obtain ⟨_,_,rfl,_⟩:=hg;simp only [SV.Y3,Option.some.injEq] at h;subst h;rfl
 | .wp ..,_,_,h,hg=>by simp only [SV.g] at hg;obtain ⟨j,_,rfl⟩:=hg;simp only [SV.Y3,Option.some.injEq] at h;subst h;simp [c8.O5]
 | .B4 ..,_,_,h,hg=>by simp only [SV.g] at hg;subst hg;simp only [SV.Y3,Option.some.injEq] at h;subst h;simp [c8.O5]
 | .agg p l,_,_,h,hg=>by simp only [SV.g] at hg;obtain ⟨cs,rfl,h1,_⟩:=hg;simp only [SV.Y3] at h;simp only [c8.O5];exact y7.cU h h1
 | .tuple l,_,_,h,hg=>by simp only [SV.g] at hg;obtain ⟨cs,rfl,h1⟩:=hg;simp only [SV.Y3] at h;simp only [c8.O5];exact y7.cU h h1
 | .bn k,_,_,h,hg=>by simp only [SV.g] at hg;simp only [SV.Y3,Option.some.injEq] at h;subst h;exact hg.1
 | .q x,v,_,h,hg=>by
  simp only [SV.g] at hg;obtain ⟨y,h1,_⟩:=hg;simp only [SV.Y3,Option.some.injEq] at h;subst h;cases v<;>simp only [c8.J3,reduceCtorEq] at h1<;>rfl
theorem y7.cU:∀ {x:List SV} {v:List c8} {n:Nat},y7.Y3 x=some n->y7.g C vs x v->C5 v=n
 |[],_,_,h,hg=>by simp only [y7.g] at hg;subst hg;simp only [y7.Y3,Option.some.injEq] at h;subst h;rfl
 |x::xs,_,_,h,hg=>by
  simp only [y7.g] at hg;obtain ⟨d,ds,rfl,h1,h2⟩:=hg;simp only [y7.Y3] at h;split at h
  .rename_i a b ha hb
   simp only [Option.some.injEq] at h;subst h;simp only [C5];rw [SV.cU ha h1,y7.cU hb h2]
  .cases h
end
theorem SO.cU {x:SO}{o:A1}{n:Nat}(h:x.Y3 =some n)(hg:x.g C vs o):o.O5=n:=by
 cases x with
 |dead=>simp only [SO.g] at hg;subst hg;simp only [SO.Y3,Option.some.injEq] at h;subst h;rfl
 |cells p l=>obtain ⟨cs,rfl,h1,_⟩:=hg;simp only [SO.Y3] at h;simp only [A1.O5];exact y7.cU h h1
 |pr k=>simp only [SO.g] at hg;simp only [SO.Y3,Option.some.injEq] at h;subst h;exact C.O5 k o hg
 |bn k=>simp only [SO.g] at hg;simp only [SO.Y3,Option.some.injEq] at h;subst h;exact hg
 |top=>simp [SO.Y3] at h
 |BJ k b=>simp only [SO.g] at hg;simp only [SO.Y3,Option.some.injEq] at h;subst h;exact hg.2
theorem Gq:∀ {x:List SO} {H:p9} {l:List Nat},Aw x=some l->J6.g C vs x H->H.map A1.O5=l
 |[],_,_,h,hg=>by simp_all [J6.g,Aw,Option.some.injEq]
 |x::xs,_,_,h,hg=>by
  obtain ⟨d,ds,rfl,h1,h2⟩:=hg;simp [Aw] at h;split at h
  .rename_i a b ha hb
   simp [Option.some.injEq] at h;subst h;simp only [L8];rw [SO.cU ha h1,Gq hb h2]
  .cases h
mutual
theorem SV.fK (id:Nat):∀ {x:SV} {v:c8},x.g C vs v->(x.kill id).g C vs (v.kill id)
 | .top,_,_=>by simp [SV.kill,SV.g]
 | .any,_,hg=>by simp only [SV.g] at hg;subst hg;simp [SV.kill,c8.kill,SV.g]
 | .d _,_,hg=>by have hg' :=hg;simp only [SV.g] at hg;obtain ⟨y,rfl,_⟩:=hg;simpa only [SV.kill,c8.kill] using hg'
 | .own _ _,_,hg=>by have hg' :=hg;simp only [SV.g] at hg;obtain ⟨y,_,rfl,_⟩:=hg;simpa only [SV.kill,c8.kill] using hg'
 | .O2,_,hg=>by simp only [SV.g] at hg;subst hg;simp [SV.kill,c8.kill,SV.g]
 | .ptr i o,_,hg=>by
  simp only [SV.g] at hg;subst hg;simp only [SV.kill,c8.kill];split
  .rename_i h;rw [if_pos (e8 h)];simp [SV.g]
  .rename_i h;rw [if_neg (fun e=>h (by rw [e];exact Nat.beq_refl _))];simp [SV.g]
 | .wp ..,_,_=>by simp [SV.kill,SV.g]
 | .T4 _,_,hg=>by have hg' :=hg;simp only [SV.g] at hg;obtain ⟨_,_,rfl,_⟩:=hg;simpa only [SV.kill,c8.kill] using hg'
 | .B4 i z l n,_,hg=>by
  simp only [SV.g] at hg;subst hg;simp only [SV.kill,c8.kill];split
  .rename_i h;rw [if_pos (e8 h)];simp [SV.g]
  .rename_i h;rw [if_neg (fun e=>h (by rw [e];exact Nat.beq_refl _))];simp [SV.g]
 | .agg p l,_,hg=>by
  have hg' :=hg;simp only [SV.g] at hg;obtain ⟨cs,rfl,h1,h2⟩:=hg;simp only [SV.kill,c8.kill];split
  .rename_i h
   rw [Wj id cs (y7.cU h h1)];exact hg'
  .simp only [SV.g]
   exact ⟨_,rfl,y7.fK id h1,fun k h=>by cases h⟩
 | .tuple l,_,hg=>by
  simp only [SV.g] at hg;obtain ⟨cs,rfl,h1⟩:=hg;simp only [SV.kill,c8.kill,SV.g];exact ⟨_,rfl,y7.fK id h1⟩
 | .bn k,v,hg=>by
  simp only [SV.kill];split
  .rename_i h
   have h:=e8 h;subst h;simp only [SV.g] at hg ⊢;rw [ap6 id v hg.1];exact hg
  .simp [SV.g]
 | .q x,v,hg=>by
  have hg' :=hg;simp only [SV.g] at hg;obtain ⟨y,h1,_⟩:=hg;simp only [SV.kill];rw [ap6 id v (by cases v<;>simp only [c8.J3,reduceCtorEq] at h1<;>rfl)];exact hg'
theorem y7.fK (id:Nat):∀ {x:List SV} {v:List c8},y7.g C vs x v->y7.g C vs (y7.kill id x) (I6 id v)
 |[],_,h=>by simp only [y7.g] at h;subst h;simp [y7.kill,I6,y7.g]
 |x::xs,_,h=>by
  simp only [y7.g] at h;obtain ⟨d,ds,rfl,h2,h3⟩:=h;simp only [y7.kill,I6,y7.g];exact ⟨_,_,rfl,SV.fK id h2,y7.fK id h3⟩
end
theorem SO.fK (id:Nat){x:SO}{o:A1}(h:x.g C vs o):(x.kill id).g C vs (o.kill id):=by
 cases x with
 |dead=>simp only [SO.g] at h;subst h;rfl
 |cells p l =>
  have h' :=h;obtain ⟨cs,rfl,h1,h2⟩:=h;simp only [SO.kill,A1.kill];split
  .rename_i hb
   rw [Wj id cs (y7.cU hb h1)];exact h'
  .exact ⟨_,rfl,y7.fK id h1,fun k h=>by cases h⟩
 |pr k =>
  simp only [SO.g] at h;simp only [SO.kill];rw [WL id (C.O5 k o h)];exact h
 |bn k =>
  simp only [SO.kill];split
  .rename_i hk
   have hk:=e8 hk;subst hk;rw [WL id h];exact h
  .trivial
 |top=>trivial
 |BJ k b =>
  simp only [SO.kill];split
  .rename_i hk
   rw [WM id (by have:=h.2;have:=j5 hk;omega)];exact h
  .trivial
theorem J6.map {f:SO->SO}{f' :A1->A1}(hf:∀ x a,SO.g C vs x a->SO.g C vs (f x) (f' a)):∀ {x:List SO} {d:p9},J6.g C vs x d->J6.g C vs (x.map f) (d.map f')
 |[],_,h=>by simp_all [J6.g]
 |x::xs,_,h=>by
  obtain ⟨d,ds,rfl,h2,h3⟩:=h;exact ⟨_,_,rfl,hf _ _ h2,J6.map hf h3⟩
end
def As (l:List Nat):Nat:=l.foldr max 0
def V9 (bs:List Nat)(strict:Nat):Nat->Nat->Nat
 |0,n=>n
 |k+1,n=>if E1 n strict then n else
  if s7 (max n (As ((bs.take n).drop strict))) n then n else V9 bs strict k (max n (As ((bs.take n).drop strict)))
def Pc:List Nat->Nat->Bool
 |[],_=>true
 |b::bs,k=>E1 b (k+1)&&Pc bs (k+1)
def rG (bs:List Nat)(strict n:Nat):Nat:=if E1 n strict then n else if Pc ((bs.take n).drop strict) strict then n else strict
theorem US:∀ H:p9,Z9 H=As (H.map A1.O5)
 |[]=>rfl
 |o::H=>by simp [Z9,As];rw [US H];rfl
def qN (H:p9)(a b:Nat):Z9 ((H.take a).drop b)=As (((H.map A1.O5).take a).drop b):=by
 rw [US,List.map_drop,List.map_take]
theorem wD (H:p9)(strict:Nat):∀ (k n:Nat),F6 H strict k n=V9 (H.map A1.O5) strict k n
 |0,n=>rfl
 |k+1,n=>by
  simp [F6,V9,qN,Nat.ble_eq,Nat.beq_eq];split
  .rfl
  .split
   .rfl
   .exact wD H strict k _
theorem Vl:∀ (H:p9) (k:Nat),ah H k=Pc (H.map A1.O5) k
 |[],_=>rfl
 |o::H,k=>by
  simp [ah,Pc];rw [Vl H (k+1)]
  congr 1
  rw [Bool.eq_iff_iff,Nat.ble_eq];simp
def Oy (H:p9)(s n:Nat):F7 H s n=rG (H.map A1.O5) s n:=by
 simp [F7,rG,Vl,List.map_drop,List.map_take,Nat.ble_eq]
def cm (s:SS):y5->SV×SS
 | .loc j=>match s.L[j]? with
  |some (.own z x)=>(.own z x,{ s with L:=s.L.set j (.d x) })
  |some (.q x)=>(.q x,s)
  |some .O2=>(.O2,s)
  |_=>(cC s.T s.L (.loc j),s)
 | .const v=>(ZM v,s)
 | .slot t=>(cC s.T s.L (.slot t),s)
section
variable {C:Ctx} {vs:List Nat} {s:SS} {st:H6}
def dA (hs:s.g C vs st)(k:Nat){v:SV}{a:c8}(h:v.g C vs a):(qj s k v).g C vs (put st k a) :=
 ⟨hs.1,hs.2.1,y7.set hs.2.2.1 k h,hs.2.2.2⟩
def Ah (hs:s.g C vs st)(x:y5):(cm s x).1.g C vs (D8 st x).1/\(cm s x).2.g C vs (D8 st x).2:=by
 obtain ⟨hT,hH,hL,ht,hB⟩:=hs;have hr:∀ x,(cC s.T s.L x).g C vs (J2 st.T st.L x):=fun x=>HS hT hL x
 cases x with
 |const v=>exact ⟨WJ v,hT,hH,hL,ht,hB⟩
 |slot t=>exact ⟨hr (.slot t),hT,hH,hL,ht,hB⟩
 |loc j =>
  simp only [cm];split
  .rename_i z x e
   obtain ⟨a,h1,h2⟩:=y7.get hL e;simp only [SV.g] at h2;obtain ⟨len,cells,rfl,h3⟩:=h2;simp only [D8,h1];refine ⟨?_,hT,hH,y7.set hL j ?_,ht,hB⟩
   .simp only [SV.g];exact ⟨_,_,rfl,h3⟩
   .simp only [SV.g];exact ⟨_,rfl,h3⟩
  .rename_i x e
   obtain ⟨a,h1,h2⟩:=y7.get hL e;have hq:∀ v:c8,v.J3=a.J3->(SV.q x).g C vs v:=fun v hv=>by
    simp only [SV.g] at h2 ⊢;rw [hv];exact h2
   simp only [D8];split
   .rename_i z len cells e2
    rw [h1] at e2;cases e2;refine ⟨hq _ rfl,hT,hH,?_,ht,hB⟩;have:=y7.set hL j (a:= .q x) (b:= .d (.slice len cells)) (hq _ rfl)
    rwa [au e] at this
   .rename_i e2
    rw [h1] at e2;cases e2;exact ⟨hq _ rfl,hT,hH,hL,ht,hB⟩
   .refine ⟨hq _ ?_,hT,hH,hL,ht,hB⟩
    simp only [J2,List.getD_eq_getElem?_getD,h1,Option.getD_some];cases a<;>rfl
  .rename_i e
   obtain ⟨a,h1,h2⟩:=y7.get hL e;simp only [SV.g] at h2;subst h2;simp only [D8,h1];exact ⟨by simp only [SV.g],hT,hH,hL,ht,hB⟩
  .rename_i hno hnq hni
   simp only [D8];split
   .rename_i z len cells e
    cases hx:s.L[j]? with
    |none=>rw [y7.none hL hx] at e;cases e
    |some y =>
     obtain ⟨a,h1,h2⟩:=y7.get hL hx;rw [e] at h1;cases h1;have hy:(y= .top\/y= .bn 0):=by
      cases y<;>simp only [SV.g,reduceCtorEq,and_false,exists_false] at h2
      .exact .inl rfl
      .obtain ⟨_,h2,_⟩:=h2;cases h2
      .rename_i z' x';exact absurd hx (hno z' x')
      .obtain ⟨_,_,h2,_⟩:=h2;cases h2
      .obtain ⟨_,h2,_⟩:=h2;cases h2
      .obtain ⟨_,h2,_⟩:=h2;cases h2
      .rw [<- h2.1];exact .inr rfl
      .rename_i x';exact absurd hx (hnq x')
     have hg:∀ v:c8,v.O5=0->v.one=true->y.g C vs v:=fun v e1 e2=>by
      rcases hy with rfl|rfl
      .simp [SV.g]
      .simp only [SV.g];exact ⟨e1,e2⟩
     refine ⟨?_,hT,hH,?_,ht,hB⟩
     .have:cC s.T s.L (.loc j)=y:=by rcases hy with rfl|rfl<;>simp [cC,List.getD_eq_getElem?_getD,hx,SV.J3]
      rw [this];exact hg _ rfl rfl
     .have:=y7.set hL j (a:=y) (b:= .d (.slice len cells)) (hg _ rfl rfl)
      rwa [au hx] at this
   .rename_i e
    cases hx:s.L[j]? with
    |none=>rw [y7.none hL hx] at e;cases e
    |some y =>
     obtain ⟨a,h1,h2⟩:=y7.get hL hx;rw [e] at h1;cases h1;refine ⟨?_,hT,hH,hL,ht,hB⟩;have:cC s.T s.L (.loc j)=y:=by
      cases y
      case own z' x' =>exact absurd hx (hno z' x')
      case q x' =>exact absurd hx (hnq x')
      case O2=>exact absurd hx hni
      all_goals simp [cC,List.getD_eq_getElem?_getD,hx,SV.J3]
     rw [this];exact h2
   .exact ⟨hr (.loc j),hT,hH,hL,ht,hB⟩
end
def uQ (s:SS)(z7:Option Nat)(o:SO):SS:=match z7 with
 |none=>{ s with H:=s.H++[o] }
 |some i=>{ s with H:=s.H.set i o }
def lN (s:SS)(z7:Option Nat):Nat:=z7.getD s.H.length
def okB (lim:H7)(id:Nat):Option Nat->Bool
 |some b=>E1 b (id+1)||(E1 lim.base id&&E1 lim.strict id)
 |none=>E1 lim.base id&&E1 lim.strict id
def wj (x y:SV):Option SV:=match x.data?,y.data? with
 |some a,some b=>some (.q (a.join b))
 |_,_=>none
def Uq:List SV->List SV->Option (List SV)
 |[],l=>some l
 |_::_,[]=>none
 |y::ys,x::l=>match wj x y,Uq ys l with
  |some z,some r=>some (z::r)
  |_,_=>none
def Lw (new:List SV)(sz:Nat):Nat->List SV->Option (List SV)
 |0,l=>some l
 |c+1,l=>match Uq new l with
  |some l1=>match Lw new sz c (l1.drop sz) with
   |some r=>some (l1.take sz++r)
   |none=>none
  |none=>none
def HU (lim:H7)(k n:Nat)(s:SS)(x:y5):SV->Option SS
 | .ptr id off=>match (cm s x).1.cells? with
  |some l=>if s7 l.length n&&lim.may id&&okB lim id (y7.Y3 l) then
    match swr (cm s x).2.H id off (cm s x).1.tag l with
    |some H' =>some (qj { (cm s x).2 with H:=H',p7:= .obj id::(cm s x).2.p7 } k .any)
    |none=>none
   else none
  |none=>none
 | .wp id lo sz c=>match (cm s x).1.cells?,(cm s x).2.H[id]? with
  |some l,some (.cells _ old)=>match Lw l sz c (old.drop lo) with
   |some r=>if s7 l.length n&&lim.may id&&okB lim id (y7.Y3 l)&&E1 n sz&&E1 (lo+c * sz) (old.length+sz - n)&&E1 lo old.length then
     some (qj { (cm s x).2 with H:=(cm s x).2.H.set id (.cells none (old.take lo++r)),p7:= .obj id::(cm s x).2.p7 } k .any)
    else none
   |none=>none
  |_,_=>none
 |_=>none
def Od (B:ji)(H:List SO)(sz:Nat):SV->Option SD
 | .d z=>match z.slice? B sz with
  |some _=>some z
  |none=>none
 | .B4 id z lo len=>if s7 z sz then match srd H id lo (len * sz) with
   |some l=>match kK (l.map SV.J3) with
    |some xs=>some (mkSlice sz len xs)
    |none=>none
   |none=>none
  else none
 |_=>none
def aG2 (B:ji)(sz:Nat)(x z:SD):Option (SD×Nat):=match x.slice? B sz,z.slice? B sz with
 |some (_,lo1,hi1,bc1),some (_,lo2,hi2,bc2) =>
  if s7 hi1 0 then some (z,hi2) else if s7 hi2 0 then some (x,hi1) else some (.slice none (lo1+lo2) (hi1+hi2) (J1.join bc1 bc2),hi1+hi2)
 |_,_=>none
def JA (p7:List Touch)(s:Nat):Bool:=p7.any (Touch.U9 s)
def BY (s:SS):y5->Option (Nat×Nat)
 | .loc m=>match s.L[m]? with
  |some (.ptr id off)=>some (id,off)
  |_=>none
 | .slot t=>if JA s.p7 t then none else match s.T[t]? with
  |some (.ptr id off)=>some (id,off)
  |_=>none
 | .const _=>none
def Cf (l:H7)(s:SS)(sz:Nat):x9->Option (SD×SS)
 | .Q5 (.slot t)=>if JA s.p7 t then none else match s.T[t]? with
  |some (.own z x)=>if s7 z sz then some (x,{ s with T:=s.T.set t (.d x),p7:= .slot t::s.p7 }) else none
  |_=>none
 | .load none x=>match BY s x with
  |some (id,off)=>if s.p7.any (Touch.cF id off)|| !l.may id then none else
   match s.H[id]? with
   |some (.cells p cs)=>match cs[off]? with
    |some (.own z x)=>if s7 z sz then some (x,{ s with H:=s.H.set id (.cells p (cs.set off (.d x))),p7:= .cell id off::s.p7 }) else none
    |_=>none
   |_=>none
  |none=>none
 |_=>none
def Ce (l:H7)(l5:List o9)(s:SS)(sz:Nat):y5->Option (SD×SS)
 | .const (.own z len cells)=>if s7 z sz then some (.lit (.slice len cells),s) else none
 | .loc j=>match s.L[j]? with
  |some (.own z x)=>if s7 z sz then some (x,{ s with L:=s.L.set j (.d x) }) else none
  |some (.d x)=>match x.tA s.B,l5[j]? with
   |some _,some a=>Cf l s sz a.op
   |_,_=>none
  |_=>none
 |_=>none
def HM (l:H7)(s:SS):x9->Bool
 | .Q5 (.slot t)=> !JA s.p7 t&&(match s.T[t]? with|some .O2=>true|_=>false)
 | .load none x=>match BY s x with
  |some (id,off)=> !s.p7.any (Touch.cF id off)&&l.may id&&(match s.H[id]? with
   |some (.cells _ cs)=>(match cs[off]? with|some .O2=>true|_=>false)
   |_=>false)
  |none=>false
 |_=>false
def Oi (l:H7)(l5:List o9)(s:SS):y5->Bool
 | .const .O2=>true
 | .loc j=>match s.L[j]? with
  |some .O2=>true
  |some (.d x)=>match x.tA s.B,l5[j]? with
   |some _,some a=>HM l s a.op
   |_,_=>false
  |_=>false
 |_=>false
def HA (B:ji)(H:List SO)(sz:Nat):SV->Option (Nat×List SV)
 | .d z=>match z.slice? B sz with
  |some (_,lo,hi,row)=>if s7 lo hi then some (lo,(c9 lo (row.map .d)).flatten) else none
  |none=>none
 | .B4 id z lo len=>if s7 z sz then match srd H id lo (len * sz) with
   |some l=>some (len,l.map SV.J3)
   |none=>none
  else none
 |_=>none
def Qg (n bytes:Nat):Bool:=E1 ((2 * n+512) * bytes) 281474976710656
def rA (lim:H7)(l5:List o9)(z7:Option Nat)(k sz bytes:Nat)(ob:Bool)(s:SS)(x:y5)(y:SV):Option SS :=
 if ob then match HA s.B s.H sz y with
  |some (m,cs)=>if Oi lim l5 s x&&Qg m bytes&&Nat.blt 0 sz then
    (if s7 m 0 then some (qj s k .O2) else some (qj (uQ s z7 (.cells none cs)) k (.B4 (lN s z7) sz 0 m)))
   else none
  |none=>none
 else match Od s.B s.H sz y with
  |some z=>match Ce lim l5 s sz x with
   |some (x0,s')=>match aG2 s.B sz x0 z with
    |some (r,hi)=>if Qg hi bytes&&Nat.blt 0 sz then some (qj s' k (.own sz r)) else none
    |none=>none
   |none=>none
  |none=>none
def zY (lim:H7)(entry k sz bytes:Nat)(s:SS)(id lo len:Nat)(y:SV):Option SS :=
 if E1 lim.base id&&E1 entry id&&lim.may id then
  match s.H[id]?,HA s.B s.H sz y with
  |some (.cells _ l),some (m,cs)=>match y7.Y3 cs with
   |some b=>if s7 lo 0&&s7 (len * sz) l.length&&Qg (len+m) bytes&&E1 b id&&cs.all SV.one&&Nat.blt 0 sz then
     some (qj { s with T:=y7.kill id s.T,H:=(s.H.take lim.base++(s.H.drop lim.base).map (SO.kill id)).set id (.cells none (y7.kill id l++cs)),L:=y7.kill id s.L,p7:= .obj id::s.p7 } k (.B4 id sz lo (len+m)))
    else none
   |none=>none
  |_,_=>none
 else none
section
variable {C:Ctx} {vs:List Nat} {s:SS} {st:H6}
theorem SS.J2 (hs:s.g C vs st)(x:y5):(cC s.T s.L x).g C vs (J2 st.T st.L x):=HS hs.1 hs.2.2.1 x
def be6 {x y z:SV}{v:c8}(h:wj x y=some z):(x.g C vs v->z.g C vs v)/\(y.g C vs v->z.g C vs v):=by
 unfold wj at h;split at h
 .rename_i a b ha hb
  cases h;have ad:∀ {v:c8} {d:Data},v.data? =some d->v.J3= .d d:=by intro v d h;cases v<;>simp_all [c8.data?,c8.J3]
  refine ⟨fun hx=> ?_,fun hy=> ?_⟩
  .obtain ⟨d,h1,h2⟩:=SV.Nj hx ha
   simp only [SV.g];exact ⟨d,ad h1,SD.U7 a b h2⟩
  .obtain ⟨d,h1,h2⟩:=SV.Nj hy hb
   simp only [SV.g];exact ⟨d,ad h1,SD.U8 a b h2⟩
 .cases h
theorem OE:∀ {new l r:List SV} {ns cs:List c8},Uq new l=some r->y7.g C vs l cs->(y7.g C vs r cs)/\(y7.g C vs new ns->y7.g C vs r (ns++cs.drop ns.length))
 |[],l,r,ns,cs,h,hl=>by
  simp only [Uq,Option.some.injEq] at h;subst h;refine ⟨hl,fun hn=> ?_⟩;simp only [y7.g] at hn;subst hn;simpa using hl
 |_::_,[],r,ns,cs,h,hl=>by simp [Uq] at h
 |y::ys,x::l,r,ns,cs,h,hl=>by
  simp only [Uq] at h;split at h
  .rename_i z r' hz hr
   cases h;simp only [y7.g] at hl;obtain ⟨c,cs',rfl,h1,h2⟩:=hl;refine ⟨?_,fun hn=> ?_⟩
   .simp only [y7.g]
    exact ⟨_,_,rfl,(be6 hz).1 h1,(OE (ns:=[]) hr h2).1⟩
   .simp only [y7.g] at hn
    obtain ⟨n,ns',rfl,n1,n2⟩:=hn;simp only [F8,p8,List.drop_succ_cons,y7.g];exact ⟨_,_,rfl,(be6 hz).2 n1,(OE hr h2).2 n2⟩
  .cases h
theorem Qv {new:List SV}{sz:Nat}{ns:List c8}(hn:y7.g C vs new ns)(hsz:ns.length<=sz):∀ {c:Nat} {l r:List SV} {cs:List c8},Lw new sz c l=some r->y7.g C vs l cs->y7.g C vs r cs/\∀ j,j<c->y7.g C vs r (splice cs (j * sz) ns)
 |0,l,r,cs,h,hl=>by
  simp only [Lw,Option.some.injEq] at h;subst h;exact ⟨hl,fun j hj=>absurd hj (by omega)⟩
 |c+1,l,r,cs,h,hl=>by
  simp only [Lw] at h;split at h
  .rename_i l1 h1
   split at h
   .rename_i r' h2
    cases h;obtain ⟨g1,g2⟩:=OE (ns:=ns) h1 hl;have g2:=g2 hn;obtain ⟨k1,k2⟩:=Qv hn hsz h2 (y7.drop g1 sz);have e0:cs=cs.take sz++cs.drop sz:=(List.take_append_drop sz cs).symm;refine ⟨?_,fun j hj=> ?_⟩
    .rw [e0];exact y7.app (y7.take g1 sz) k1
    .cases j with
     |zero =>
      simp only [splice,Nat.zero_mul,List.take_zero,E0,Nat.zero_add];have e1:ns++cs.drop ns.length=(ns++cs.drop ns.length).take sz++cs.drop sz:=by
       have:=(List.take_append_drop sz (ns++cs.drop ns.length)).symm;rw [List.drop_append,l6 hsz,E0,List.drop_drop,show ns.length+(sz - ns.length)=sz by omega] at this;exact this
      rw [e1];exact y7.app (y7.take g2 sz) k1
     |succ j =>
      have h3:=k2 j (by omega)
      by_cases hlen:sz<=cs.length
      .have e1:splice cs ((j+1) * sz) ns=cs.take sz++splice (cs.drop sz) (j * sz) ns:=by
        simp only [splice,D2];rw [show (j+1) * sz=sz+j * sz by rw [Nat.succ_mul,Nat.add_comm],List.take_add,D2,List.drop_drop,M6]
       rw [e1];exact y7.app (y7.take g1 sz) h3
      .have e1:splice cs ((j+1) * sz) ns=cs.take sz++splice (cs.drop sz) (j * sz) ns:=by
        simp only [splice,D2];rw [show (j+1) * sz=sz+j * sz by rw [Nat.succ_mul,Nat.add_comm],List.take_add,D2,List.drop_drop,M6]
       rw [e1];exact y7.app (y7.take g1 sz) h3
   .cases h
  .cases h
def XY (hs:s.g C vs st){E:Env}{k n:Nat}{x:y5}{a:SV}{a' :c8}(ha:a.g C vs a'){s' :SS}(h:HU E.lim k n s x a=some s'):∃ st',S4 E k n st a' x=some st' /\s'.g C vs st' :=by
 have hbd:∀ (id:Nat) (l:List SV) (cs:List c8),y7.g C vs l cs->okB E.lim id (y7.Y3 l)=true->C5 cs<=id+1\/(E.lim.base<=id/\E.lim.strict<=id):=by
  intro id l cs h2 h4;unfold okB at h4;split at h4
  .rename_i b hb
   simp only [Bool.or_eq_true,c7,Nat.ble_eq] at h4;rw [y7.cU hb h2];exact h4
  .simp only [c7,Nat.ble_eq] at h4
   exact .inr h4
 cases a<;>simp only [HU,reduceCtorEq] at h
 rotate_left
 .rename_i id lo sz c
  simp only [SV.g] at ha;obtain ⟨j,j1,rfl⟩:=ha;obtain ⟨hv,hT,hH,hL,ht,hB⟩:=Ah hs x;split at h
  .rename_i l p old hl ho
   obtain ⟨cs,h1,h2,h3⟩:=SV.zK hv hl;split at h
   .rename_i r hr
    split at h
    .rename_i hc
     simp only [c7,Nat.ble_eq] at hc;cases h;have hlen:=y7.len h2;have hn:=e8 hc.1.1.1.1.1;obtain ⟨o',o1,co,rfl,o2,_⟩:=J6.get hH ho;have hol:=y7.len o2;have hw:=(Qv h2 (by omega) hr (y7.drop o2 lo)).2 j j1;have hcs:j * sz+sz<=c * sz:=by rw [<- Nat.succ_mul];exact Nat.mul_le_mul_right _ j1
     have hwr:wr (D8 st x).2.H id (lo+j * sz) cs=some ((D8 st x).2.H.set id (.cells (splice co (lo+j * sz) cs))):=by
      simp only [wr,o1];rw [if_pos (by omega)]
     have e1:splice co (lo+j * sz) cs=co.take lo++splice (co.drop lo) (j * sz) cs:=by
      simp only [splice,D2];rw [List.take_add,D2,List.drop_drop,M6]
     refine ⟨_,?_,dA (s:={ (cm s x).2 with H:=(cm s x).2.H.set id (.cells none (old.take lo++r)),p7:= .obj id::(cm s x).2.p7 }) (st:={ (D8 st x).2 with H:=(D8 st x).2.H.set id (.cells (splice co (lo+j * sz) cs)),p7:= .obj id::(D8 st x).2.p7 })
      ⟨hT,J6.set hH id ⟨_,rfl,by rw [e1];exact y7.app (y7.take o2 lo) hw,fun k hk=>by cases hk⟩,hL,congrArg (Touch.obj id::·) ht,hB⟩ k (v:= .any) (a:= .any) (by simp only [SV.g])⟩
     simp only [S4,h1];rw [if_pos ⟨by omega,hc.1.1.1.1.2,hbd _ _ _ h2 hc.1.1.1.2⟩,hwr]
    .cases h
   .cases h
  .cases h
 rename_i id off;rw [cw ha];obtain ⟨hv,hT,hH,hL,ht,hB⟩:=Ah hs x;split at h
 .rename_i l hl
  obtain ⟨cs,h1,h2,h3⟩:=SV.zK hv hl;split at h
  .rename_i hc
   simp only [c7] at hc;split at h
   .rename_i H' hw
    cases h;obtain ⟨H3,w1,w2⟩:=bd8 hH h2 h3 hw;have hlen:=y7.len h2;have hn:=e8 hc.1.1;have hbb:C5 cs<=id+1\/(E.lim.base<=id/\E.lim.strict<=id):=by
     have h4:=hc.2;unfold okB at h4;split at h4
     .rename_i b hb
      simp only [Bool.or_eq_true,c7,Nat.ble_eq] at h4;rw [y7.cU hb h2];exact h4
     .simp only [c7,Nat.ble_eq] at h4
      exact .inr h4
    refine ⟨_,?_,dA (s:={ (cm s x).2 with H:=H',p7:= .obj id::(cm s x).2.p7 }) (st:={ (D8 st x).2 with H:=H3,p7:= .obj id::(D8 st x).2.p7 }) ⟨hT,w2,hL,congrArg (Touch.obj id::·) ht,hB⟩ k (v:= .any) (a:= .any) (by simp only [SV.g])⟩;simp only [S4,h1];rw [if_pos ⟨by omega,hc.1.2,hbb⟩,w1]
   .cases h
  .cases h
 .cases h
def XC (hs:s.g C vs st){sz:Nat}{y:SV}{y' :c8}(hy:y.g C vs y'){z:SD}(h:Od s.B s.H sz y=some z):∃ m cs new,O7 st.H sz y' =some (m,cs)/\O0 cs=some new/\z.g C vs (.slice m new):=by
 obtain ⟨hT,hH,hL,ht,hB⟩:=hs;cases y<;>simp only [Od,reduceCtorEq] at h
 .split at h
  .rename_i q hq
   cases h;obtain ⟨d,rfl,h1⟩:=bG hy;obtain ⟨hw,rows,rfl,h2,h3,h4,h5⟩:=SD.fS hB hq h1;have hfl:rows.flatten.length=rows.length * sz:=mD (fun r hr=>by grind [J1.len]);exact ⟨_,_,_,by simp_all [O7,if_true],cL _,h1⟩
  .cases h
 .rename_i id z' lo len
  rw [om hy];split at h
  .split at h
   .rename_i l hl
    split at h
    .rename_i xs hxs
     cases h;obtain ⟨cs,h1,h2⟩:=EY hH hl;have h3:=y7.map (C:=C) (vs:=vs) (fun _ _=>SV.rQ) h2;obtain ⟨ds,h4,h5⟩:=qf h3 hxs;have hlen:xs.length=len * sz:=by
      have e1:=J1.len h5;have e2:∀ {v:List c8} {d:List Data},O0 v=some d->d.length=v.length:=by
       intro v
       induction v with
       |nil=>simp_all [O0,Option.some.injEq]
       |cons a v ih =>
        grind [O0,Option.some.injEq]
      have e4:=y7.len h2;simp_all [srd]<;>grind
     refine ⟨len,_,ds,?_,h4,qY hlen h5⟩;simp_all [O7,if_pos]
    .cases h
   .cases h
  .cases h
def aG3 {B:ji}(hB:Bg vs B){sz:Nat}{x z r:SD}{hi len m:Nat}{cells new:List Data}(h:aG2 B sz x z=some (r,hi))(hx:x.g C vs (.slice len cells))(hz:z.g C vs (.slice m new)):r.g C vs (.slice (len+m) (cells++new))/\len+m<=hi:=by
 unfold aG2 at h;split at h
 .rename_i v1 lo1 hi1 bc1 v2 lo2 hi2 bc2 e1 e2
  obtain ⟨w1,bR5,r1,a1,a2,a3,a4⟩:=SD.fS hB e1 hx;obtain ⟨w2,bR6,r2,b1,b2,b3,b4⟩:=SD.fS hB e2 hz;split at h
  .simp_all
  .split at h
   .simp_all
   .grind [SD.g,List.flatten_append,k9,J1.U7,J1.U8]
 .cases h
theorem XT (hs:s.g C vs st){x:y5}{id off:Nat}(h:BY s x=some (id,off)):bJ st x=some (id,off):=by
 obtain ⟨hT,hH,hL,ht,hB⟩:=hs;cases x with
 |loc m =>
  simp [BY] at h;split at h
  .rename_i e
   obtain ⟨a,h1,h2⟩:=y7.get hL e;rw [cw h2] at h1
   grind [bJ]
  .cases h
 |slot t =>
  simp only [BY] at h;split at h
  .cases h
  .rename_i hh
   unfold JA at hh;split at h
   .rename_i e
    obtain ⟨a,h1,h2⟩:=y7.get hT e;rw [cw h2] at h1;simp_all [bJ,if_neg]
   .cases h
 |const v=>cases h
theorem Ov (hs:s.g C vs st){l:H7}{sz:Nat}{op:x9}{x:SD}{s' :SS}(h:Cf l s sz op=some (x,s')):∃ len cells st',X5 l st sz op=some (len,cells,st')/\x.g C vs (.slice len cells)/\s'.g C vs st' :=by
 have hs' :=hs;obtain ⟨hT,hH,hL,ht,hB⟩:=hs;unfold Cf at h;split at h
 .rename_i t
  split at h
  .cases h
  .rename_i hh
   unfold JA at hh;split at h
   .rename_i z x' e
    split at h
    .obtain ⟨rfl,rfl⟩:=h
     obtain ⟨a,h1,h2⟩:=y7.get hT e;obtain ⟨len,cells,rfl,h3⟩:=tE h2;refine ⟨len,cells,{ st with T:=st.T.set t (.d (.slice len cells)),p7:= .slot t::st.p7 },?_,h3,y7.set hT t (cK h3),hH,hL,by simp_all,hB⟩;simp_all [X5,if_neg,if_pos]
    .cases h
   .cases h
 .split at h
  .rename_i id off hp
   split at h
   .cases h
   .split at h
    .rename_i p cs e
     split at h
     .rename_i z x' e2
      split at h
      .obtain ⟨rfl,rfl⟩:=h
       obtain ⟨o,h1,h2⟩:=J6.get hH e;obtain ⟨ds,rfl,h3,h4⟩:=h2;obtain ⟨a,h5,h6⟩:=y7.get h3 e2;obtain ⟨len,cells,rfl,h7⟩:=tE h6;refine ⟨len,cells,{ st with H:=st.H.set id (.cells (ds.set off (.d (.slice len cells)))),p7:= .cell id off::st.p7 },?_,h7,hT,J6.set hH id ⟨_,rfl,y7.set h3 off (cK h7),fun k hk=> ?_⟩,hL,by simp_all,hB⟩
       .simp [X5,XT hs' hp]
        simp_all
       simp_all [c8.J3,List.map_set,au]
      .cases h
     .cases h
    .cases h
  .cases h
 .cases h
theorem uP (hB:Bg vs s.B){x:SD}{d:Data}{q:Option Nat×Nat×Nat}(h:x.tA s.B=some q)(hx:x.g C vs d):∃ n cells,d= .slice n cells:=by
 grind [SD.NL]
def Ou (hs:s.g C vs st){l:H7}{l5:List o9}{sz:Nat}{y:y5}{x:SD}{s' :SS}(h:Ce l l5 s sz y=some (x,s')):∃ len cells st',Q3 l l5 st sz y=some (len,cells,st')/\x.g C vs (.slice len cells)/\s'.g C vs st' :=by
 have hs' :=hs;obtain ⟨hT,hH,hL,ht,hB⟩:=hs;unfold Ce at h;split at h
 .split at h
  .rename_i hz
   have hz:=e8 hz
   grind [Q3,SD.g]
  .cases h
 .rename_i j
  split at h
  .rename_i z x' e
   split at h
   .obtain ⟨rfl,rfl⟩:=h
    obtain ⟨a,h1,h2⟩:=y7.get hL e;obtain ⟨len,cells,rfl,h3⟩:=tE h2;refine ⟨len,cells,{ st with L:=st.L.set j (.d (.slice len cells)) },?_,h3,hT,hH,y7.set hL j (cK h3),ht,hB⟩;simp_all [Q3,if_pos]
   .cases h
  all_goals grind [y7.get,bG,uP,Ov,Q3]
 .cases h
theorem Ue (hs:s.g C vs st){l:H7}{op:x9}(h:HM l s op=true):pU l st op=true:=by
 have hs' :=hs;obtain ⟨hT,hH,hL,ht,hB⟩:=hs;unfold HM at h;split at h
 .simp [JA] at h
  grind [y7.get,SV.g,pU,Bool.and_self]
 .split at h
  .simp [c7] at h
   obtain ⟨h1,h2⟩:=h;split at h2
   .rename_i p cs e
    split at h2
    .obtain ⟨o,h3,h4⟩:=J6.get hH e
     obtain ⟨ds,rfl,h5,_⟩:=h4
     grind [y7.get,SV.g,pU,XT,Bool.and_self]
    .cases h2
   .cases h2
  .cases h
 .cases h
def XM (hs:s.g C vs st){l:H7}{l5:List o9}{y:y5}(h:Oi l l5 s y=true):isNil l l5 st y=true:=by
 have hs' :=hs;obtain ⟨hT,hH,hL,ht,hB⟩:=hs;unfold Oi at h;split at h
 .rfl
 .all_goals grind [y7.get,SV.g,isNil,bG,uP,Ue]
 .cases h
theorem Pn {row:List SD}:∀ {rows:List (List Data)},(∀ r,r ∈ rows->J1.g C vs row r)->y7.g C vs (c9 rows.length (row.map .d)).flatten (rows.flatten.map .d)
 |[],_=>by simp [y7.g]
 |r::rows,h=>by
  simp only [List.flatten_cons,List.map_append];exact y7.app (y7.NP (h r (by simp))) (Pn (fun r hr=>h r (by simp [hr])))
def KO (hs:s.g C vs st){sz m:Nat}{y:SV}{y' :c8}(hy:y.g C vs y'){l:List SV}(h:HA s.B s.H sz y=some (m,l)):∃ cs,O7 st.H sz y' =some (m,cs)/\y7.g C vs l cs:=by
 obtain ⟨hT,hH,hL,ht,hB⟩:=hs;cases y<;>simp only [HA,reduceCtorEq] at h
 .split at h
  .rename_i v lo hi row hq
   split at h
   .rename_i he
    have he:=e8 he;simp [Option.some.injEq,Prod.mk.injEq] at h;obtain ⟨rfl,rfl⟩:=h;obtain ⟨d,rfl,h1⟩:=bG hy;obtain ⟨hw,rows,rfl,h2,h3,h4,h5⟩:=SD.fS hB hq h1;have hfl:rows.flatten.length=rows.length * sz:=mD (fun r hr=>by grind [J1.len]);have hn:lo=rows.length:=by omega
    subst hn;exact ⟨_,by simp_all [O7,if_true],Pn h5⟩
   .cases h
  .cases h
 .rw [om hy]
  split at h
  .split at h
   .rename_i l' hl
    obtain ⟨rfl,rfl⟩:=h;obtain ⟨cs,h1,h2⟩:=EY hH hl;simp_all [y7.map,SV.rQ,O7,if_pos]
   .cases h
  .cases h
def HT {n m bytes:Nat}(h:Qg n bytes=true)(hm:m<=n):roomFor m bytes=true:=by
 have h:=j5 h;simp [roomFor,decide_eq_true_eq];exact F9 (Nat.mul_le_mul_right _ (by omega)) h
def HL (hs:s.g C vs st){z7:Option Nat}{o:SO}{o' :A1}(h:o.g C vs o'):(uQ s z7 o).g C vs (M4 st z7 o')/\newId st z7=lN s z7:=by
 obtain ⟨hT,hH,hL,ht,hB⟩:=hs;have hlen:=J6.len hH;cases z7 with
 |none =>
  refine ⟨⟨hT,J6.app hH (by simp_all [J6.g]),hL,ht,hB⟩,?_⟩;simp [newId,lN,hlen]
 |some i=>exact ⟨⟨hT,J6.set hH i h,hL,ht,hB⟩,rfl⟩
def ET (hs:s.g C vs st){E:Env}{l5:List o9}{z7:Option Nat}{k sz bytes:Nat}{ob:Bool}{x:y5}{y:SV}{y' :c8}(hy:y.g C vs y'){s' :SS}(h:rA E.lim l5 z7 k sz bytes ob s x y=some s'):∃ st',O4 E l5 z7 k sz bytes ob st x y' =some st' /\s'.g C vs st' :=by
 unfold rA at h;split at h
 .split at h
  .rename_i m cs he
   obtain ⟨ds,h1,h2⟩:=KO hs hy he;split at h
   .rename_i hc
    simp [c7] at hc;have c1:=XM hs hc.1.1;have c2:=HT hc.1.2 (n5 _);split at h
    .cases h
     refine ⟨_,?_,dA hs k (v:= .O2) (a:= .O2) (by rfl)⟩;simp_all [O4,if_true,if_pos]
    .cases h
     obtain ⟨n1,n2⟩:=HL hs (z7:=z7) (o:= .cells none cs) (o' := .cells ds) ⟨ds,rfl,h2,fun k h=>by cases h⟩;refine ⟨_,?_,dA n1 k (v:= .B4 (lN s z7) sz 0 m) (a:= .B4 (newId st z7) sz 0 m) (by grind [SV.g])⟩;simp_all [O4,if_true,if_pos,if_neg]
   .cases h
  .cases h
 .split at h
  .rename_i z hz
   obtain ⟨m,cs,new,h1,h2,h3⟩:=XC hs hy hz;split at h
   .rename_i x0 s1 ht
    obtain ⟨len,cells,st1,h4,h5,h6⟩:=Ou hs ht;split at h
    .rename_i r hi aP7
     obtain ⟨h7,h8⟩:=aG3 hs.2.2.2.2 aP7 h5 h3;split at h
     .rename_i hc
      simp [c7] at hc;have c2:=HT hc.1 h8;cases h;refine ⟨_,?_,dA h6 k (v:= .own sz r) (a:= .own sz (len+m) (cells++new)) (by grind [SV.g])⟩;simp_all [O4,if_neg,if_pos]
     .cases h
    .cases h
   .cases h
  .cases h
def TZ (hs:s.g C vs st){E:Env}{k sz bytes id lo len:Nat}{y:SV}{y' :c8}(hy:y.g C vs y'){s' :SS}(h:zY E.lim E.entry k sz bytes s id lo len y=some s'):∃ st',U0 E k sz bytes st id lo len y' =some st' /\s'.g C vs st' :=by
 unfold zY at h;split at h
 .rename_i hc0
  simp [c7,Nat.ble_eq] at hc0;split at h
  .rename_i p l m cs hH0 he
   split at h
   .split at h
    .rename_i hc
     simp only [c7,Nat.ble_eq] at hc;obtain ⟨⟨⟨⟨⟨c1,c2⟩,c3⟩,c4⟩,c5⟩,c6⟩:=hc;cases h;obtain ⟨ds,h1,h2⟩:=KO hs hy he;obtain ⟨hT,hH,hL,ht,hB⟩:=hs;obtain ⟨o,h3,h4⟩:=J6.get hH hH0;obtain ⟨es,rfl,h5,_⟩:=h4;have e1:=y7.len h5;have c1:=e8 c1;have c2:=e8 c2;have hrf:=HT c3 (n5 _);refine ⟨_,?_,dA (s:={ s with T:=y7.kill id s.T,H:=(s.H.take E.lim.base++(s.H.drop E.lim.base).map (SO.kill id)).set id (.cells none (y7.kill id l++cs)),L:=y7.kill id s.L,p7:= .obj id::s.p7 }) (st:={ T:=I6 id st.T,H:=(st.H.take E.lim.base++(st.H.drop E.lim.base).map (A1.kill id)).set id (.cells (I6 id es++ds)),L:=I6 id st.L,p7:= .obj id::st.p7 }) ⟨y7.fK id hT,J6.set (J6.app (J6.take hH _) (J6.map (fun _ _=>SO.fK id) (J6.drop hH _))) id (a:= .cells none (y7.kill id l++cs)) (b:= .cells (I6 id es++ds)) ⟨_,rfl,y7.app (y7.fK id h5) h2,fun k h=>by cases h⟩,y7.fK id hL,by simp_all,hB⟩ k (v:= .B4 id sz lo (len+m)) (a:= .B4 id sz lo (len+m)) (by rfl)⟩;simp only [U0,h3,h1];rw [if_pos ⟨hc0.1.1,hc0.1.2,hc0.2⟩,if_pos ⟨c1,by omega,hrf,by grind [y7.cU],y7.BG h2 c5,j5 c6⟩]
    .cases h
   .cases h
  .cases h
 .cases h
end
abbrev Sem:=ji->FuncId->List SV->List SO->H7->Option (List (SV×List SO))
def gq (C:Ctx)(A:Prog)(sem:Sem):Prop:=∀ B f args H l outs,sem B f args H l=some outs->∀ vs,Bg vs B->∀ as Hc,y7.g C vs args as->J6.g C vs H Hc ->
 Pq A f as Hc l fun v H1=>∃ o,o ∈ outs/\o.1.g C vs v/\J6.g C vs o.2 H1
def ir {α β:Type}(f:α->Option (List β)):List α->Option (List β)
 |[]=>some []
 |a::r=>match f a,ir f r with
  |some x,some y=>some (x++y)
  |_,_=>none
theorem Y2 {α β:Type}{f:α->Option (List β)}:∀ {l:List α} {r:List β},ir f l=some r->∀ a,a ∈ l->∃ x,f a=some x/\∀ b,b ∈ x->b ∈ r
 |[],_,_,a,h=>by cases h
 |c::l,r,h,a,ha=>by
  simp [ir] at h;split at h
  .rename_i x y hx hy
   cases h
   rcases B8.1 ha with rfl|ha
   .simp_all
   .obtain ⟨z,h1,h2⟩:=Y2 hy a ha
    simp_all
  .cases h
section
variable (A:Prog) (sem:Sem)
def XD (lim:H7)(k:Nat)(f:FuncId)(args:List SV)(s:SS):Option (List SS) :=
 if A.prom f then match sem s.B f args s.H lim with
  |some outs=>if outs.all (fun o=>E1 s.H.length o.2.length) then some (outs.map fun o=>qj { s with H:=o.2,p7:= .below o.2.length::s.p7 } k o.1) else none
  |none=>none
 else match Aw s.H,y7.Y3 args with
  |some bs,some b0 =>
   if E1 (V9 bs lim.strict 8 b0) s.H.length&&E1 (As ((bs.take (V9 bs lim.strict 8 b0)).drop lim.strict)) (V9 bs lim.strict 8 b0) then
    match A.mode f with
    |0=>match sem s.B f args (s.H.take (V9 bs lim.strict 8 b0)) { lim with base:=V9 bs lim.strict 8 b0,strict:=rG bs lim.strict (V9 bs lim.strict 8 b0) } with
     |some outs=>if outs.all (fun o=>s7 o.2.length (V9 bs lim.strict 8 b0)) then some (outs.map fun o=>qj { s with H:=o.2++s.H.drop (V9 bs lim.strict 8 b0),p7:= .below (V9 bs lim.strict 8 b0)::s.p7 } k o.1) else none
     |none=>none
    |1=>match sem s.B f args (s.H.take (V9 bs lim.strict 8 b0)) ⟨0,V9 bs lim.strict 8 b0,V9 bs lim.strict 8 b0,rG bs lim.strict (V9 bs lim.strict 8 b0)⟩ with
     |some outs=>if outs.all (fun o=>s7 o.2.length (V9 bs lim.strict 8 b0)) then some (outs.map fun o=>qj s k o.1) else none
     |none=>none
    |_=>match (args.headD .any).Y3 with
     |some m=>match sem s.B f args (s.H.take (V9 bs lim.strict 8 b0)) (lim.pG m (V9 bs lim.strict 8 b0) (V9 bs lim.strict 8 b0) (rG bs lim.strict (V9 bs lim.strict 8 b0))) with
      |some outs=>if outs.all (fun o=>s7 o.2.length (V9 bs lim.strict 8 b0))&&E1 m (V9 bs lim.strict 8 b0) then some (outs.map fun o=>qj { s with H:=o.2.take m++s.H.drop m,p7:= .below m::s.p7 } k o.1) else none
      |none=>none
     |none=>none
   else none
  |_,_=>none
def one {α:Type}:Option α->Option (List α)
 |some a=>some [a]
 |none=>none
def aG4 (lim:H7)(entry:Nat)(l5:List o9)(z7:Option Nat)(k:Nat)(s:SS):x9->Option (List SS)
 | .alloc zero=>some [qj (uQ s z7 (.cells none (zero.map ZM))) k (.ptr (lN s z7) 0)]
 | .box x=>match (cC s.T s.L x).cells? with
  |some l=>some [qj (uQ s z7 (.cells (cC s.T s.L x).tag l)) k (.ptr (lN s z7) 0)]
  |none=>none
 | .F5 sz len zero parts true=>match BS (zero.map ZM) (parts.map fun (o,t,x)=>(o,t,cC s.T s.L x)) with
  |some cs=>if Nat.blt 0 sz&&s7 cs.length (len * sz) then some [qj (uQ s z7 (.cells none cs)) k (.B4 (lN s z7) sz 0 len)] else none
  |none=>none
 | .store n a x=>one (HU lim k n s x (cC s.T s.L a))
 | .append sz bytes ob x y=>match cC s.T s.L x with
  | .B4 id z lo len=>if s7 z sz then one (zY lim entry k sz bytes s id lo len (cC s.T s.L y)) else none
  | .d _=>one (rA lim l5 z7 k sz bytes ob s x (cC s.T s.L y))
  | .O2=>one (rA lim l5 z7 k sz bytes ob s x (cC s.T s.L y))
  |_=>none
 | .call f xs=>XD A sem lim k f (xs.map (cC s.T s.L)) s
 |_=>none
end
section
variable {C:Ctx} {vs:List Nat} {s:SS} {st:H6} {A:Prog} {sem:Sem} (gF:gq C A sem)
theorem y7.aC6 {σ:y5->SV}{ρ:y5->c8}(h:∀ x,(σ x).g C vs (ρ x)):∀ xs:List y5,y7.g C vs (xs.map σ) (xs.map ρ)
 |[]=>by simp [y7.g]
 |x::xs=>by exact ⟨_,_,rfl,h x,y7.aC6 h xs⟩
def ac6:∀ {x:List SV} {v:List c8},y7.g C vs x v->(x.headD .any).g C vs (v.headD .any)
 |[],_,h=>by simp_all [y7.g,SV.g]
 |x::xs,_,h=>by grind [y7.g]
include gF
def ai3 (hs:s.g C vs st){l:H7}{b k:Nat}{f:FuncId}{args:List SV}{as:List c8}(ha:y7.g C vs args as){outs:List SS}(h:XD A sem l k f args s=some outs) :
  ∃ st' N,(∃ o,o ∈ outs/\o.g C vs st')/\∀ n,N<=n->D0 (N9 A n l b) k f as st=some st' :=by
 have hs' :=hs;obtain ⟨hT,hH,hL,ht,hB⟩:=hs;have hlen:=J6.len hH;unfold XD at h;split at h
 .split at h
  .rename_i os hos
   split at h
   .rename_i hall
    cases h;obtain ⟨v,H1,⟨o,o1,o2,o3⟩,N,hN⟩:=gF _ _ _ _ _ _ hos vs hB _ _ ha hH;have hl:=j5 (Q2.1 hall o o1);have qU:=J6.len o3;refine ⟨_,N,⟨_,L1.2 ⟨o,o1,rfl⟩,dA (s:={ s with H:=o.2,p7:= .below o.2.length::s.p7 }) (st:={ st with H:=H1,p7:= .below H1.length::st.p7 }) ⟨hT,o3,hL,by simp_all,hB⟩ k o2⟩,fun n hn=> ?_⟩;simp_all [N9,D0,if_true,if_pos]
   .cases h
  .cases h
 .have lD:A.prom f=false:=by simp_all
  split at h
  .rename_i bs b0 Tq hb0
   have e1:=Gq Tq hH;have e2:=y7.cU hb0 ha;have e3:F6 st.H l.strict 8 (C5 as)=V9 bs l.strict 8 b0:=by rw [wD,e1,e2]
   have e4:∀ n,F7 st.H l.strict n=rG bs l.strict n:=fun n=>by rw [Oy,e1]
   generalize hcn:V9 bs l.strict 8 b0=n0 at h;rw [hcn] at e3;split at h
   .rename_i hc
    simp only [c7,Nat.ble_eq] at hc;have Bh:Z9 ((st.H.take n0).drop l.strict)<=n0:=by simp_all [qN]
    have hle:n0<=st.H.length:=by omega
    have hHt:=J6.take hH n0;have hHd:=J6.drop hH n0;split at h
    .rename_i hm
     split at h
     .rename_i os hos
      split at h
      .rename_i hall
       cases h;obtain ⟨v,H1,⟨o,o1,o2,o3⟩,N,hN⟩:=gF _ _ _ _ _ _ hos vs hB _ _ ha hHt;have hl:=e8 (Q2.1 hall o o1);have qU:=J6.len o3;refine ⟨_,N,⟨_,L1.2 ⟨o,o1,rfl⟩,dA (s:={ s with H:=o.2++s.H.drop n0,p7:= .below n0::s.p7 }) (st:={ st with H:=H1++st.H.drop n0,p7:= .below n0::st.p7 }) ⟨hT,J6.app o3 hHd,hL,by simp_all,hB⟩ k o2⟩,fun n hn=> ?_⟩;exact oU (E:=N9 A n l b) lD hm e3 hle Bh rfl (by simp_all [N9]) (by omega)
      .cases h
     .cases h
    .rename_i hm
     split at h
     .rename_i os hos
      split at h
      .rename_i hall
       cases h;obtain ⟨v,H1,⟨o,o1,o2,o3⟩,N,hN⟩:=gF _ _ _ _ _ _ hos vs hB _ _ ha hHt;have hl:=e8 (Q2.1 hall o o1);have qU:=J6.len o3;refine ⟨_,N,⟨_,L1.2 ⟨o,o1,rfl⟩,dA hs' k o2⟩,fun n hn=> ?_⟩;exact uc (E:=N9 A n l b) lD hm e3 hle Bh rfl (by rw [show (N9 A n l b).lim=l from rfl,e4];exact hN n hn) (by omega)
      .cases h
     .cases h
    .split at h
     .rename_i m hmm
      split at h
      .rename_i os hos
       split at h
       .rename_i hall
        simp only [c7,Nat.ble_eq] at hall;cases h;obtain ⟨v,H1,⟨o,o1,o2,o3⟩,N,hN⟩:=gF _ _ _ _ _ _ hos vs hB _ _ ha hHt;have hl:=e8 (Q2.1 hall.1 o o1);have qU:=J6.len o3;have hm2:=SV.cU hmm (ac6 ha);refine ⟨_,N,⟨_,L1.2 ⟨o,o1,rfl⟩,dA (s:={ s with H:=o.2.take m++s.H.drop m,p7:= .below m::s.p7 }) (st:={ st with H:=H1.take m++st.H.drop m,p7:= .below m::st.p7 }) ⟨hT,J6.app (J6.take o3 m) (J6.drop hH m),hL,by simp_all,hB⟩ k o2⟩,fun n hn=> ?_⟩;simp_all [N9,D0,j4,if_false,if_pos]
       .cases h
      .cases h
     .cases h
   .cases h
  .cases h
def aG5 (hs:s.g C vs st){l:H7}{b:Nat}{l5:List o9}{z7:Option Nat}{k:Nat}{op:x9}{outs:List SS}(h:aG4 A sem l b l5 z7 k s op=some outs) :
  ∃ st' N,(∃ o,o ∈ outs/\o.g C vs st')/\∀ n,N<=n->F3 (N9 A n l b) l5 z7 k st op=some st' :=by
 have hr:=SS.J2 hs;cases op<;>simp only [aG4,reduceCtorEq] at h
 case alloc zero =>
  cases h;obtain ⟨n1,n2⟩:=HL hs (z7:=z7) (o:= .cells none (zero.map ZM)) (o' := .cells zero) ⟨zero,rfl,BF zero,fun k h=>by cases h⟩;exact ⟨_,0,⟨_,s8.2 rfl,dA n1 k (v:= .ptr (lN s z7) 0) (a:= .ptr (newId st z7) 0) (by grind [SV.g])⟩,fun n _=>rfl⟩
 case box x =>
  split at h
  .rename_i cl hl
   cases h;obtain ⟨cs,h1,h2,h3⟩:=SV.zK (hr x) hl;obtain ⟨n1,n2⟩:=HL hs (z7:=z7) (o:= .cells (cC s.T s.L x).tag cl) (o' := .cells cs) ⟨cs,rfl,h2,h3⟩;exact ⟨_,0,⟨_,s8.2 rfl,dA n1 k (v:= .ptr (lN s z7) 0) (a:= .ptr (newId st z7) 0) (by grind [SV.g])⟩,fun n _=>by grind [F3]⟩
  .cases h
 case F5 sz len zero parts ob =>
  cases ob<;>simp [reduceCtorEq] at h;split at h
  .rename_i cs hcs
   split at h
   .cases h
    obtain ⟨ds,h1,h2⟩:=Ab (uG hr parts) (BF zero) hcs;have hl:=y7.len h2;obtain ⟨n1,n2⟩:=HL hs (z7:=z7) (o:= .cells none cs) (o' := .cells ds) ⟨ds,rfl,h2,fun k h=>by cases h⟩;refine ⟨_,0,⟨_,s8.2 rfl,dA n1 k (v:= .B4 (lN s z7) sz 0 len) (a:= .B4 (newId st z7) sz 0 len) (by grind [SV.g])⟩,fun n _=> ?_⟩;simp_all [F3,if_pos]
   .cases h
  .cases h
 case store n a x =>
  cases e:HU l k n s x (cC s.T s.L a) with
  |none=>rw [e] at h;cases h
  |some s' =>
   rw [e] at h;cases h;obtain ⟨st',h1,h2⟩:=XY (E:=N9 A 0 l b) hs (hr a) e;exact ⟨st',0,⟨_,s8.2 rfl,h2⟩,fun n _=>h1⟩
 case append sz bytes ob x y =>
  have hx:=hr x;split at h
  .rename_i id z lo len e
   rw [e] at hx;split at h
   .rename_i hz
    have hz:=e8 hz;cases e2:zY l b k sz bytes s id lo len (cC s.T s.L y) with
    |none=>rw [e2] at h;cases h
    |some s' =>
     rw [e2] at h;cases h;obtain ⟨st',h1,h2⟩:=TZ (E:=N9 A 0 l b) hs (hr y) e2;refine ⟨st',0,⟨_,s8.2 rfl,h2⟩,fun n _=> ?_⟩;simp only [F3,om hx];rw [if_pos hz];exact h1
   .cases h
  .rename_i x' e
   rw [e] at hx;obtain ⟨d,e3,_⟩:=bG hx;cases e2:rA l l5 z7 k sz bytes ob s x (cC s.T s.L y) with
   |none=>rw [e2] at h;cases h
   |some s' =>
    rw [e2] at h;cases h;obtain ⟨st',h1,h2⟩:=ET (E:=N9 A 0 l b) hs (hr y) e2;refine ⟨st',0,⟨_,s8.2 rfl,h2⟩,fun n _=> ?_⟩;simp [F3,e3];exact h1
  .rename_i e
   rw [e] at hx;simp [SV.g] at hx;cases e2:rA l l5 z7 k sz bytes ob s x (cC s.T s.L y) with
   |none=>rw [e2] at h;cases h
   |some s' =>
    rw [e2] at h;cases h;obtain ⟨st',h1,h2⟩:=ET (E:=N9 A 0 l b) hs (hr y) e2;refine ⟨st',0,⟨_,s8.2 rfl,h2⟩,fun n _=> ?_⟩;simp [F3,hx];exact h1
  .cases h
 case call f xs =>
  obtain ⟨st',N,h1,h2⟩:=ai3 gF (b:=b) hs (y7.aC6 hr xs) h;exact ⟨st',N,h1,fun n hn=>by simp_all [F3]⟩
end
def uH (B:ji)(c:SB)(t:Bool):Option ji:=match c with
 | .tT=>some B
 | .cmp i n pol=>match B[i]? with
  |some (lo,hi)=>if t==pol then (if E1 (max lo (n+1)) hi then some (B.set i (max lo (n+1),hi)) else none)
    else (if E1 lo (min hi n) then some (B.set i (lo,min hi n)) else none)
  |none=>some B
def EL {vs:List Nat}{B:ji}(hB:Bg vs B){c:SB}{t:Bool}(h:c.g vs t):∃ B',uH B c t=some B' /\Bg vs B' :=by
 cases c with
 |tT=>exact ⟨B,rfl,hB⟩
 |cmp i n pol =>
  obtain ⟨m,h1,h2⟩:=h;simp only [uH];split
  .rename_i lo hi hi0
   obtain ⟨m',e1,e2,e3⟩:=hB.2 _ _ _ hi0;rw [h1] at e1;have key:∀ lo' hi',lo' <=m->m<=hi' ->Bg vs (B.set i (lo',hi')):=by
    intro lo' hi' g1 g2;refine ⟨by simp [hB.1],fun j a b hj=> ?_⟩;rw [List.getElem?_set] at hj;split at hj
    .simp_all
    .exact hB.2 _ _ _ hj
   by_cases hp:(t==pol)=true
   .simp_all<;>grind
   simp_all<;>grind
  simp_all
def GM (s:SS)(j:Nat)(c:SB)(t:Bool):List SS:=match uH s.B c t with
 |some B' =>[{ s with L:=s.L.set j (.d (.lit (.bool t))),B:=B' }]
 |none=>[]
def Js (s:SS)(j:Nat):List SS:=match s.L[j]? with
 |some (.d x)=>match x.bool? with
  |some (.u c)=>GM s j c true++GM s j c false
  |_=>[s]
 |_=>[s]
def pM (k:IntKind)(lo:Int):Nat->List SV
 |0=>[]
 |n+1=> .d (.lit (.int k lo))::pM k (lo+1) n
def VF (s:SS)(j:Nat):List SS:=match s.L[j]? with
 |some (.d x)=>match x.int? s.B with
  |some (k,lo,hi,_)=>(pM k lo (hi - lo+1).toNat).map fun v=>{ s with L:=s.L.set j v }
  |none=>[s]
 |_=>[s]
def GN (s:SS)(i lo:Nat):Nat->List SS
 |0=>[]
 |n+1=>{ s with B:=s.B.set i (lo,lo) }::GN s i (lo+1) n
def VG (s:SS)(i:Nat):List SS:=match s.B[i]? with
 |some (lo,hi)=>GN s i lo (hi+1 - lo)
 |none=>[s]
section
variable {C:Ctx} {vs:List Nat} {s:SS} {st:H6}
def Po (hs:s.g C vs st)(j:Nat):∃ s',s' ∈ Js s j/\s'.g C vs st:=by
 have hs' :=hs;obtain ⟨hT,hH,hL,ht,hB⟩:=hs;unfold Js;split
 .rename_i x e
  split
  .rename_i c hc
   obtain ⟨a,h1,h2⟩:=y7.get hL e;obtain ⟨d,rfl,h3⟩:=bG h2;obtain ⟨t,rfl,h4⟩:=SD.fC hc h3;obtain ⟨B',h5,h6⟩:=EL hB h4;have key:(GM s j c t)=[{ s with L:=s.L.set j (.d (.lit (.bool t))),B:=B' }]:=by grind [GM]
   have hL2:y7.g C vs (s.L.set j (.d (.lit (.bool t)))) st.L:=by
    have:=y7.set hL j (a:= .d (.lit (.bool t))) (b:= .d (.bool t)) (cK (by rfl));simp_all [au]
   refine ⟨{ s with L:=s.L.set j (.d (.lit (.bool t))),B:=B' },?_,hT,hH,hL2,ht,h6⟩;cases t with
   |true=>simp_all
   |false=>simp_all
  simp_all
 simp_all
theorem nV {k:IntKind}:∀ (n:Nat) (lo m:Int),lo<=m->m<lo+n->SV.d (.lit (.int k m)) ∈ pM k lo n
 |0,lo,m,h1,h2=>by omega
 |n+1,lo,m,h1,h2=>by
  simp [pM,B8]
  by_cases h:m=lo
  .simp_all
  .exact .inr (nV n (lo+1) m (by omega) (by omega))
def ab2 (hs:s.g C vs st)(j:Nat):∃ s',s' ∈ VF s j/\s'.g C vs st:=by
 have hs' :=hs;obtain ⟨hT,hH,hL,ht,hB⟩:=hs;unfold VF;split
 .rename_i x e
  split
  .rename_i k lo hi r hc
   obtain ⟨a,h1,h2⟩:=y7.get hL e;obtain ⟨d,rfl,h3⟩:=bG h2;obtain ⟨m,rfl,h4,h5,_⟩:=SD.jQ hB hc h3;refine ⟨_,L1.2 ⟨_,nV _ lo m h4 (by omega),rfl⟩,hT,hH,?_,ht,hB⟩;have:=y7.set hL j (a:= .d (.lit (.int k m))) (b:= .d (.int k m)) (cK (by rfl));simp_all [au]
  simp_all
 simp_all
theorem Bd {i:Nat}:∀ (n lo m:Nat),lo<=m->m<lo+n->{ s with B:=s.B.set i (m,m) } ∈ GN s i lo n
 |0,lo,m,h1,h2=>by omega
 |n+1,lo,m,h1,h2=>by
  simp [GN,B8]
  by_cases h:m=lo
  .simp_all
  .exact .inr (Bd n (lo+1) m (by omega) (by omega))
def ab3 (hs:s.g C vs st)(i:Nat):∃ s',s' ∈ VG s i/\s'.g C vs st:=by
 have hs' :=hs;obtain ⟨hT,hH,hL,ht,hB⟩:=hs;unfold VG;split
 .rename_i lo hi e
  obtain ⟨m,h1,h2,h3⟩:=hB.2 _ _ _ e;refine ⟨_,Bd _ lo m h2 (by omega),hT,hH,hL,ht,by simp [hB.1],fun j a b hj=> ?_⟩;rw [List.getElem?_set] at hj;split at hj
  .grind
  .exact hB.2 _ _ _ hj
 simp_all
end
def mL (n:Nat):SD->Option (SD×(Nat×Nat))
 | .slice none lo hi row=>if Nat.blt lo hi then some (.slice (some n) lo hi row,(lo,hi)) else none
 | .pr k x=>match mL n x with
  |some (y,p)=>some (.pr k y,p)
  |none=>none
 |_=>none
theorem zT {C:Ctx}{vs:List Nat}:∀ {x y:SD} {p:Nat×Nat} {d:Data},mL vs.length x=some (y,p)->x.g C vs d->∃ m,p.1<=m/\m<=p.2/\y.g C (vs++[m]) d
 | .slice v lo hi row,y,p,d,h,hg=>by
  cases v<;>simp only [mL,reduceCtorEq] at h;split at h
  .obtain ⟨rfl,rfl⟩:=h
   obtain ⟨rows,rfl,h1,h2,h3,h4⟩:=hg;refine ⟨rows.length,h1,h2,?_⟩
   grind [SD.g,J1.R1,Le.app]
  .cases h
 | .pr k x,y,p,d,h,hg=>by
  simp [mL] at h;split at h
  .rename_i y' p' e
   obtain ⟨m,h1,h2,h3⟩:=zT e hg.2
   grind [SD.g]
  .cases h
 | .top,_,_,_,h,_=>by simp [mL] at h
 | .lit _,_,_,_,h,_=>by simp [mL] at h
 | .bool _,_,_,_,h,_=>by simp [mL] at h
 | .int ..,_,_,_,h,_=>by simp [mL] at h
 | .anyI _,_,_,_,h,_=>by simp [mL] at h
 | .str _,_,_,_,h,_=>by simp [mL] at h
def Kc (n:Nat):SV->Option (SV×(Nat×Nat))
 | .d x=>match mL n x with
  |some (y,p)=>some (.d y,p)
  |none=>none
 | .own z x=>match mL n x with
  |some (y,p)=>some (.own z y,p)
  |none=>none
 | .q x=>match mL n x with
  |some (y,p)=>some (.q y,p)
  |none=>none
 |_=>none
def He {C:Ctx}{vs:List Nat}{x y:SV}{p:Nat×Nat}{v:c8}(h:Kc vs.length x=some (y,p))(hg:x.g C vs v):∃ m,p.1<=m/\m<=p.2/\y.g C (vs++[m]) v:=by
 cases x<;>simp [Kc,reduceCtorEq] at h
 .grind [Option.some.injEq,Prod.mk.injEq,bG,zT,cK]
 .grind [Option.some.injEq,Prod.mk.injEq,tE,zT,SV.g]
 grind [Option.some.injEq,Prod.mk.injEq,SV.g,zT]
def Wx (s:SS)(k:Nat):SS:=match s.L[k]? with
 |some v=>match Kc s.B.length v with
  |some (w,p)=>{ s with L:=s.L.set k w,B:=s.B++[p] }
  |none=>s
 |none=>s
def Ww (s:SS)(id off:Nat):SS:=match s.H[id]? with
 |some (.cells p l)=>match l[off]? with
  |some v=>match Kc s.B.length v with
   |some (w,q)=>{ s with H:=s.H.set id (.cells p (l.set off w)),B:=s.B++[q] }
   |none=>s
  |none=>s
 |_=>s
section
variable {C:Ctx} {vs:List Nat} {s:SS} {st:H6}
theorem Bg.add {B:ji}(hB:Bg vs B){p:Nat×Nat}{m:Nat}(h1:p.1<=m)(h2:m<=p.2):Bg (vs++[m]) (B++[p]):=by
 refine ⟨by simp [hB.1],fun i a b h=> ?_⟩
 rcases A5 i B.length with hi|hi
 .rw [A8 hi] at h
  obtain ⟨q,e1,e2⟩:=hB.2 _ _ _ h
  grind
 .rw [u9 hi] at h
  cases e:i - B.length with
  |zero =>
   rw [e] at h;simp at h;have hb:=hB.1;simp_all [u9]
  |succ q=>simp_all
theorem SS.mono {ws:List Nat}(hl:Le vs ws)(hs:s.g C vs st):y7.g C ws s.T st.T/\J6.g C ws s.H st.H/\y7.g C ws s.L st.L :=
 ⟨y7.R1 hl _ hs.1,J6.R1 hl _ hs.2.1,y7.R1 hl _ hs.2.2.1⟩
def af0 (hs:s.g C vs st)(k:Nat):∃ ws,Le vs ws/\(Wx s k).g C ws st:=by
 unfold Wx;split
 .rename_i v e
  split
  .rename_i w p hn
   rw [<- hs.2.2.2.2.1] at hn;obtain ⟨a,h1,h2⟩:=y7.get hs.2.2.1 e;obtain ⟨m,h3,h4,h5⟩:=He hn h2;obtain ⟨g1,g2,g3⟩:=SS.mono (Le.app vs [m]) hs;refine ⟨vs++[m],Le.app _ _,g1,g2,?_,hs.2.2.2.1,hs.2.2.2.2.add h3 h4⟩;have:=y7.set g3 k h5;simp_all [au]
  grind [Le.refl]
 grind [Le.refl]
def ae9 (hs:s.g C vs st)(id off:Nat):∃ ws,Le vs ws/\(Ww s id off).g C ws st:=by
 unfold Ww;split
 .rename_i p l e
  split
  .rename_i v e2
   split
   .rename_i w q hn
    rw [<- hs.2.2.2.2.1] at hn;obtain ⟨o,h1,h2⟩:=J6.get hs.2.1 e;obtain ⟨cs,rfl,h3,h4⟩:=h2;obtain ⟨a,h5,h6⟩:=y7.get h3 e2;obtain ⟨m,h7,h8,h9⟩:=He hn h6;obtain ⟨g1,g2,g3⟩:=SS.mono (Le.app vs [m]) hs;refine ⟨vs++[m],Le.app _ _,g1,?_,g3,hs.2.2.2.1,hs.2.2.2.2.add h7 h8⟩;have e3:SO.g C (vs++[m]) (.cells p (l.set off w)) (.cells cs):=by
     refine ⟨cs,rfl,?_,h4⟩;have:=y7.set (y7.R1 (Le.app vs [m]) _ h3) off h9;simp_all [au]
    have:=J6.set g2 id e3;simp_all [au]
   grind [Le.refl]
  grind [Le.refl]
 grind [Le.refl]
end
inductive Fk where
 |no
 |b (j:Nat)
 |i (j:Nat)
 |l (i:Nat)
def aq4 (B:ji):SV->Fk
 | .d z=>match z.tA B with
  |some (some i,lo,hi)=>if Nat.blt lo hi then .l i else .no
  |_=> .no
 |_=> .no
def aU6 (s:SS):x9->Fk
 | .pick (.loc j) _ _=> .b j
 | .N8 sz x (.loc j)=>match cC s.T s.L x with
  | .B4 .. =>if s7 sz 7 then .no else .i j
  |_=> .no
 | .append _ _ ob x y=>if ob then aq4 s.B (cC s.T s.L y) else match cC s.T s.L x with
  | .B4 .. =>aq4 s.B (cC s.T s.L y)
  |_=> .no
 |_=> .no
def VH (s:SS)(op:x9):List SS:=match aU6 s op with
 | .no=>[s]
 | .b j=>Js s j
 | .i j=>VF s j
 | .l i=>VG s i
def aE4 (s:SS):x9->SS
 | .load none x=>match cC s.T s.L x with
  | .ptr id off=>Ww s id off
  |_=>s
 |_=>s
def HZ (L:List SV):Option (Nat×Bool)->Option Bool
 |none=>some true
 |some (j,want)=>match L[j]? with
  |some (.d x)=>match x.bool? with
   |some (.t b)=>some (b==want)
   |_=>none
  |some (.tuple [])=>some false
  |_=>none
def mW (z7:Option Nat)(s:SS)(k:Nat):Option Nat->Option SS
 |none=>some s
 |some t=>match z7 with
  |none=>if Nat.blt t s.T.length then some { (cm s (.loc k)).2 with T:=s.T.set t (cm s (.loc k)).1,p7:= .slot t::s.p7 } else none
  |some _=>if Nat.blt t s.T.length&&JA s.p7 t then some { (cm s (.loc k)).2 with T:=s.T.set t (cm s (.loc k)).1 } else none
section
variable (A:Prog) (sem:Sem) (lim:H7) (entry:Nat) (l5:List o9) (z7:Option Nat) (k:Nat)
def Ot (op:x9)(s:SS):Option (List (SS×List Nat)) :=
 if op.D9 then match aG4 A sem lim entry l5 z7 k s op with
  |some outs=>some (outs.map fun o=>(o,[]))
  |none=>none
 else match op with
  | .Q5 x=>some [(qj (cm s x).2 k (cm s x).1,[])]
  |op=>match BZ (cC s.T s.L) s.H s.B op with
   |some (v,rs)=>some [(qj s k v,rs)]
   |none=>none
def bd5 (dst:Option Nat)(o:SS×List Nat):Option (List (SS×List Nat)):=match mW z7 (Wx o.1 k) k dst with
 |some s' =>some [(s',o.2)]
 |none=>none
def sdo (i:o9)(s:SS):Option (List (SS×List Nat)):=match Ot A sem lim entry l5 z7 k i.op (aE4 s i.op) with
 |some outs=>ir (bd5 z7 k i.dst) outs
 |none=>none
def XW (i:o9)(s:SS):Option (List (SS×List Nat)):=match HZ s.L i.guard with
 |some true=>ir (sdo A sem lim entry l5 z7 k i) (VH s i.op)
 |some false=>match mW z7 (qj s k (.tuple [])) k i.dst with
  |some s' =>some [(s',[])]
  |none=>none
 |none=>none
def XV (i:o9)(s:SS):Option (List (SS×List Nat)):=ir (XW A sem lim entry l5 z7 k i) (match i.guard with
 |some (j,_)=>Js s j
 |none=>[s])
end
section
variable {C:Ctx} {vs:List Nat} {s:SS} {st:H6} {A:Prog} {sem:Sem}
def ab4 (hs:s.g C vs st)(op:x9):∃ s',s' ∈ VH s op/\s'.g C vs st:=by
 unfold VH;split
 all_goals simp_all [s8,Po,ab2,ab3]
def aE5 (hs:s.g C vs st)(op:x9):∃ ws,Le vs ws/\(aE4 s op).g C ws st:=by
 unfold aE4;split
 .split
  .exact ae9 hs _ _
  grind [Le.refl]
 grind [Le.refl]
def Fe (hs:s.g C vs st){gd:Option (Nat×Bool)}{t:Bool}(h:HZ s.L gd=some t):z8 st.L gd=some t:=by
 cases gd with
 |none=>exact h
 |some p =>
  simp [HZ] at h;split at h
  .rename_i x e
   obtain ⟨a,h1,h2⟩:=y7.get hs.2.2.1 e
   grind [bG,SD.fC,z8]
  .rename_i e
   obtain ⟨a,h1,h2⟩:=y7.get hs.2.2.1 e;simp_all [SV.g,y7.g,z8]
  .cases h
def Fc (hs:s.g C vs st){z7:Option Nat}{k:Nat}{dst:Option Nat}{s' :SS}(h:mW z7 s k dst=some s'):∃ st',y4 z7 st k dst=some st' /\s'.g C vs st' :=by
 cases dst with
 |none=>simp [mW,Option.some.injEq] at h;subst h;exact ⟨st,by cases z7<;>rfl,hs⟩
 |some t =>
  have hlen:=y7.len hs.1;obtain ⟨hv,hT,hH,hL,ht,hB⟩:=Ah hs (.loc k);cases z7 with
  |none =>
   simp only [mW] at h;split at h
   .cases h
    refine ⟨{ (D8 st (.loc k)).2 with T:=st.T.set t (D8 st (.loc k)).1,p7:= .slot t::st.p7 },?_,y7.set hs.1 t hv,hH,hL,congrArg (Touch.slot t::·) hs.2.2.2.1,hB⟩;simp_all [y4,G5,if_pos]
   .cases h
  |some q =>
   simp only [mW] at h;split at h
   .rename_i hc
    simp [c7] at hc;have oC:=hc.2;unfold JA at oC;rw [<- hs.2.2.2.1] at oC;cases h;refine ⟨{ (D8 st (.loc k)).2 with T:=st.T.set t (D8 st (.loc k)).1 },?_,y7.set hs.1 t hv,hH,hL,ht,hB⟩;simp_all [y4,X6,if_pos,Bool.and_true,decide_eq_true_eq]
   .cases h
variable (gF:gq C A sem)
include gF
def XX (hs:s.g C vs st){l:H7}{b:Nat}{l5:List o9}{z7:Option Nat}{k:Nat}{op:x9}{outs:List (SS×List Nat)}(h:Ot A sem l b l5 z7 k op s=some outs) :
  ∃ st' rs N,(∃ o,o ∈ outs/\o.2=rs/\o.1.g C vs st')/\∀ n,N<=n->E2 (N9 A n l b) l5 z7 k op st=some (st',rs):=by
 unfold Ot at h;split at h
 .split at h
  .rename_i os hos
   cases h;obtain ⟨st',N,⟨o,h1,h2⟩,h3⟩:=aG5 gF (b:=b) hs hos;exact ⟨st',[],N,⟨_,L1.2 ⟨o,h1,rfl⟩,rfl,h2⟩,fun n hn=>by simp_all [E2,if_true]⟩
  .cases h
 .have he:op.D9=false:=by simp_all
  split at h
  .rename_i x _
   cases h;obtain ⟨h1,h2⟩:=Ah hs x;exact ⟨_,[],0,⟨_,s8.2 rfl,rfl,dA h2 k h1⟩,fun n _=>by rfl⟩
  .split at h
   .rename_i v rs hp
    cases h;obtain ⟨r,h1,h2⟩:=aj6 hs.2.2.2.2 (SS.J2 hs) hs.2.1 hp;refine ⟨_,rs,0,⟨_,s8.2 rfl,rfl,dA hs k h2⟩,fun n _=> ?_⟩;simp_all [E2,j4,if_false,absurd]
   .cases h
def bd2 (hs:s.g C vs st){l:H7}{b:Nat}{l5:List o9}{z7:Option Nat}{k:Nat}{i:o9}{outs:List (SS×List Nat)}(hw:z8 st.L i.guard=some true)(h:sdo A sem l b l5 z7 k i s=some outs) :
  ∃ st' rs N,(∃ o,o ∈ outs/\o.2=rs/\∃ ws,Le vs ws/\o.1.g C ws st')/\∀ n,N<=n->z6 (N9 A n l b) l5 z7 k i st=some (st',rs):=by
 unfold sdo at h;split at h
 .rename_i os hos
  obtain ⟨ws,l1,h1⟩:=aE5 hs i.op;obtain ⟨st1,rs,N,⟨o,o1,o2,o3⟩,h2⟩:=XX gF h1 hos;obtain ⟨x,hx,hm⟩:=Y2 h o o1;unfold bd5 at hx;split at hx
  .rename_i s' hs'
   cases hx;obtain ⟨ws2,l2,h3⟩:=af0 o3 k;obtain ⟨st2,h4,h5⟩:=Fc h3 hs';refine ⟨st2,rs,N,⟨_,hm _ (s8.2 rfl),o2,ws2,l1.trans l2,h5⟩,fun n hn=> ?_⟩;simp_all [z6]
  .cases hx
 .cases h
def Qi (hs:s.g C vs st){l:H7}{b:Nat}{l5:List o9}{z7:Option Nat}{k:Nat}{i:o9}{outs:List (SS×List Nat)}(h:XV A sem l b l5 z7 k i s=some outs) :
  ∃ st' rs N,(∃ o,o ∈ outs/\o.2=rs/\∃ ws,Le vs ws/\o.1.g C ws st')/\∀ n,N<=n->z6 (N9 A n l b) l5 z7 k i st=some (st',rs):=by
 obtain ⟨s1,m1,g1⟩:∃ s',s' ∈ (match i.guard with|some (j,_)=>Js s j|none=>[s])/\s'.g C vs st:=by
  split
  all_goals simp_all [Po,s8]
 obtain ⟨x,hx,hm⟩:=Y2 h s1 m1;unfold XW at hx;split at hx
 .rename_i hw
  have hw:=Fe g1 hw;obtain ⟨s2,m2,g2⟩:=ab4 g1 i.op;obtain ⟨y,hy,hm2⟩:=Y2 hx s2 m2;obtain ⟨st',rs,N,⟨o,o1,o2,o3⟩,h3⟩:=bd2 gF g2 hw hy;exact ⟨st',rs,N,⟨o,hm _ (hm2 _ o1),o2,o3⟩,h3⟩
 .rename_i hw
  have hw:=Fe g1 hw;split at hx
  .rename_i s' hs'
   cases hx;obtain ⟨st2,h4,h5⟩:=Fc (dA g1 k (v:= .tuple []) (a:= .tuple []) (by simp_all [SV.g,y7.g])) hs';exact ⟨st2,[],0,⟨_,hm _ (s8.2 rfl),rfl,vs,Le.refl _,h5⟩,fun n _=>by simp_all [z6]⟩
  .cases hx
 .cases hx
end
section
variable (A:Prog) (sem:Sem) (lim:H7) (entry:Nat) (l5:List o9)
def uU:List o9->Nat->SS->Option (List SS)
 |[],_,s=>some [s]
 |i::is,k,s=>match XV A sem lim entry l5 none k i s with
  |some outs=>ir (fun o=>uU is (k+1) o.1) outs
  |none=>none
def XU (s:SS):x9->Option Nat
 | .call f xs=>if A.prom f then some s.H.length else match Aw s.H,y7.Y3 (xs.map (cC s.T s.L)) with
  |some bs,some b0=>some (V9 bs lim.strict 8 b0)
  |_,_=>none
 | .aO _ _=>none
 |_=>some 0
def Qe (s:SS):x9->Bool
 | .append _ _ _ x _=>match cC s.T s.L x with
  | .d _=>false
  | .O2=>false
  |_=>true
 |_=>false
def Qb (s:SS)(op:x9)(a:o9):Bool:=match op,a.op with
 | .append _ _ _ x _,.Q5 (.slot t)=>a.dst.isNone&&a.guard.isNone&&(match cC s.T s.L x,s.T[t]? with
  | .B4 id _ _ _,some (.ptr j _)=> !s7 j id
  |_,_=>false)
 |_,_=>false
def KV:List o9->Nat->Nat->SS->Option (List (SS×List lZ))
 |[],_,_,s=>some [(s,[])]
 |i::is,k,na,s=>if Qe s i.op&&l5.any (fun a=>a.cD.contains k&& !Qb s i.op a) then none else match XU A lim s i.op with
  |some HB=>match XV A sem lim entry l5 (if i.op.B6 then some na else none) k i s with
   |some outs=>ir (fun o=>match KV is (k+1) (if i.op.B6 then na+1 else na) o.1 with
    |some rs=>some (rs.map fun r=>(r.1,⟨o.2,nY (if i.op.B6 then some na else none)++o.1.p7.take (o.1.p7.length - s.p7.length),HB,(if i.op.B6 then some na else none).getD 0⟩::r.2))
    |none=>none) outs
   |none=>none
  |none=>none
def Af (draw:Bool)(T:List SV)(H:List SO)(B:ji):Option (List SS) :=
 if draw then match KV A sem lim entry l5 l5 0 H.length ⟨T,H++(l5.filter (·.op.B6)).map (fun _=> .dead),c9 l5.length .any,slotsOf l5,B⟩ with
  |some outs=>if outs.all (fun o=>ym l5 o.2) then some (outs.map (·.1)) else none
  |none=>none
 else uU A sem lim entry l5 l5 0 ⟨T,H,c9 l5.length .any,[],B⟩
end
section
variable {C:Ctx} {A:Prog} {sem:Sem} (gF:gq C A sem)
theorem Gm {vs:List Nat}:∀ n,y7.g C vs (c9 n .any) (c9 n .any)
 |0=>by simp [y7.g]
 |n+1=>by exact ⟨_,_,rfl,rfl,Gm n⟩
theorem Pa {vs:List Nat}:∀ l:List o9,J6.g C vs (l.map fun _=> .dead) (l.map fun _=> .dead)
 |[]=>by simp [J6.g]
 |_::l=>by exact ⟨_,_,rfl,rfl,Pa l⟩
include gF
theorem Fa {l:H7}{b:Nat}{l5:List o9}:∀ (ops:List o9) (k:Nat) {vs:List Nat} {s:SS} {st:H6} {outs:List SS},s.g C vs st->uU A sem l b l5 ops k s=some outs ->
  ∃ r N,(∃ o,o ∈ outs/\∃ ws,Le vs ws/\o.g C ws r)/\∀ n,N<=n->fQ (N9 A n l b) l5 ops k st=some r
 |[],k,vs,s,st,outs,hs,h=>by
  simp [uU,Option.some.injEq] at h;subst h;exact ⟨st,0,⟨s,s8.2 rfl,vs,Le.refl _,hs⟩,fun _ _=>rfl⟩
 |i::is,k,vs,s,st,outs,hs,h=>by
  simp [uU] at h;split at h
  .rename_i os hos
   obtain ⟨st',rs,N,⟨o,o1,o2,ws,l1,o3⟩,h1⟩:=Qi gF hs hos;obtain ⟨x,hx,hm⟩:=Y2 h o o1;obtain ⟨r,N2,⟨o',p1,ws2,l2,p2⟩,h2⟩:=Fa is (k+1) o3 hx;refine ⟨r,max N N2,⟨o',hm _ p1,ws2,l1.trans l2,p2⟩,fun n hn=> ?_⟩
   grind [fQ]
  .cases h
omit gF in
def aj8 {l:H7}{b n:Nat}{vs:List Nat}{s:SS}{st:H6}(hs:s.g C vs st){op:x9}{m:Nat}(h:XU A l s op=some m):L5 (N9 A n l b) st op=m:=by
 unfold XU at h;split at h
 .rename_i f xs
  have lD:(N9 A n l b).prom f=A.prom f:=rfl;have hlim:(N9 A n l b).lim=l:=rfl;split at h
  .rename_i hp
   cases h;simp [L5,lD,hp];exact J6.len hs.2.1
  .rename_i hp
   split at h
   .rename_i bs b0 Tq hb0
    cases h;simp [L5,lD];rw [if_neg hp,hlim,wD,Gq Tq hs.2.1,y7.cU hb0 (y7.aC6 (SS.J2 hs) xs)]
   .cases h
 .cases h
 .cases h
  cases op<;>first
   |rfl
   |simp_all
   |simp_all
omit gF in
def aj0 {vs:List Nat}{s:SS}{st:H6}(hs:s.g C vs st){op:x9}(h:¬ Qe s op=true):I5 st op=false:=by
 unfold Qe at h;split at h
 .rename_i sz bytes ob x y
  have hx:=SS.J2 hs x
  grind [bG,I5,SV.g,absurd]
 .cases op<;>first
   |rfl
   |grind
omit gF in
def ai4 {vs:List Nat}{s:SS}{st:H6}(hs:s.g C vs st){op:x9}{a:o9}(h:Qb s op a=true):calm st op a=true:=by
 unfold Qb at h;unfold calm;split at h
 .rename_i sz UT ob x y t ho
  simp only [c7] at h;simp only [ho,h.1.1,h.1.2,Bool.true_and];have h3:=h.2;split at h3
  .rename_i id z lo n j o e1 e2
   have hx:=SS.J2 hs x;rw [e1] at hx;simp only [SV.g] at hx;obtain ⟨v,g1,g2⟩:=y7.get hs.1 e2;rw [cw g2] at g1;simp only [hx,g1,h3]
  .cases h3
 .cases h
theorem Qh {l:H7}{b:Nat}{l5:List o9}:∀ (ops:List o9) (k na:Nat) {vs:List Nat} {s:SS} {st:H6} {outs:List (SS×List lZ)},s.g C vs st->KV A sem l b l5 ops k na s=some outs ->
  ∃ r lg N,(∃ o,o ∈ outs/\o.2=lg/\∃ ws,Le vs ws/\o.1.g C ws r)/\∀ n,N<=n->T3 (N9 A n l b) l5 ops k na st=some (r,lg)
 |[],k,na,vs,s,st,outs,hs,h=>by
  simp only [KV,Option.some.injEq] at h;subst h;exact ⟨st,[],0,⟨_,s8.2 rfl,rfl,vs,Le.refl _,hs⟩,fun _ _=>rfl⟩
 |i::is,k,na,vs,s,st,outs,hs,h=>by
  simp only [KV] at h;split at h
  .cases h
  .rename_i hk
   have hk:(I5 st i.op&&l5.any (fun a=>a.cD.contains k&& !calm st i.op a))=false:=by
    cases hu:Qe s i.op with
    |false=>rw [aj0 hs (by simp [hu])];rfl
    |true =>
     rw [hu,Bool.true_and] at hk;have h0:(l5.any fun a=>a.cD.contains k&& !calm st i.op a)=false:=by
      rw [List.any_eq_false];intro a ha hc;simp only [c7,o7] at hc;refine hk (List.any_eq_true.2 ⟨a,ha,?_⟩);simp only [hc.1,Bool.true_and,o7];cases hs' :Qb s i.op a with
      |false=>rfl
      |true=>rw [ai4 hs hs'] at hc;cases hc.2
     rw [h0,Bool.and_false]
   split at h
   .rename_i HB Tx
    split at h
    .rename_i os hos
     obtain ⟨st',rs,N,⟨o,o1,o2,ws,l1,o3⟩,h1⟩:=Qi gF hs hos;obtain ⟨x,hx,hm⟩:=Y2 h o o1;split at hx
     .rename_i rr hrr
      cases hx;obtain ⟨r,lg,N2,⟨o',p1,p2,ws2,l2,p3⟩,h2⟩:=Qh is (k+1) _ o3 hrr;refine ⟨r,_,max N N2,⟨_,hm _ (L1.2 ⟨o',p1,rfl⟩),rfl,ws2,l1.trans l2,p3⟩,fun n hn=> ?_⟩;have hg3:=o3.2.2.2.1;simp only [T3,kL,hk,j4,if_false,h1 n (by omega),h2 n (by omega),eO,aj8 hs Tx,o2,p2,hg3,hs.2.2.2.1]
     .cases hx
    .cases h
   .cases h
def EZ {l:H7}{b:Nat}{l5:List o9}{draw:Bool}{vs:List Nat}{T:List SV}{H:List SO}{B:ji}{T' :List c8}{H' :p9}{outs:List SS}(hT:y7.g C vs T T')(hH:J6.g C vs H H')(hB:Bg vs B)(h:Af A sem l b l5 draw T H B=some outs) :
  Rn A l b l5 draw T' H' fun T2 H2 L2=>∃ o,o ∈ outs/\∃ ws,Le vs ws/\y7.g C ws o.T T2/\J6.g C ws o.H H2/\y7.g C ws o.L L2/\Bg ws o.B:=by
 unfold Af at h;split at h
 .split at h
  .rename_i os hos
   split at h
   .cases h
    have hlen:=J6.len hH;obtain ⟨r,lg,N,⟨o,o1,o2,ws,l1,o3⟩,h1⟩:=Qh gF l5 0 H.length (st:=⟨T',H' ++aN l5,c9 l5.length .any,slotsOf l5⟩) ⟨hT,J6.app hH (Pa _),Gm _,rfl,hB⟩ hos;refine ⟨r,N,⟨o.1,L1.2 ⟨o,o1,rfl⟩,ws,l1,o3.1,o3.2.1,o3.2.2.1,o3.2.2.2.2⟩,fun n hn=> ?_⟩
    grind [S2]
   .cases h
  .cases h
 .obtain ⟨r,N,⟨o,o1,ws,l1,o3⟩,h1⟩:=Fa gF l5 0 (st:=⟨T',H',c9 l5.length .any,[]⟩) ⟨hT,hH,Gm _,rfl,hB⟩ h
  refine ⟨r,N,⟨o,o1,ws,l1,o3.1,o3.2.1,o3.2.2.1,o3.2.2.2.2⟩,fun n hn=> ?_⟩;simp_all [S2,if_neg]
end
structure CS where
 T:List SV
 H:List SO
 B:ji
def CS.g (C:Ctx)(vs:List Nat)(s:CS)(st:St):Prop:=y7.g C vs s.T st.T/\J6.g C vs s.H st.H/\Bg vs s.B
def Yl:Option Nat->Option Nat->Option Nat
 |some i,some j=>if s7 i j then some i else none
 |_,_=>none
def Ld:Option Nat->Option Nat->Bool
 |some i,some j=>s7 i j
 |none,none=>true
 |_,_=>false
def SD.mark:SD->Option Nat
 | .pr k _=>some k
 |_=>none
mutual
def SV.join:SV->SV->Option SV
 | .any,y=>match y with
  | .any=>some .any
  |_=>some .top
 | .top,_=>some .top
 | .d x,y=>match y with
  | .d y=>if Ld x.mark y.mark then some (.d (x.join y)) else none
  | .own _ y=>some (.q (x.join y))
  | .q y=>some (.q (x.join y))
  | .any=>some .top
  | .top=>some .top
  |_=>none
 | .own z x,y=>match y with
  | .own z' y=>if s7 z z' then some (.own z (x.join y)) else none
  | .d y=>some (.q (x.join y))
  | .q y=>some (.q (x.join y))
  | .any=>some .top
  | .top=>some .top
  |_=>none
 | .q x,y=>match y with
  | .own _ y=>some (.q (x.join y))
  | .d y=>some (.q (x.join y))
  | .q y=>some (.q (x.join y))
  | .any=>some .top
  | .top=>some .top
  |_=>none
 | .O2,y=>match y with
  | .O2=>some .O2
  | .any=>some .top
  | .top=>some .top
  |_=>none
 | .ptr i o,y=>match y with
  | .ptr i' o' =>if s7 i i' &&s7 o o' then some (.ptr i o) else none
  | .any=>some .top
  | .top=>some .top
  |_=>none
 | .T4 _,_=>some .top
 | .wp i l z c,y=>match y with
  | .wp i' l' z' c' =>if s7 i i' &&s7 l l' &&s7 z z' &&s7 c c' then some (.wp i l z c) else none
  | .any=>some .top
  | .top=>some .top
  |_=>none
 | .B4 i z l n,y=>match y with
  | .B4 i' z' l' n' =>if s7 i i' &&s7 z z' &&s7 l l' &&s7 n n' then some (.B4 i z l n) else none
  | .any=>some .top
  | .top=>some .top
  |_=>none
 | .agg p l,y=>match y with
  | .agg p' l' =>match y7.join l l' with
   |some r=>some (.agg (Yl p p') r)
   |none=>none
  | .any=>some .top
  | .top=>some .top
  |_=>none
 | .tuple l,y=>match y with
  | .tuple l' =>match y7.join l l' with
   |some r=>some (.tuple r)
   |none=>none
  | .any=>some .top
  | .top=>some .top
  |_=>none
 | .bn k,y=>match y with
  | .bn k' =>if s7 k k' then some (.bn k) else none
  | .any=>some .top
  | .top=>some .top
  |_=>none
def y7.join:List SV->List SV->Option (List SV)
 |[],ys=>match ys with
  |[]=>some []
  |_=>none
 |x::xs,ys=>match ys with
  |y::ys=>match x.join y,y7.join xs ys with
   |some a,some r=>some (a::r)
   |_,_=>none
  |[]=>none
end
def SO.join:SO->SO->Option SO
 | .dead,.dead=>some .dead
 | .cells p l,.cells p' l' =>if Ld p p' then match y7.join l l' with
   |some r=>some (.cells p r)
   |none=>none
  else none
 | .pr k,.pr k' =>if s7 k k' then some (.pr k) else none
 | .bn k,.bn k' =>if s7 k k' then some (.bn k) else none
 | .BJ k b,.BJ k' b' =>if s7 k k' &&s7 b b' then some (.BJ k b) else none
 |_,_=>none
def J6.join:List SO->List SO->Option (List SO)
 |[],[]=>some []
 |x::xs,y::ys=>match x.join y,J6.join xs ys with
  |some a,some r=>some (a::r)
  |_,_=>none
 |_,_=>none
def Nz (a b:Nat×Nat):Nat×Nat:=(min a.1 b.1,max a.2 b.2)
def UF (B1 B2:ji):Option ji:=if (B1.drop B2.length++B2.drop B1.length).all (fun p=>E1 p.1 p.2) then some (List.zipWith Nz B1 B2++(B1.drop B2.length++B2.drop B1.length)) else none
def jZ (kp:List Nat)(s t:CS):Bool:=kp.all fun j=>match s.T[j]?,t.T[j]? with
 |some (.d (.lit (.int _ a))),some (.d (.lit (.int _ b)))=>decide (a=b)
 |_,_=>true
def CS.join (kp:List Nat)(s t:CS):Option CS:=if jZ kp s t then match y7.join s.T t.T,J6.join s.H t.H,UF s.B t.B with
 |some T,some H,some B=>some ⟨T,H,B⟩
 |_,_,_=>none
 else none
def Wc (kp:List Nat)(s:CS):List CS->List CS
 |[]=>[s]
 |t::r=>match CS.join kp t s with
  |some u=>u::r
  |none=>t::Wc kp s r
def pQ (kp:List Nat):List CS->List CS
 |[]=>[]
 |s::r=>Wc kp s (pQ kp r)
section
variable {C:Ctx} {vs:List Nat}
def Hu {x:SV}{v:c8}(h:x.g C vs v){y:SD}(hx:x.data? =some y:=by rfl):∃ d,v.J3= .d d/\y.g C vs d:=by
 cases x<;>simp [SV.data?,reduceCtorEq,Option.some.injEq] at hx<;>subst hx<;>simp [SV.g] at h
 .obtain ⟨d,rfl,h2⟩:=h;exact ⟨d,rfl,h2⟩
 .obtain ⟨a,b,rfl,h2⟩:=h;exact ⟨_,rfl,h2⟩
 .subst h;exact ⟨_,rfl,by simp [SD.g]⟩
 .exact h
def Ht {x:SD}{v:c8}{d:Data}(h0:v.J3= .d d)(h:x.g C vs d):(SV.q x).g C vs v:=by simp_all [SV.g]
def aH5 {p q:Option Nat}{k:Nat}(h:Yl p q=some k):p=some k:=by
 simp_all [Yl]<;>grind
def aH6 {p q:Option Nat}{k:Nat}(h:Yl p q=some k):q=some k:=by
 simp_all [Yl]<;>grind
theorem Lf {p q:Option Nat}(h:Ld p q=true):p=q:=by
 unfold Ld at h
 grind [e8]
mutual
theorem SV.U7:∀ (x y:SV) {z:SV} {v:c8},x.join y=some z->x.g C vs v->z.g C vs v
 | .any,y,z,_,h,hg=>by
  cases y<;>simp only [SV.join,Option.some.injEq] at h<;>subst h<;>first|exact hg|simp [SV.g]
 | .top,y,z,_,h,hg=>by simp only [SV.join,Option.some.injEq] at h;subst h;exact hg
 | .d x,y,z,_,h,hg=>by
  cases y<;>simp only [SV.join,Option.some.injEq,reduceCtorEq] at h<;>(try split at h)<;>first
   |(cases h;simp [SV.g];done)
   |(cases h;obtain ⟨d,rfl,h1⟩:=bG hg;exact cK (SD.U7 _ _ h1))
   |(cases h;obtain ⟨d,h0,h1⟩:=Hu hg;exact Ht h0 (SD.U7 _ _ h1))
   |(cases h;done)
 | .q x,y,z,_,h,hg=>by
  cases y<;>simp only [SV.join,Option.some.injEq,reduceCtorEq] at h<;>subst h<;>first
   |(simp [SV.g];done)
   |(obtain ⟨d,h0,h1⟩:=Hu hg;exact Ht h0 (SD.U7 _ _ h1))
 | .own w x,y,z,_,h,hg=>by
  cases y<;>simp only [SV.join,Option.some.injEq,reduceCtorEq] at h
  .subst h;simp [SV.g]
  .subst h;simp [SV.g]
  .subst h;obtain ⟨d,h0,h1⟩:=Hu hg;exact Ht h0 (SD.U7 _ _ h1)
  .split at h
   .cases h
    obtain ⟨len,cells,rfl,h1⟩:=tE hg;simp only [SV.g];exact ⟨_,_,rfl,SD.U7 _ _ h1⟩
   .cases h
  .subst h;obtain ⟨d,h0,h1⟩:=Hu hg;exact Ht h0 (SD.U7 _ _ h1)
 | .O2,y,z,_,h,hg=>by
  cases y<;>simp only [SV.join,Option.some.injEq,reduceCtorEq] at h<;>subst h<;>first|exact hg|simp [SV.g]
 | .ptr i o,y,z,_,h,hg=>by
  cases y<;>simp only [SV.join,Option.some.injEq,reduceCtorEq] at h
  .subst h;simp [SV.g]
  .subst h;simp [SV.g]
  .split at h
   .cases h;exact hg
   .cases h
 | .wp i l w c,y,z,_,h,hg=>by
  cases y<;>simp only [SV.join,Option.some.injEq,reduceCtorEq] at h
  .subst h;simp [SV.g]
  .subst h;simp [SV.g]
  .split at h
   .cases h;exact hg
   .cases h
 | .T4 _,y,z,_,h,hg=>by simp only [SV.join,Option.some.injEq] at h;subst h;simp [SV.g]
 | .B4 i w l n,y,z,_,h,hg=>by
  cases y<;>simp only [SV.join,Option.some.injEq,reduceCtorEq] at h
  .subst h;simp [SV.g]
  .subst h;simp [SV.g]
  .split at h
   .cases h;exact hg
   .cases h
 | .agg p l,y,z,_,h,hg=>by
  cases y<;>simp only [SV.join,Option.some.injEq,reduceCtorEq] at h
  .subst h;simp [SV.g]
  .subst h;simp [SV.g]
  .split at h
   .rename_i r hr
    cases h;simp only [SV.g] at hg ⊢;obtain ⟨cs,rfl,h1,h2⟩:=hg;exact ⟨cs,rfl,y7.U7 _ _ hr h1,fun k hk=>h2 k (aH5 hk)⟩
   .cases h
 | .tuple l,y,z,_,h,hg=>by
  cases y<;>simp only [SV.join,Option.some.injEq,reduceCtorEq] at h
  .subst h;simp [SV.g]
  .subst h;simp [SV.g]
  .split at h
   .rename_i r hr
    cases h;simp only [SV.g] at hg ⊢;obtain ⟨cs,rfl,h1⟩:=hg;exact ⟨cs,rfl,y7.U7 _ _ hr h1⟩
   .cases h
 | .bn k,y,z,_,h,hg=>by
  cases y<;>simp only [SV.join,Option.some.injEq,reduceCtorEq] at h
  .subst h;simp [SV.g]
  .subst h;simp [SV.g]
  .split at h
   .rename_i e
    have e:=e8 e;subst e;cases h;exact hg
   .cases h
theorem y7.U7:∀ (x y:List SV) {z:List SV} {v:List c8},y7.join x y=some z->y7.g C vs x v->y7.g C vs z v
 |[],y,z,_,h,hg=>by cases y<;>simp only [y7.join,Option.some.injEq,reduceCtorEq] at h;subst h;exact hg
 |x::xs,y,z,_,h,hg=>by
  cases y<;>simp only [y7.join,reduceCtorEq] at h;split at h
  .rename_i a r ha hr
   cases h;simp only [y7.g] at hg ⊢;obtain ⟨d,ds,rfl,h1,h2⟩:=hg;exact ⟨d,ds,rfl,SV.U7 _ _ ha h1,y7.U7 _ _ hr h2⟩
  .cases h
end
mutual
theorem SV.U8:∀ (x y:SV) {z:SV} {v:c8},x.join y=some z->y.g C vs v->z.g C vs v
 | .any,y,z,_,h,hg=>by
  cases y<;>simp only [SV.join,Option.some.injEq] at h<;>subst h<;>first|exact hg|simp [SV.g]
 | .top,y,z,_,h,hg=>by simp only [SV.join,Option.some.injEq] at h;subst h;simp [SV.g]
 | .d x,y,z,_,h,hg=>by
  cases y<;>simp only [SV.join,Option.some.injEq,reduceCtorEq] at h<;>(try split at h)<;>first
   |(cases h;simp [SV.g];done)
   |(cases h;obtain ⟨d,rfl,h1⟩:=bG hg;exact cK (SD.U8 _ _ h1))
   |(cases h;obtain ⟨d,h0,h1⟩:=Hu hg;exact Ht h0 (SD.U8 _ _ h1))
   |(cases h;done)
 | .q x,y,z,_,h,hg=>by
  cases y<;>simp only [SV.join,Option.some.injEq,reduceCtorEq] at h<;>subst h<;>first
   |(simp [SV.g];done)
   |(obtain ⟨d,h0,h1⟩:=Hu hg;exact Ht h0 (SD.U8 _ _ h1))
 | .own w x,y,z,_,h,hg=>by
  cases y<;>simp only [SV.join,Option.some.injEq,reduceCtorEq] at h
  .subst h;simp [SV.g]
  .subst h;simp [SV.g]
  .subst h;obtain ⟨d,h0,h1⟩:=Hu hg;exact Ht h0 (SD.U8 _ _ h1)
  .split at h
   .rename_i e
    have e:=e8 e;subst e;cases h;obtain ⟨len,cells,rfl,h1⟩:=tE hg;simp only [SV.g];exact ⟨_,_,rfl,SD.U8 _ _ h1⟩
   .cases h
  .subst h;obtain ⟨d,h0,h1⟩:=Hu hg;exact Ht h0 (SD.U8 _ _ h1)
 | .O2,y,z,_,h,hg=>by
  cases y<;>simp only [SV.join,Option.some.injEq,reduceCtorEq] at h<;>subst h<;>first|exact hg|simp [SV.g]
 | .ptr i o,y,z,_,h,hg=>by
  cases y<;>simp only [SV.join,Option.some.injEq,reduceCtorEq] at h
  .subst h;simp [SV.g]
  .subst h;simp [SV.g]
  .split at h
   .rename_i e
    simp only [c7] at e;have e1:=e8 e.1;have e2:=e8 e.2;subst e1 e2;cases h;exact hg
   .cases h
 | .wp i l w c,y,z,_,h,hg=>by
  cases y<;>simp only [SV.join,Option.some.injEq,reduceCtorEq] at h
  .subst h;simp [SV.g]
  .subst h;simp [SV.g]
  .split at h
   .rename_i e
    simp only [c7] at e;have e1:=e8 e.1.1.1;have e2:=e8 e.1.1.2;have e3:=e8 e.1.2;have e4:=e8 e.2;subst e1 e2 e3 e4;cases h;exact hg
   .cases h
 | .T4 _,y,z,_,h,hg=>by simp only [SV.join,Option.some.injEq] at h;subst h;simp [SV.g]
 | .B4 i w l n,y,z,_,h,hg=>by
  cases y<;>simp only [SV.join,Option.some.injEq,reduceCtorEq] at h
  .subst h;simp [SV.g]
  .subst h;simp [SV.g]
  .split at h
   .rename_i e
    simp only [c7] at e;have e1:=e8 e.1.1.1;have e2:=e8 e.1.1.2;have e3:=e8 e.1.2;have e4:=e8 e.2;subst e1 e2 e3 e4;cases h;exact hg
   .cases h
 | .agg p l,y,z,_,h,hg=>by
  cases y<;>simp only [SV.join,Option.some.injEq,reduceCtorEq] at h
  .subst h;simp [SV.g]
  .subst h;simp [SV.g]
  .split at h
   .rename_i r hr
    cases h;simp only [SV.g] at hg ⊢;obtain ⟨cs,rfl,h1,h2⟩:=hg;exact ⟨cs,rfl,y7.U8 _ _ hr h1,fun k hk=>h2 k (aH6 hk)⟩
   .cases h
 | .tuple l,y,z,_,h,hg=>by
  cases y<;>simp only [SV.join,Option.some.injEq,reduceCtorEq] at h
  .subst h;simp [SV.g]
  .subst h;simp [SV.g]
  .split at h
   .rename_i r hr
    cases h;simp only [SV.g] at hg ⊢;obtain ⟨cs,rfl,h1⟩:=hg;exact ⟨cs,rfl,y7.U8 _ _ hr h1⟩
   .cases h
 | .bn k,y,z,_,h,hg=>by
  cases y<;>simp only [SV.join,Option.some.injEq,reduceCtorEq] at h
  .subst h;simp [SV.g]
  .subst h;simp [SV.g]
  .split at h
   .rename_i e
    have e:=e8 e;subst e;cases h;exact hg
   .cases h
theorem y7.U8:∀ (x y:List SV) {z:List SV} {v:List c8},y7.join x y=some z->y7.g C vs y v->y7.g C vs z v
 |[],y,z,_,h,hg=>by cases y<;>simp only [y7.join,Option.some.injEq,reduceCtorEq] at h;subst h;exact hg
 |x::xs,y,z,_,h,hg=>by
  cases y<;>simp only [y7.join,reduceCtorEq] at h;split at h
  .rename_i a r ha hr
   cases h;simp only [y7.g] at hg ⊢;obtain ⟨d,ds,rfl,h1,h2⟩:=hg;exact ⟨d,ds,rfl,SV.U8 _ _ ha h1,y7.U8 _ _ hr h2⟩
  .cases h
end
def SO.lE {x y z:SO}{o:A1}(h:x.join y=some z):(x.g C vs o->z.g C vs o)/\(y.g C vs o->z.g C vs o):=by
 cases x<;>cases y<;>simp only [SO.join,Option.some.injEq,reduceCtorEq] at h
 .subst h;exact ⟨id,id⟩
 .split at h
  .rename_i hp
   have hp:=Lf hp;subst hp;split at h
   .rename_i r hr
    cases h;exact ⟨fun ⟨cs,h1,h2,h3⟩=>⟨cs,h1,y7.U7 _ _ hr h2,h3⟩,fun ⟨cs,h1,h2,h3⟩=>⟨cs,h1,y7.U8 _ _ hr h2,h3⟩⟩
   .cases h
  .cases h
 .split at h
  .rename_i e
   have e:=e8 e;subst e;cases h;exact ⟨id,id⟩
  .cases h
 .split at h
  .rename_i e
   have e:=e8 e;subst e;cases h;exact ⟨id,id⟩
  .cases h
 .split at h
  .rename_i e
   simp only [c7] at e;have e1:=e8 e.1;have e2:=e8 e.2;subst e1 e2;cases h;exact ⟨id,id⟩
  .cases h
theorem J6.lE:∀ {x y z:List SO} {o:p9},J6.join x y=some z->(J6.g C vs x o->J6.g C vs z o)/\(J6.g C vs y o->J6.g C vs z o)
 |[],[],z,o,h=>by simp_all [J6.join,Option.some.injEq]
 |[],_::_,z,o,h=>by simp [J6.join] at h
 |_::_,[],z,o,h=>by simp [J6.join] at h
 |x::xs,y::ys,z,o,h=>by
  simp [J6.join] at h;split at h
  .rename_i a r ha hr
   cases h;refine ⟨fun hg=> ?_,fun hg=> ?_⟩
   .obtain ⟨d,ds,rfl,h1,h2⟩:=hg
    exact ⟨d,ds,rfl,(SO.lE ha).1 h1,(J6.lE hr).1 h2⟩
   .obtain ⟨d,ds,rfl,h1,h2⟩:=hg
    exact ⟨d,ds,rfl,(SO.lE ha).2 h1,(J6.lE hr).2 h2⟩
  .cases h
theorem Bg.av2:∀ (R:ji) {vs:List Nat} {B:ji},Bg vs B->R.all (fun p=>E1 p.1 p.2)=true->∃ ws,Le vs ws/\Bg ws (B++R)
 |[],vs,B,h,_=>⟨vs,Le.refl _,by simpa using h⟩
 |p::R,vs,B,h,hr=>by
  simp only [List.all_cons,c7,Nat.ble_eq] at hr;obtain ⟨ws,h1,h2⟩:=Bg.av2 R (h.add (p:=p) (m:=p.1) (n5 _) hr.1) hr.2;exact ⟨ws,(Le.app _ _).trans h1,by simp_all⟩
def ak9 {B1 B2:ji}{i lo hi:Nat}(h:(List.zipWith Nz B1 B2)[i]? =some (lo,hi)):∃ a b,B1[i]? =some a/\B2[i]? =some b/\lo=min a.1 b.1/\hi=max a.2 b.2:=by
 grind [Option.some.injEq,Nz,Prod.mk.injEq]
theorem Bg.be9 {B1 B2:ji}(hB:Bg vs B1):Bg vs (List.zipWith Nz B1 B2++B1.drop B2.length):=by
 refine ⟨by simp [hB.1];omega,fun i lo hi h=> ?_⟩
 rcases A5 i (List.zipWith Nz B1 B2).length with hl|hl
 .rw [A8 hl] at h
  obtain ⟨a,b,h1,h2,h3,h4⟩:=ak9 h;obtain ⟨m,e1,e2,e3⟩:=hB.2 i a.1 a.2 h1
  grind
 .rw [u9 hl,List.getElem?_drop] at h
  simp [List.length_zipWith] at h hl
  rcases Nat.le_total B1.length B2.length with hc|hc
  .grind
  .rw [show B2.length+(i - min B1.length B2.length)=i by omega] at h
   exact hB.2 _ _ _ h
def Bg.bf0 {B1 B2:ji}(hB:Bg vs B2):Bg vs (List.zipWith Nz B1 B2++B2.drop B1.length):=by
 grind [Bg.be9,List.zipWith,Nz,List.zipWith_comm,Nat.min_comm,Nat.max_comm]
def OG {B1 B2 B:ji}(h:UF B1 B2=some B):(Bg vs B1->∃ ws,Le vs ws/\Bg ws B)/\(Bg vs B2->∃ ws,Le vs ws/\Bg ws B):=by
 unfold UF at h;split at h
 .rename_i hall
  cases h;rw [List.all_append,c7] at hall;refine ⟨fun hB=> ?_,fun hB=> ?_⟩
  .rw [<- D2]
   exact Bg.av2 _ hB.be9 hall.2
  .rcases Nat.le_total B1.length B2.length with hc|hc
   .rw [show B1.drop B2.length=[] from l6 hc,E0]
    exact ⟨vs,Le.refl _,hB.bf0⟩
   .have h2:B2.drop B1.length=[]:=l6 hc
    have:=hB.bf0 (B1:=B1)
    grind [Bg.av2]
 .cases h
theorem CS.lE {kp:List Nat}{s t u:CS}{st:St}(h:CS.join kp s t=some u):(s.g C vs st->∃ ws,Le vs ws/\u.g C ws st)/\(t.g C vs st->∃ ws,Le vs ws/\u.g C ws st):=by
 unfold CS.join at h;split at h
 .split at h
  .rename_i T H B hT hH hB
   cases h;refine ⟨fun ⟨h1,h2,h3⟩=> ?_,fun ⟨h1,h2,h3⟩=> ?_⟩
   .obtain ⟨ws,l1,h4⟩:=(OG hB).1 h3
    exact ⟨ws,l1,y7.R1 l1 _ (y7.U7 _ _ hT h1),J6.R1 l1 _ ((J6.lE hH).1 h2),h4⟩
   .obtain ⟨ws,l1,h4⟩:=(OG hB).2 h3
    exact ⟨ws,l1,y7.R1 l1 _ (y7.U8 _ _ hT h1),J6.R1 l1 _ ((J6.lE hH).2 h2),h4⟩
  .cases h
 .cases h
theorem NH {kp:List Nat}{st:St}:∀ (s:CS) (l:List CS),(s.g C vs st->∃ t,t ∈ Wc kp s l/\∃ ws,Le vs ws/\t.g C ws st)/\∀ t,t ∈ l->t.g C vs st->∃ u,u ∈ Wc kp s l/\∃ ws,Le vs ws/\u.g C ws st
 |s,[]=>⟨fun h=>⟨s,s8.2 rfl,vs,Le.refl _,h⟩,fun t h=>by cases h⟩
 |s,q::r=>by
  simp only [Wc];split
  .rename_i u hu
   refine ⟨fun h=> ?_,fun t ht h=> ?_⟩
   .obtain ⟨ws,l1,h1⟩:=(CS.lE hu).2 h
    grind
   .rcases B8.1 ht with rfl|ht
    .obtain ⟨ws,l1,h1⟩:=(CS.lE hu).1 h
     grind
    grind [List.mem_cons_of_mem,Le.refl]
  .obtain ⟨h1,h2⟩:=NH s r
   refine ⟨fun h=> ?_,fun t ht h=> ?_⟩
   .obtain ⟨t,m,h3⟩:=h1 h
    exact ⟨t,List.mem_cons_of_mem _ m,h3⟩
   grind [List.mem_cons_self,Le.refl,List.mem_cons_of_mem]
theorem pT {kp:List Nat}{st:St}:∀ (l:List CS) {vs:List Nat} {s:CS},s ∈ l->s.g C vs st->∃ t,t ∈ pQ kp l/\∃ ws,Le vs ws/\t.g C ws st
 |q::r,vs,s,hm,h=>by
  rcases B8.1 hm with rfl|hm
  .simp_all [NH,pQ]
  .obtain ⟨t,m,ws,l1,h1⟩:=pT r hm h
   obtain ⟨u,m2,ws2,l2,h2⟩:=(NH q (pQ kp r)).2 t m h1;exact ⟨u,m2,ws2,l1.trans l2,h2⟩
end
def yC:List Bool->List SV->List SV
 |true::m,v::vs=>v::yC m vs
 |false::m,_::vs=> .any::yC m vs
 |[],_::vs=> .any::yC [] vs
 |_,[]=>[]
def Oe (mask:List Bool)(strict n:Nat)(s:CS):Option CS:=match y7.Y3 (yC mask s.T),Aw s.H with
 |some a,some bs=>if E1 a n&&E1 (As ((bs.take n).drop strict)) n then some ⟨yC mask s.T,s.H.take n,s.B⟩ else some ⟨yC mask s.T,s.H,s.B⟩
 |_,_=>none
def Ca:List SV->Nat->Option (Nat×Nat×Nat×Nat×Nat)
 |[],_=>none
 | .B4 id sz lo len::_,i=>some (i,id,sz,lo,len)
 | .top::_,_=>none
 | .bn _::_,_=>none
 |_::r,i=>Ca r (i+1)
def sfz (lim:H7)(entry t:Nat)(s:CS):Option CS:=match s.T[t]? with
 |some (.ptr b o)=>if s7 o 0 then match s.H[b]? with
  |some (.cells _ cs)=>match Ca cs 0 with
   |some (i,id,sz,lo,len)=>match srd s.H id lo (len * sz) with
    |some l=>match kK l with
     |some xs=>if E1 lim.base id&&E1 entry id&&lim.may id&&E1 lim.base b&& !(s7 id b)&&s7 xs.length (len * sz) then
       some ⟨y7.kill id s.T,((s.H.take lim.base++(s.H.drop lim.base).map (SO.kill id)).set id .dead).set b (.cells none ((y7.kill id cs).set i (.d (mkSlice sz len xs)))),s.B⟩
      else none
     |none=>none
    |none=>none
   |none=>none
  |_=>none
  else none
 |_=>none
abbrev Iv:=List o9->Bool->y5->CS->Option (List CS×List CS)
def BD:List (G7×CS)->List CS
 |[]=>[]
 |(.normal,s)::r=>s::BD r
 |_::r=>BD r
def AX:List (G7×CS)->List (G7×CS)
 |[]=>[]
 |(.normal,_)::r=>AX r
 |x::r=>x::AX r
def unB (id:Nat):List (G7×CS)->List (G7×CS)
 |[]=>[]
 |(.exit i,s)::r=>(if s7 i id then .normal else .exit i,s)::unB id r
 |x::r=>x::unB id r
def KS (kp:List Nat)(body:CS->Option (List (G7×CS)))(mask:List Bool)(strict n:Nat):Nat->List CS->Option (List (G7×CS))
 |0,l=>if l.isEmpty then some [] else none
 |k+1,l=>if l.isEmpty then some [] else
  match ir (fun s=>match Oe mask strict n s with
   |some s' =>body s'
   |none=>none) l with
  |some outs=>match KS kp body mask strict n k (pQ kp (BD outs)) with
   |some r=>some (AX outs++r)
   |none=>none
  |none=>none
def branch (v:SV)(s:CS):Option (List CS×List CS):=match v with
 | .d x=>match x.bool? with
  |some (.t b)=>some (if b then ([s],[]) else ([],[s]))
  |some (.u c)=>some (match uH s.B c true with|some B' =>[{ s with B:=B' }]|none=>[],match uH s.B c false with|some B' =>[{ s with B:=B' }]|none=>[])
  |none=>none
 |_=>none
def tY:List SS->y5->Option (List CS×List CS)
 |[],_=>some ([],[])
 |o::r,c=>match branch (cC o.T o.L c) ⟨o.T,o.H,o.B⟩,tY r c with
  |some (p,q),some (p',q')=>some (p++p',q++q')
  |_,_=>none
section
variable (A:Prog) (sem:Sem) (hook:Iv) (kp:List Nat) (lim:H7) (entry fuel:Nat)
def cA:q6->CS->Option (List (G7×CS))
 | .skip,s=>some [(.normal,s)]
 | .region ops draw,s=>match Af A sem lim entry ops draw s.T s.H s.B with
  |some outs=>some (outs.map fun o=>(.normal,⟨o.T,o.H,o.B⟩))
  |none=>none
 | .seq a b,s=>match cA a s with
  |some outs=>match ir (cA b) (pQ kp (BD outs)) with
   |some r=>some (AX outs++r)
   |none=>none
  |none=>none
 | .cond c a b,s=>match branch (cC s.T [] c) s with
  |some (p,q)=>match ir (cA a) p,ir (cA b) q with
   |some x,some y=>some (x++y)
   |_,_=>none
  |none=>none
 | .test ops draw c a b,s=>match (match hook ops draw c s with
   |some pq=>some pq
   |none=>match Af A sem lim entry ops draw s.T s.H s.B with
    |some outs=>tY outs c
    |none=>none) with
  |some (p,q)=>match ir (cA a) (pQ kp p),ir (cA b) (pQ kp q) with
   |some x,some y=>some (x++y)
   |_,_=>none
  |none=>none
 | .block id body,s=>match cA body s with
  |some outs=>some (unB id outs)
  |none=>none
 | .loop mask body,s=>KS kp (cA body) mask lim.strict s.H.length fuel [s]
 | .exit id,s=>some [(.exit id,s)]
 | .ret,s=>some [(.ret,s)]
 | .fz t,s=>match sfz lim entry t s with
  |some s' =>some [(.normal,s')]
  |none=>none
 | .bad,_=>none
end
def ZS (A:Prog)(l:H7)(b:Nat)(mask:List Bool)(body:q6)(n0:Nat)(st:St)(Q:G7->St->Prop):Prop :=
 ∃ x s N,Q x s/\∀ n,N<=n->∀ j,N<=j->iE (exec (N9 A n l b) n body) mask l.strict n0 j st=some (x,s)
section
variable {A:Prog} {l:H7} {b:Nat}
def ZS.step {mask:List Bool}{body:q6}{n0:Nat}{st:St}{Q:G7->St->Prop}(h:Ex A l b body (clean mask l.strict n0 st) (Bf Q fun s' =>ZS A l b mask body n0 s' Q)):ZS A l b mask body n0 st Q:=by
 obtain ⟨x,s1,N,hq,h1⟩:=h;cases x with
 |normal =>
  obtain ⟨x,s2,N2,hq2,h2⟩:=hq;refine ⟨x,s2,max N N2+1,hq2,fun n hn j hj=> ?_⟩;obtain ⟨j,rfl⟩:∃ j',j=j' +1:=⟨j - 1,by omega⟩
  grind [iE]
 |exit i =>
  refine ⟨_,_,N+1,hq,fun n hn j hj=> ?_⟩;obtain ⟨j,rfl⟩:∃ j',j=j' +1:=⟨j - 1,by omega⟩
  grind [iE]
 |ret =>
  refine ⟨_,_,N+1,hq,fun n hn j hj=> ?_⟩;obtain ⟨j,rfl⟩:∃ j',j=j' +1:=⟨j - 1,by omega⟩
  grind [iE]
def Ex.ofL {mask:List Bool}{body:q6}{st:St}{Q:G7->St->Prop}(h:ZS A l b mask body st.H.length st Q):Ex A l b (.loop mask body) st Q:=by
 obtain ⟨x,s,N,hq,h⟩:=h;exact ⟨x,s,N,hq,fun n hn=>by exact h n hn n hn⟩
theorem ZS.mono {mask:List Bool}{body:q6}{n0:Nat}{st:St}{Q R:G7->St->Prop}(h:ZS A l b mask body n0 st Q)(k:∀ x s,Q x s->R x s):ZS A l b mask body n0 st R:=by
 obtain ⟨x,s,N,hq,h⟩:=h;exact ⟨x,s,N,k x s hq,h⟩
def Gf (C:Ctx)(A:Prog)(l:H7)(b:Nat)(hook:Iv):Prop:=∀ ops dr c s p q,hook ops dr c s=some (p,q)->∀ vs T H,CS.g C vs s ⟨T,H⟩ ->
 Rn A l b ops dr T H fun T' H' L=>∃ t,J2 T' L c= .d (.bool t)/\∃ o,o ∈ (if t then p else q)/\∃ ws,Le vs ws/\o.g C ws ⟨T',H'⟩
variable {C:Ctx}
def Post (C:Ctx)(vs:List Nat)(outs:List (G7×CS))(x:G7)(st:St):Prop:=∃ o,o ∈ outs/\o.1=x/\∃ ws,Le vs ws/\o.2.g C ws st
def Post.sub {vs ws:List Nat}{o1 o2:List (G7×CS)}{x:G7}{st:St}(h:Post C ws o1 x st)(hl:Le vs ws)(hs:∀ o,o ∈ o1->o ∈ o2):Post C vs o2 x st:=by
 obtain ⟨o,h1,h2,us,l1,h3⟩:=h;exact ⟨o,hs o h1,h2,us,hl.trans l1,h3⟩
theorem wY:∀ {l:List (G7×CS)} {o:G7×CS},o ∈ l->o.1= .normal->o.2 ∈ BD l
 |(e,s)::r,o,hm,h=>by
  rcases B8.1 hm with rfl|hm
  .simp_all [BD]
  .have:=wY hm h
   cases e<;>simp [BD,this]
theorem mC:∀ {l:List (G7×CS)} {o:G7×CS},o ∈ l->o.1≠ .normal->o ∈ AX l
 |(e,s)::r,o,hm,h=>by
  rcases B8.1 hm with rfl|hm
  .simp_all [AX]
  .have:=mC hm h
   cases e<;>simp [AX,this]
theorem Qq {id:Nat}:∀ {l:List (G7×CS)} {o:G7×CS},o ∈ l->(match o.1 with| .exit i=>if i=id then (G7.normal,o.2) else (G7.exit i,o.2)|x=>(x,o.2)) ∈ unB id l
 |(e,s)::r,o,hm=>by
  rcases B8.1 hm with rfl|hm
  .cases e with
   |exit i =>
    simp_all [unB]<;>grind
   |normal=>simp [unB]
   |ret=>simp [unB]
  .have:=Qq (id:=id) hm
   cases e<;>simp [unB,B8]<;>exact .inr this
theorem Ad {vs:List Nat}:∀ (m:List Bool) {x:List SV} {v:List c8},y7.g C vs x v->y7.g C vs (yC m x) (X1 m v)
 |m,[],_,h=>by simp_all [y7.g,yC,X1]
 |[],x::xs,_,h=>by
  obtain ⟨d,ds,rfl,h1,h2⟩:=h;exact ⟨_,_,rfl,rfl,Ad [] h2⟩
 |true::m,x::xs,_,h=>by
  obtain ⟨d,ds,rfl,h1,h2⟩:=h;exact ⟨_,_,rfl,h1,Ad m h2⟩
 |false::m,x::xs,_,h=>by
  obtain ⟨d,ds,rfl,h1,h2⟩:=h;exact ⟨_,_,rfl,rfl,Ad m h2⟩
def XE {vs:List Nat}{s s' :CS}{st:St}{mask:List Bool}{strict n:Nat}(hs:s.g C vs st)(h:Oe mask strict n s=some s'):s'.g C vs (clean mask strict n st):=by
 obtain ⟨hT,hH,hB⟩:=hs;have hm:=Ad mask hT;unfold Oe at h;split at h
 .rename_i a bs ha Tq
  have e1:=y7.cU ha hm;have e2:=Gq Tq hH;split at h
  .rename_i hc
   simp [c7,Nat.ble_eq] at hc;cases h;unfold clean;rw [if_pos ⟨by omega,by simp_all [qN]⟩];exact ⟨hm,J6.take hH n,hB⟩
  .cases h
   unfold clean;rw [if_neg (by simp_all [qN])];exact ⟨hm,hH,hB⟩
 .cases h
theorem cB {vs:List Nat}:∀ {x:List SV} {v:List c8} {k:Nat} {r:Nat×Nat×Nat×Nat×Nat},y7.g C vs x v->Ca x k=some r->eS v k=some r
 |[],_,_,_,_,h=>by simp [Ca] at h
 |x::xs,_,k,r,hg,h=>by
  simp only [y7.g] at hg;obtain ⟨d,ds,rfl,h1,h2⟩:=hg;cases x<;>simp only [Ca,reduceCtorEq] at h<;>simp only [SV.g] at h1
  .subst h1;simp only [eS];exact cB h2 h
  .obtain ⟨_,rfl,_⟩:=h1;simp only [eS];exact cB h2 h
  .obtain ⟨_,_,rfl,_⟩:=h1;simp only [eS];exact cB h2 h
  .subst h1;simp only [eS];exact cB h2 h
  .subst h1;simp only [eS];exact cB h2 h
  .obtain ⟨_,_,rfl,_⟩:=h1;simp only [eS];exact cB h2 h
  .subst h1;simp only [eS];exact h
  .obtain ⟨_,rfl,_⟩:=h1;simp only [eS];exact cB h2 h
  .obtain ⟨_,rfl,_⟩:=h1;simp only [eS];exact cB h2 h
  .obtain ⟨_,h0,_⟩:=h1;cases d<;>simp only [c8.J3,reduceCtorEq] at h0<;>simp only [eS]<;>exact cB h2 h
  .obtain ⟨_,_,rfl⟩:=h1;simp only [eS];exact cB h2 h
def bd6 {vs:List Nat}{s s' :CS}{st:St}{entry t:Nat}(hs:s.g C vs st)(h:sfz l entry t s=some s'):∃ st',nQ l entry t st=some st' /\s'.g C vs st' :=by
 obtain ⟨hT,hH,hB⟩:=hs;unfold sfz at h;split at h
 .rename_i b' o e
  obtain ⟨a,h1,h2⟩:=y7.get hT e;have h2:=cw h2;subst h2;split at h
  .rename_i ho
   have ho:=e8 ho;subst ho;split at h
   .rename_i p cs e2
    obtain ⟨o,h3,h4⟩:=J6.get hH e2;obtain ⟨ds,rfl,h5,_⟩:=h4;split at h
    .rename_i i id sz lo len hr
     have hr:=cB h5 hr;split at h
     .rename_i l' hl
      obtain ⟨us,h6,h7⟩:=EY hH hl;split at h
      .rename_i xs hxs
       obtain ⟨ys,h8,h9⟩:=qf h7 hxs;split at h
       .rename_i hc
        simp only [c7,Nat.ble_eq,o7] at hc;obtain ⟨⟨⟨⟨⟨c1,c2⟩,c3⟩,c4⟩,c5⟩,c6⟩:=hc;have c6:=e8 c6;have c5:id≠b' :=fun e=>by rw [e] at c5;simp at c5
        cases h;refine ⟨⟨I6 id st.T,((st.H.take l.base++(st.H.drop l.base).map (A1.kill id)).set id .dead).set b' (.cells ((I6 id ds).set i (.d (.slice len ys))))⟩,?_,y7.fK id hT,J6.set (J6.set (J6.app (J6.take hH _) (J6.map (fun _ _=>SO.fK id) (J6.drop hH _))) id (a:= .dead) (b:= .dead) rfl) b' (a:= .cells none ((y7.kill id cs).set i (.d (mkSlice sz len xs)))) (b:= .cells ((I6 id ds).set i (.d (.slice len ys)))) ⟨_,rfl,y7.set (y7.fK id h5) i (cK (qY c6 h9)),fun k h=>by cases h⟩,hB⟩;simp only [nQ,uw,h1,h3,hr,h6,h8];rw [if_pos ⟨c1,c2,c3,c4,c5⟩]
       .cases h
      .cases h
     .cases h
    .cases h
   .cases h
  .cases h
 .cases h
def IK {vs:List Nat}{v:SV}{a:c8}{s:CS}{st:St}{p q:List CS}(hv:v.g C vs a)(hs:s.g C vs st)(h:branch v s=some (p,q)):∃ t,a= .d (.bool t)/\∃ o,o ∈ (if t then p else q)/\o.g C vs st:=by
 unfold branch at h;split at h
 .obtain ⟨d,rfl,h1⟩:=bG hv
  split at h
  .grind [SD.fC,Option.some.injEq]
  .rename_i c hc
   obtain ⟨t,rfl,h2⟩:=SD.fC hc h1;obtain ⟨B',h3,h4⟩:=EL hs.2.2 h2;refine ⟨t,rfl,{ s with B:=B' },?_,hs.1,hs.2.1,h4⟩
   grind
  .cases h
 .cases h
theorem tZ:∀ {outs:List SS} {c:y5} {p q:List CS},tY outs c=some (p,q)->∀ o,o ∈ outs->∃ p' q',branch (cC o.T o.L c) ⟨o.T,o.H,o.B⟩=some (p',q')/\(∀ x,x ∈ p' ->x ∈ p)/\∀ x,x ∈ q' ->x ∈ q
 |o::r,c,p,q,h,o',hm=>by
  simp [tY] at h;split at h
  .rename_i p1 q1 p2 q2 h1 h2
   rcases B8.1 hm with rfl|hm
   .grind
   .obtain ⟨p',q',h3,h4,h5⟩:=tZ h2 o' hm
    grind
  .cases h
variable {sem:Sem} (gF:gq C A sem) {hook:Iv} (Jz:Gf C A l b hook) {kp:List Nat} {fuel:Nat}
omit gF Jz in
theorem Qf {body:q6}{sb:CS->Option (List (G7×CS))}(hb:∀ {vs s st outs},CS.g C vs s st->sb s=some outs->Ex A l b body st (Post C vs outs)){mask:List Bool}{n0:Nat} :
  ∀ (k:Nat) {L:List CS} {vs:List Nat} {s:CS} {st:St} {outs:List (G7×CS)},s ∈ L->s.g C vs st->KS kp sb mask l.strict n0 k L=some outs->ZS A l b mask body n0 st (Post C vs outs)
 |0,L,vs,s,st,outs,hm,hs,h=>by
  simp_all [KS]
 |k+1,L,vs,s,st,outs,hm,hs,h=>by
  have hne:L.isEmpty=false:=by grind
  simp [KS,hne,j4,if_false] at h;split at h
  .rename_i os hos
   split at h
   .rename_i r hr
    cases h;obtain ⟨x,hx,hmx⟩:=Y2 hos s hm;split at hx
    .rename_i s' hs'
     refine ZS.step ((hb (XE hs hs') hx).mono ?_);rintro e st' ⟨o,o1,rfl,ws,l1,o3⟩;cases he:o.1 with
     |normal =>
      obtain ⟨t,t1,us,l2,t2⟩:=pT _ (wY (hmx o o1) he) o3;exact (Qf hb k t1 t2 hr).mono fun e XZ hp=>hp.sub (l1.trans l2) fun o h=>List.mem_append_right _ h
     |exit i=>exact ⟨o,List.mem_append_left _ (mC (hmx o o1) (by rw [he];simp)),he,ws,l1,o3⟩
     |ret=>exact ⟨o,List.mem_append_left _ (mC (hmx o o1) (by rw [he];simp)),he,ws,l1,o3⟩
    .cases hx
   .cases h
  .cases h
include gF Jz
theorem ij:∀ (c:q6) {vs:List Nat} {s:CS} {st:St} {outs:List (G7×CS)},s.g C vs st->cA A sem hook kp l b fuel c s=some outs->Ex A l b c st (Post C vs outs)
 | .skip,vs,s,st,outs,hs,h=>by
  simp only [cA,Option.some.injEq] at h;subst h;exact Ex.skip ⟨_,s8.2 rfl,rfl,vs,Le.refl _,hs⟩
 | .exit id,vs,s,st,outs,hs,h=>by
  simp only [cA,Option.some.injEq] at h;subst h;exact Ex.exit ⟨_,s8.2 rfl,rfl,vs,Le.refl _,hs⟩
 | .ret,vs,s,st,outs,hs,h=>by
  simp only [cA,Option.some.injEq] at h;subst h;exact Ex.ret ⟨_,s8.2 rfl,rfl,vs,Le.refl _,hs⟩
 | .bad,vs,s,st,outs,hs,h=>by simp [cA] at h
 | .region ops draw,vs,s,st,outs,hs,h=>by
  simp only [cA] at h;split at h
  .rename_i os hos
   cases h;obtain ⟨r,N,⟨o,o1,ws,l1,g1,g2,g3,g4⟩,hr⟩:=EZ gF hs.1 hs.2.1 hs.2.2 hos;exact Ex.region ⟨r,N,⟨_,L1.2 ⟨o,o1,rfl⟩,rfl,ws,l1,g1,g2,g4⟩,hr⟩
  .cases h
 | .seq a c,vs,s,st,outs,hs,h=>by
  simp only [cA] at h;split at h
  .rename_i os hos
   split at h
   .rename_i r hr
    cases h;refine Ex.seq ((ij a hs hos).mono ?_);rintro e st' ⟨o,o1,rfl,ws,l1,o3⟩;cases he:o.1 with
    |normal =>
     obtain ⟨t,t1,us,l2,t2⟩:=pT _ (wY o1 he) o3;obtain ⟨x,hx,hmx⟩:=Y2 hr t t1;exact (ij c t2 hx).mono fun e XZ hp=>hp.sub (l1.trans l2) fun o h=>List.mem_append_right _ (hmx o h)
    |exit i=>exact ⟨o,List.mem_append_left _ (mC o1 (by rw [he];simp)),he,ws,l1,o3⟩
    |ret=>exact ⟨o,List.mem_append_left _ (mC o1 (by rw [he];simp)),he,ws,l1,o3⟩
   .cases h
  .cases h
 | .cond c a d,vs,s,st,outs,hs,h=>by
  simp only [cA] at h;split at h
  .rename_i p q hpq
   split at h
   .rename_i x y hx hy
    cases h;obtain ⟨t,h1,o,o1,o2⟩:=IK (HS (L:=[]) (L' :=[]) hs.1 (by simp [y7.g]) c) hs hpq;refine Ex.cond h1 (fun ht=> ?_) (fun ht=> ?_)
    .obtain ⟨z,hz,hm⟩:=Y2 hx o (by simp_all)
     exact (ij a o2 hz).mono fun e XZ hp=>hp.sub (Le.refl _) fun o h=>List.mem_append_left _ (hm o h)
    .obtain ⟨z,hz,hm⟩:=Y2 hy o (by simp_all)
     exact (ij d o2 hz).mono fun e XZ hp=>hp.sub (Le.refl _) fun o h=>List.mem_append_right _ (hm o h)
   .cases h
  .cases h
 | .test ops draw c a d,vs,s,⟨T,H⟩,outs,hs,h=>by
  simp only [cA] at h;split at h
  .rename_i p q hpq
   split at h
   .rename_i x y hx hy
    cases h;have hR:Rn A l b ops draw T H fun T' H' L=>∃ t,J2 T' L c= .d (.bool t)/\∃ o,o ∈ (if t then p else q)/\∃ ws,Le vs ws/\o.g C ws ⟨T',H'⟩:=by
     split at hpq
     .rename_i pq hh
      cases hpq;exact Jz _ _ _ _ _ _ hh vs T H hs
     .split at hpq
      .rename_i os hos
       obtain ⟨r,N,⟨o,o1,ws,l1,g1,g2,g3,g4⟩,hr⟩:=EZ gF hs.1 hs.2.1 hs.2.2 hos;obtain ⟨p',q',h1,h2,h3⟩:=tZ hpq o o1;obtain ⟨t,h4,u,u1,u2⟩:=IK (st:=⟨r.T,r.H⟩) (HS g1 g3 c) ⟨g1,g2,g4⟩ h1;refine ⟨r,N,⟨t,h4,u,?_,ws,l1,u2⟩,hr⟩
       grind
      .cases hpq
    obtain ⟨r,N,⟨t,h4,u,u1,ws,l1,u2⟩,hr⟩:=hR;refine Ex.test ⟨r,N,⟨t,h4,fun ht=> ?_,fun ht=> ?_⟩,hr⟩
    .subst ht
     obtain ⟨m,m1,us,l2,m2⟩:=pT _ (by omega) u2;obtain ⟨z,hz,hm⟩:=Y2 hx m m1;exact (ij a m2 hz).mono fun e XZ hp=>hp.sub (l1.trans l2) fun o h=>List.mem_append_left _ (hm o h)
    .subst ht
     obtain ⟨m,m1,us,l2,m2⟩:=pT _ (by omega) u2;obtain ⟨z,hz,hm⟩:=Y2 hy m m1;exact (ij d m2 hz).mono fun e XZ hp=>hp.sub (l1.trans l2) fun o h=>List.mem_append_right _ (hm o h)
   .cases h
  .cases h
 | .block id body,vs,s,st,outs,hs,h=>by
  simp only [cA] at h;split at h
  .rename_i os hos
   cases h;refine Ex.block ((ij body hs hos).mono ?_);rintro e st' ⟨o,o1,rfl,ws,l1,o3⟩;have hm:=Qq (id:=id) o1;cases he:o.1 with
   |normal=>rw [he] at hm;exact ⟨_,hm,rfl,ws,l1,o3⟩
   |ret=>rw [he] at hm;exact ⟨_,hm,rfl,ws,l1,o3⟩
   |exit i =>
    rw [he] at hm;simp only at hm;simp only [Ib];split
    .rename_i hi;rw [if_pos hi] at hm;exact ⟨_,hm,rfl,ws,l1,o3⟩
    .rename_i hi;rw [if_neg hi] at hm;exact ⟨_,hm,rfl,ws,l1,o3⟩
  .cases h
 | .loop mask body,vs,s,st,outs,hs,h=>by
  refine Ex.ofL ?_;rw [J6.len hs.2.1];exact Qf (sb:=cA A sem hook kp l b fuel body) (fun {_ _ _ _} h1 h2=>ij body h1 h2) fuel (s8.2 rfl) hs h
 | .fz t,vs,s,st,outs,hs,h=>by
  simp only [cA] at h;split at h
  .rename_i s' hs'
   cases h;obtain ⟨st',h1,h2⟩:=bd6 hs hs';exact ⟨_,_,0,⟨_,s8.2 rfl,rfl,vs,Le.refl _,h2⟩,fun n _=>by
    simp_all [nQ,N9,exec]⟩
  .cases h
end
def HQ (T:List SV)(H:List SO):Dn->Option SV
 | .slot t=>T[t]?
 | .cell t none=>match T[t]? with
  |some (.ptr id off)=>match srd H id off 1 with
   |some [v]=>some v.J3
   |_=>none
  |_=>none
 | .cell t (some n)=>match T[t]? with
  |some (.ptr id off)=>match H[id]? with
   |some (.cells p l)=>if E1 (off+n) l.length then some (.agg (if s7 off 0&&s7 n l.length then p else none) (((l.drop off).take n).map SV.J3)) else none
   |_=>none
  |_=>none
def mV (T:List SV)(H:List SO):List Dn->Option (List SV)
 |[]=>some []
 |r::rs=>match HQ T H r,mV T H rs with
  |some v,some vs=>some (v::vs)
  |_,_=>none
def HN:List SV->SV
 |[v]=>v
 |vs=> .tuple (vs.map SV.J3)
def HF (H:List SO)(n:Nat):Nat->List SV->Option (List SV)
 |0,_=>none
 |fuel+1,l=>match l with
  |[]=>some []
  |v::vs=>match HF H n fuel vs with
   |none=>none
   |some ws=>match v with
    | .B4 id sz lo len=>if Nat.blt id n then some (.B4 id sz lo len::ws) else match srd H id lo (len * sz) with
     |some us=>match HF H n fuel us with
      |some us' =>match kK us' with
       |some xs=>if s7 xs.length (len * sz) then some (.d (mkSlice sz len xs)::ws) else none
       |none=>none
      |none=>none
     |none=>none
    | .agg p l=>match HF H n fuel l with
     |some l' =>some (.agg (match y7.Y3 l with|some 0=>p|_=>none) l' ::ws)
     |none=>none
    | .tuple l=>match HF H n fuel l with
     |some l' =>some (.tuple l' ::ws)
     |none=>none
    | .top=>none
    | .bn k=>if s7 k 0 then some (.bn 0::ws) else none
    |v=>some (v::ws)
def Ac (aK:Bool)(n:Nat)(vs:List SV)(H:List SO):Option (SV×List SO) :=
 if aK then some (HN vs,H) else match HF H n 1000000 [HN vs] with
  |some [v]=>match v.Y3 with
   |some b=>if E1 b n then some (v,H.take n) else none
   |none=>none
  |_=>none
section
variable {C:Ctx} {vs:List Nat}
theorem OS (cs:List c8):(cs.map c8.J3).map c8.J3=cs.map c8.J3:=by
 rw [List.map_map]
 congr 1
 funext v
 cases v<;>rfl
def Uj {T:List SV}{H:List SO}{T' :List c8}{H' :p9}(hT:y7.g C vs T T')(hH:J6.g C vs H H'){r:Dn}{v:SV}(h:HQ T H r=some v):∃ a,lH T' H' r=some a/\v.g C vs a:=by
 unfold HQ at h;split at h
 .exact y7.get hT h
 .split at h
  .rename_i id off e
   obtain ⟨a,h1,h2⟩:=y7.get hT e;rw [cw h2] at h1
   grind [EY,y7.g,lH,SV.rQ]
  .cases h
 .rename_i t n
  split at h
  .rename_i id off e
   obtain ⟨a,h1,h2⟩:=y7.get hT e;rw [cw h2] at h1;split at h
   .rename_i p l hl
    split at h
    .cases h
     obtain ⟨o,h3,h4⟩:=J6.get hH hl;obtain ⟨cs,rfl,h5,h6⟩:=h4;have hlen:=y7.len h5;refine ⟨.agg (((cs.drop off).take n).map c8.J3),?_,?_⟩
     .simp_all [lH,rd,if_pos]
     .refine ⟨_,rfl,y7.map (fun _ _=>SV.rQ) (y7.take (y7.drop h5 off) n),fun k hk=> ?_⟩
      split at hk
      .grind [e8,y6,OS]
      .cases hk
    .cases h
   .cases h
  .cases h
theorem Cb {T:List SV}{H:List SO}{T' :List c8}{H' :p9}(hT:y7.g C vs T T')(hH:J6.g C vs H H'):∀ {rs:List Dn} {l:List SV},mV T H rs=some l->∃ as,cR T' H' rs=some as/\y7.g C vs l as
 |[],l,h=>by simp [mV,Option.some.injEq] at h;subst h;exact ⟨[],rfl,by simp [y7.g]⟩
 |r::rs,l,h=>by
  simp [mV] at h;split at h
  .rename_i v ws hv hws
   obtain ⟨a,h1,h2⟩:=Uj hT hH hv;obtain ⟨as,h3,h4⟩:=Cb hT hH hws
   grind [cR,y7.g]
  .cases h
def KT {l:List SV}{as:List c8}(h:y7.g C vs l as):(HN l).g C vs (j3 as):=by
 have key:∀ {l:List SV} {as:List c8},y7.g C vs l as->(SV.tuple (l.map SV.J3)).g C vs (.tuple (as.map c8.J3)):=fun h=>by
  simp_all [SV.g,y7.map,SV.rQ]
 match l,h with
 |[],h=>have:=key h;subst h;exact this
 |[v],h=>obtain ⟨d,_,rfl,h1,rfl⟩:=h;exact h1
 |v::w::l,h=>have:=key h;obtain ⟨d,_,rfl,h1,e,es,rfl,h2,h3⟩:=h;exact this
theorem ab5 {H:p9}{n:Nat}:∀ (fuel:Nat) {l ws:List c8},C5 l=0->cr H n fuel l=some ws->ws=l
 |0,l,ws,_,h=>by simp [cr] at h
 |fuel+1,[],ws,_,h=>by simp_all [cr,Option.some.injEq]
 |fuel+1,v::l,ws,hb,h=>by
  simp [C5] at hb;simp [cr] at h;split at h
  .cases h
  .rename_i us ZI
   have e1:=ab5 fuel (by omega) ZI;split at h
   .simp [c8.O5] at hb
   .rename_i l0
    simp [c8.O5] at hb;split at h
    .rename_i l' hl'
     have e2:=ab5 fuel (l:=l0) (by omega) hl';simp_all
    .cases h
   .rename_i l0
    simp [c8.O5] at hb;split at h
    .rename_i l' hl'
     have e2:=ab5 fuel (l:=l0) (by omega) hl';simp_all
    .cases h
   simp_all
theorem BT {H:List SO}{H' :p9}{n:Nat}(hH:J6.g C vs H H'):∀ (fuel:Nat) {l ws:List SV} {as:List c8},y7.g C vs l as->HF H n fuel l=some ws->∃ bs,cr H' n fuel as=some bs/\y7.g C vs ws bs
 |0,l,ws,as,_,h=>by simp [HF] at h
 |fuel+1,[],ws,as,hg,h=>by
  simp only [y7.g] at hg;subst hg;simp only [HF,Option.some.injEq] at h;subst h;exact ⟨[],by simp [cr],by simp [y7.g]⟩
 |fuel+1,v::l,ws,as,hg,h=>by
  simp only [y7.g] at hg;obtain ⟨a,as,rfl,ha,hl⟩:=hg;simp only [HF] at h;split at h
  .cases h
  .rename_i us ZI
   obtain ⟨bs,h1,h2⟩:=BT hH fuel hl ZI;have fin:∀ {v:SV} {a:c8},v.g C vs a->y7.g C vs (v::us) (a::bs):=fun h=>by simp only [y7.g];exact ⟨_,_,rfl,h,h2⟩
   split at h
   .rename_i id sz lo len
    rw [om ha];split at h
    .rename_i hc
     have hc:id<n:=j5 hc;cases h;exact ⟨.B4 id sz lo len::bs,by simp only [cr,h1];rw [if_pos hc],fin (by simp only [SV.g])⟩
    .rename_i hc
     have hc:¬ id<n:=fun e=>hc (by rw [Nat.blt_eq];exact e)
     split at h
     .rename_i q hq
      split at h
      .rename_i q' hq'
       split at h
       .rename_i xs hxs
        split at h
        .rename_i hlen
         have hlen:=e8 hlen;cases h;obtain ⟨cs,h3,h4⟩:=EY hH hq;obtain ⟨ds,h5,h6⟩:=BT hH fuel h4 hq';obtain ⟨es,h7,h8⟩:=qf h6 hxs;exact ⟨.d (.slice len es)::bs,by simp only [cr,h1];rw [if_neg hc];simp only [h3,h5,h7],fin (cK (qY hlen h8))⟩
        .cases h
       .cases h
      .cases h
     .cases h
   .rename_i p l'
    simp only [SV.g] at ha;obtain ⟨cs,rfl,h3,h4⟩:=ha;split at h
    .rename_i l2 qU
     cases h;obtain ⟨ds,h5,h6⟩:=BT hH fuel h3 qU;refine ⟨.agg ds::bs,by simp only [cr,h1,h5],fin ?_⟩;simp only [SV.g];refine ⟨ds,rfl,h6,fun k hk=> ?_⟩;split at hk
     .rename_i hb
      rw [ab5 fuel (y7.cU hb h3) h5];exact h4 k hk
     .cases hk
    .cases h
   .rename_i l'
    simp only [SV.g] at ha;obtain ⟨cs,rfl,h3⟩:=ha;split at h
    .rename_i l2 qU
     cases h;obtain ⟨ds,h5,h6⟩:=BT hH fuel h3 qU;exact ⟨.tuple ds::bs,by simp only [cr,h1,h5],fin (by simp only [SV.g];exact ⟨_,rfl,h6⟩)⟩
    .cases h
   .cases h
   .rename_i k
    split at h
    .rename_i hk
     have hk:=e8 hk;subst hk;cases h;simp only [SV.g] at ha;refine ⟨a::bs,?_,fin (by simp only [SV.g];exact ha)⟩;obtain ⟨a1,a2⟩:=ha;cases a<;>simp only [c8.O5,c8.one,j4,reduceCtorEq] at a1 a2<;>first
      |(simp only [cr,h1];done)
      |omega
    .cases h
   .rename_i w1 w2 w3 w4 w5
    cases h;refine ⟨a::bs,?_,fin ha⟩;cases v<;>simp only [SV.g] at ha
    .exact absurd rfl w4
    .subst ha;simp only [cr,h1]
    .obtain ⟨_,rfl,_⟩:=ha;simp only [cr,h1]
    .obtain ⟨_,_,rfl,_⟩:=ha;simp only [cr,h1]
    .subst ha;simp only [cr,h1]
    .subst ha;simp only [cr,h1]
    .obtain ⟨_,_,rfl,_⟩:=ha;simp only [cr,h1]
    .exact absurd rfl (w1 _ _ _ _)
    .exact absurd rfl (w2 _ _)
    .exact absurd rfl (w3 _)
    .exact absurd rfl (w5 _)
    .obtain ⟨_,h0,_⟩:=ha;cases a<;>simp only [c8.J3,reduceCtorEq] at h0<;>simp only [cr,h1]
    .obtain ⟨_,_,rfl⟩:=ha;simp only [cr,h1]
def Uc {H H1:List SO}{H' :p9}{aK:Bool}{n:Nat}{l:List SV}{as:List c8}{v:SV}(hH:J6.g C vs H H')(hl:y7.g C vs l as)(h:Ac aK n l H=some (v,H1)) :
  ∃ a H2,finish aK n as H' =some (a,H2)/\v.g C vs a/\J6.g C vs H1 H2:=by
 unfold Ac at h;split at h
 .rename_i hp
  cases h;exact ⟨_,_,by simp only [finish,hp,if_true],KT hl,hH⟩
 .rename_i hp
  split at h
  .rename_i w hw
   split at h
   .rename_i b hb
    split at h
    .rename_i hc
     have hc:=j5 hc;cases h;obtain ⟨bs,h1,h2⟩:=BT hH 1000000 (l:=[HN l]) (as:=[j3 as]) (by simp only [y7.g];exact ⟨_,_,rfl,KT hl,rfl⟩) hw;simp only [y7.g] at h2;obtain ⟨a,_,rfl,h3,rfl⟩:=h2;have e:=SV.cU hb h3;refine ⟨a,H'.take n,?_,h3,J6.take hH n⟩;simp only [finish];rw [if_neg hp,h1];simp only;rw [if_pos (by omega)]
    .cases h
   .cases h
  .cases h
end
def SB.cl:SB->Bool
 | .tT=>true
 |_=>false
def Rel.cl:Rel->Bool
 | .no=>true
 |_=>false
mutual
def SD.cl:SD->Bool
 | .bool c=>c.cl
 | .int _ _ _ r=>r.cl
 | .slice v _ _ row=>v.isNone&&J1.cl row
 | .pr _ x=>x.cl
 |_=>true
def J1.cl:List SD->Bool
 |[]=>true
 |x::xs=>x.cl&&J1.cl xs
end
mutual
def SV.cl:SV->Bool
 | .d x=>x.cl
 | .own _ x=>x.cl
 | .q x=>x.cl
 | .T4 r=>J1.cl r
 | .agg _ l=>y7.cl l
 | .tuple l=>y7.cl l
 |_=>true
def y7.cl:List SV->Bool
 |[]=>true
 |x::xs=>x.cl&&y7.cl xs
end
def SO.cl:SO->Bool
 | .cells _ l=>y7.cl l
 |_=>true
def J6.cl:List SO->Bool
 |[]=>true
 |x::xs=>x.cl&&J6.cl xs
section
variable {C:Ctx} {vs ws:List Nat}
mutual
theorem SD.cH:∀ (x:SD) {d:Data},x.cl=true->x.g C vs d->x.g C ws d
 | .top,_,_,_=>by simp [SD.g]
 | .lit _,_,_,h=>by simp_all [SD.g]
 | .bool c,_,hc,h=>by
  cases c with
  |tT=>obtain ⟨b,h1,_⟩:=h;exact ⟨b,h1,trivial⟩
  |cmp=>simp [SD.cl,SB.cl] at hc
 | .int k lo hi r,_,hc,h=>by
  cases r with
  |no=>obtain ⟨b,h1,h2,h3,_⟩:=h;exact ⟨b,h1,h2,h3,trivial⟩
  |eq=>simp [SD.cl,Rel.cl] at hc
  |lt=>simp [SD.cl,Rel.cl] at hc
 | .anyI _,_,_,h=>by simp_all [SD.g]
 | .str _,_,_,h=>by simp_all [SD.g]
 | .slice v lo hi row,_,hc,h=>by
  cases v with
  |some i=>simp [SD.cl] at hc
  |none =>
   obtain ⟨rows,h1,h2,h3,_,h5⟩:=h;exact ⟨rows,h1,h2,h3,(fun i e=>by cases e),fun r hr=>J1.cH row hc (h5 r hr)⟩
 | .pr _ x,_,hc,h=>by exact ⟨h.1,SD.cH x hc h.2⟩
theorem J1.cH:∀ (x:List SD) {d:List Data},J1.cl x=true->J1.g C vs x d->J1.g C ws x d
 |[],_,_,h=>by simp_all [J1.g]
 |x::xs,_,hc,h=>by
  simp [J1.cl,c7] at hc;obtain ⟨d,ds,h1,h2,h3⟩:=h;exact ⟨d,ds,h1,SD.cH x hc.1 h2,J1.cH xs hc.2 h3⟩
end
mutual
theorem SV.cH:∀ (x:SV) {d:c8},x.cl=true->x.g C vs d->x.g C ws d
 | .top,_,_,_=>by simp [SV.g]
 | .any,_,_,h=>by simpa only [SV.g] using h
 | .d x,_,hc,h=>by simp only [SV.cl] at hc;simp only [SV.g] at h ⊢;obtain ⟨y,h1,h2⟩:=h;exact ⟨y,h1,SD.cH x hc h2⟩
 | .own _ x,_,hc,h=>by simp only [SV.cl] at hc;simp only [SV.g] at h ⊢;obtain ⟨a,b,h1,h2⟩:=h;exact ⟨a,b,h1,SD.cH x hc h2⟩
 | .O2,_,_,h=>by simpa only [SV.g] using h
 | .ptr ..,_,_,h=>by simpa only [SV.g] using h
 | .T4 row,_,hc,h=>by simp only [SV.cl] at hc;simp only [SV.g] at h ⊢;obtain ⟨a,b,h1,h2⟩:=h;exact ⟨a,b,h1,J1.cH row hc h2⟩
 | .B4 ..,_,_,h=>by simpa only [SV.g] using h
 | .wp ..,_,_,h=>by simpa only [SV.g] using h
 | .agg p l,_,hc,h=>by simp only [SV.cl] at hc;simp only [SV.g] at h ⊢;obtain ⟨cs,h1,h2,h3⟩:=h;exact ⟨cs,h1,y7.cH l hc h2,h3⟩
 | .tuple l,_,hc,h=>by simp only [SV.cl] at hc;simp only [SV.g] at h ⊢;obtain ⟨cs,h1,h2⟩:=h;exact ⟨cs,h1,y7.cH l hc h2⟩
 | .bn _,_,_,h=>by simpa only [SV.g] using h
 | .q x,_,hc,h=>by simp only [SV.cl] at hc;simp only [SV.g] at h ⊢;obtain ⟨y,h1,h2⟩:=h;exact ⟨y,h1,SD.cH x hc h2⟩
theorem y7.cH:∀ (x:List SV) {d:List c8},y7.cl x=true->y7.g C vs x d->y7.g C ws x d
 |[],_,_,h=>by simpa only [y7.g] using h
 |x::xs,_,hc,h=>by
  simp only [y7.cl,c7] at hc;simp only [y7.g] at h ⊢;obtain ⟨d,ds,h1,h2,h3⟩:=h;exact ⟨d,ds,h1,SV.cH x hc.1 h2,y7.cH xs hc.2 h3⟩
end
theorem SO.cH (x:SO){o:A1}(hc:x.cl=true)(h:x.g C vs o):x.g C ws o:=by
 cases x with
 |dead=>exact h
 |cells p l=>obtain ⟨cs,h1,h2,h3⟩:=h;exact ⟨cs,h1,y7.cH l hc h2,h3⟩
 |pr k=>exact h
 |bn k=>exact h
 |top=>trivial
 |BJ k b=>exact h
theorem J6.cH:∀ (x:List SO) {o:p9},J6.cl x=true->J6.g C vs x o->J6.g C ws x o
 |[],_,_,h=>by simp_all [J6.g]
 |x::xs,_,hc,h=>by
  simp [J6.cl,c7] at hc;obtain ⟨d,ds,h1,h2,h3⟩:=h;exact ⟨d,ds,h1,SO.cH x hc.1 h2,J6.cH xs hc.2 h3⟩
end
def JT:List SV->Option (List Data)
 |[]=>some []
 | .d (.lit x)::r=>match JT r with
  |some xs=>some (x::xs)
  |none=>none
 |_=>none
abbrev Fact:=Nat->List Data->Bool
def An (C:Ctx)(fact:Fact):Prop:=∀ k ds,fact k ds=true->C.Θ k (ds.map .d)
def Qm (fact:Fact)(p:Option Nat)(l:List SV):Option Nat->Bool
 |none=>true
 |some k=>Ld p (some k)||(match JT l with
  |some ds=>fact k ds
  |none=>false)
mutual
def SV.le (fact:Fact)(B:ji)(x:SV):SV->Bool
 | .top=>true
 | .any=>match x with
  | .any=>true
  |_=>false
 | .d y=>match x with
  | .d x=>SD.le B x y
  |_=>false
 | .own z y=>match x with
  | .own z' x=>s7 z z' &&SD.le B x y
  |_=>false
 | .O2=>match x with
  | .O2=>true
  |_=>false
 | .ptr i o=>match x with
  | .ptr i' o' =>s7 i i' &&s7 o o'
  |_=>false
 | .T4 _=>false
 | .wp .. =>false
 | .B4 i z l n=>match x with
  | .B4 i' z' l' n' =>s7 i i' &&s7 z z' &&s7 l l' &&s7 n n'
  |_=>false
 | .agg p l=>match x with
  | .agg p' l' =>Qm fact p' l' p&&y7.le fact B l' l
  |_=>false
 | .tuple l=>match x with
  | .tuple l' =>y7.le fact B l' l
  |_=>false
 | .q y=>match x.data? with
  |some x=>SD.le B x y
  |none=>false
 | .bn k=>x.one&&(match x.Y3 with
  |some b=>s7 b k
  |none=>false)
def y7.le (fact:Fact)(B:ji)(xs:List SV):List SV->Bool
 |[]=>xs.isEmpty
 |y::ys=>match xs with
  |x::xs=>SV.le fact B x y&&y7.le fact B xs ys
  |[]=>false
end
def SO.le (fact:Fact)(B:ji):SO->SO->Bool
 | .dead,.dead=>true
 | .cells p l,.cells p' l' =>Qm fact p l p' &&y7.le fact B l l'
 | .pr k,.pr k' =>s7 k k'
 | .BJ k b,.BJ k' b' =>s7 k k' &&s7 b b'
 |x,.bn k=>(match x.Y3 with
  |some b=>s7 b k
  |none=>false)
 |_,.top=>true
 |_,_=>false
def J6.le (fact:Fact)(B:ji):List SO->List SO->Bool
 |[],[]=>true
 |x::xs,y::ys=>x.le fact B y&&J6.le fact B xs ys
 |_,_=>false
section
variable {C:Ctx} {vs:List Nat} {B:ji} {fact:Fact} (hB:Bg vs B) (hf:An C fact)
theorem PL:∀ {l:List SV} {ds:List Data} {cs:List c8},JT l=some ds->y7.g C vs l cs->cs=ds.map .d
 |[],_,_,h,hg=>by simp_all [JT,Option.some.injEq,y7.g]
 |x::xs,_,_,h,hg=>by
  obtain ⟨d,ds',rfl,h1,h2⟩:=hg;unfold JT at h;split at h
  .simp_all
  .rename_i y r e
   cases e;split at h
   .rename_i ys hys
    cases h;obtain ⟨q,rfl,h3⟩:=bG h1;subst h3;rw [PL hys h2];rfl
   .cases h
  .cases h
include hf in
def Qn {p q:Option Nat}{l:List SV}{cs:List c8}(h:Qm fact p l q=true)(hl:y7.g C vs l cs)(hp:∀ k,p=some k->C.Θ k (cs.map c8.J3)):∀ k,q=some k->C.Θ k (cs.map c8.J3):=by
 rintro k rfl;simp [Qm,Bool.or_eq_true] at h
 rcases h with h|h
 .grind [Lf]
 .split at h
  .rename_i ds hds
   rw [PL hds hl];have e:(ds.map c8.d).map c8.J3=ds.map c8.d:=by rw [List.map_map];rfl
   rw [e];exact hf k ds h
  .cases h
include hB hf
mutual
theorem SV.cO:∀ (y:SV) {x:SV} {v:c8},SV.le fact B x y=true->x.g C vs v->y.g C vs v
 | .top,_,_,_,_=>by simp [SV.g]
 | .any,x,_,h,hg=>by cases x<;>simp only [SV.le,j4] at h;exact hg
 | .d y,x,_,h,hg=>by
  cases x<;>simp only [SV.le,j4] at h;obtain ⟨d,rfl,h1⟩:=bG hg;exact cK (SD.cO hB y h h1)
 | .own z y,x,_,h,hg=>by
  cases x<;>simp only [SV.le,j4,c7] at h;have e:=e8 h.1;subst e;obtain ⟨len,cells,rfl,h1⟩:=tE hg;simp only [SV.g];exact ⟨_,_,rfl,SD.cO hB y h.2 h1⟩
 | .O2,x,_,h,hg=>by cases x<;>simp only [SV.le,j4] at h;exact hg
 | .ptr i o,x,_,h,hg=>by
  cases x<;>simp only [SV.le,j4,c7] at h;have e:=e8 h.1;have e2:=e8 h.2;subst e e2;exact hg
 | .T4 _,x,_,h,hg=>by simp [SV.le] at h
 | .wp ..,x,_,h,hg=>by simp [SV.le] at h
 | .B4 i z l n,x,_,h,hg=>by
  cases x<;>simp only [SV.le,j4,c7] at h;have e1:=e8 h.1.1.1;have e2:=e8 h.1.1.2;have e3:=e8 h.1.2;have e4:=e8 h.2;subst e1 e2 e3 e4;exact hg
 | .agg p l,x,_,h,hg=>by
  cases x<;>simp only [SV.le,j4,c7] at h;simp only [SV.g] at hg ⊢;obtain ⟨cs,rfl,h1,h2⟩:=hg;exact ⟨cs,rfl,y7.cO l h.2 h1,Qn hf h.1 h1 h2⟩
 | .tuple l,x,_,h,hg=>by
  cases x<;>simp only [SV.le,j4] at h;simp only [SV.g] at hg ⊢;obtain ⟨cs,rfl,h1⟩:=hg;exact ⟨cs,rfl,y7.cO l h h1⟩
 | .q y,x,_,h,hg=>by
  simp only [SV.le] at h;split at h
  .rename_i z hz
   obtain ⟨d,h0,h1⟩:=Hu hg hz;exact Ht h0 (SD.cO hB y h h1)
  .cases h
 | .bn k,x,_,h,hg=>by
  simp only [SV.le,c7] at h;split at h
  .rename_i b hb
   have e:=e8 h.2;subst e;simp only [SV.g];exact ⟨SV.cU hb hg,SV.BG hg h.1⟩
  .exact absurd h.2 (by simp)
theorem y7.cO:∀ (y:List SV) {x:List SV} {v:List c8},y7.le fact B x y=true->y7.g C vs x v->y7.g C vs y v
 |[],x,_,h,hg=>by
  cases x with
  |nil=>exact hg
  |cons=>simp [y7.le] at h
 |y::ys,x,_,h,hg=>by
  cases x<;>simp only [y7.le,j4,c7] at h;simp only [y7.g] at hg ⊢;obtain ⟨d,ds,rfl,h1,h2⟩:=hg;exact ⟨d,ds,rfl,SV.cO y h.1 h1,y7.cO ys h.2 h2⟩
end
theorem SO.cO {x y:SO}{o:A1}(h:x.le fact B y=true)(hg:x.g C vs o):y.g C vs o:=by
 have key:∀ k,(match x.Y3 with|some b=>s7 b k|none=>false)=true->o.O5=k:=fun k hk=>by
  split at hk
  .rename_i b hb
   rw [SO.cU hb hg];exact e8 hk
  .cases hk
 cases y
 case top=>trivial
 case bn k=>exact key k (by cases x<;>simpa only [SO.le] using h)
 all_goals cases x<;>simp only [SO.le,j4,c7] at h
 .exact hg
 .obtain ⟨cs,rfl,h1,h2⟩:=hg
  exact ⟨cs,rfl,y7.cO hB hf _ h.2 h1,Qn hf h.1 h1 h2⟩
 .have e:=e8 h
  subst e;exact hg
 .have e1:=e8 h.1
  have e2:=e8 h.2;subst e1 e2;exact hg
theorem J6.cO:∀ {x y:List SO} {o:p9},J6.le fact B x y=true->J6.g C vs x o->J6.g C vs y o
 |[],[],_,_,hg=>hg
 |[],_::_,_,h,_=>by simp [J6.le] at h
 |_::_,[],_,h,_=>by simp [J6.le] at h
 |x::xs,y::ys,_,h,hg=>by
  simp [J6.le,c7] at h;obtain ⟨d,ds,rfl,h1,h2⟩:=hg;exact ⟨d,ds,rfl,SO.cO hB hf h.1 h1,J6.cO h.2 h2⟩
end
structure Spec where
 f:FuncId
 args:List SV
 H:List SO
 lim:H7
 outs:List (SV×List SO)
def Spec.cl (s:Spec):Bool:=y7.cl s.args&&J6.cl s.H&&s.outs.all fun o=>o.1.cl&&J6.cl o.2
def Spec.ok (C:Ctx)(A:Prog)(s:Spec):Prop:=s.cl=true/\∀ as Hc,y7.g C [] s.args as->J6.g C [] s.H Hc->Pq A s.f as Hc s.lim fun v H1=>∃ o,o ∈ s.outs/\o.1.g C [] v/\J6.g C [] o.2 H1
def oD (a b:H7):Bool:=s7 a.VD b.VD&&s7 a.Vu b.Vu&&s7 a.base b.base&&s7 a.strict b.strict
def XI (fact:Fact)(specs:List Spec):Sem:=fun B f args H l=>match specs.find? (fun s=>s7 s.f f&&y7.le fact B args s.args&&J6.le fact B H s.H&&oD s.lim l) with
 |some s=>some s.outs
 |none=>none
def XJ {C:Ctx}{A:Prog}{fact:Fact}(hf:An C fact){specs:List Spec}(hs:∀ s,s ∈ specs->s.ok C A):gq C A (XI fact specs):=by
 intro B f args H l outs h vs hB as Hc ha hH;unfold XI at h;split at h
 .rename_i s hfind
  cases h;have hm:=List.mem_of_find?_eq_some hfind;have hc:=List.find?_some hfind;simp only [c7,oD] at hc;obtain ⟨⟨⟨c1,c2⟩,c3⟩,c4⟩:=hc;obtain ⟨k1,k2⟩:=hs s hm;have e:s.f=f:=e8 c1;have el:s.lim=l:=by
   cases tQ:s.lim;simp_all
  simp only [Spec.cl,c7] at k1;obtain ⟨v,H1,⟨o,o1,o2,o3⟩,h1⟩:=k2 as Hc (y7.cH _ k1.1.1 (y7.cO hB hf _ c2 ha)) (J6.cH _ k1.1.2 (J6.cO hB hf c3 hH));rw [e,el] at h1;have k3:=Q2.1 k1.2 o o1;simp [c7] at k3;exact ⟨v,H1,⟨o,o1,SV.cH _ k3.1 o2,J6.cH _ k3.2 o3⟩,h1⟩
 .cases h
def cz (a b:Sem):Sem:=fun B f args H l=>match a B f args H l with
 |some r=>some r
 |none=>b B f args H l
def mS {C:Ctx}{A:Prog}{a b:Sem}(ha:gq C A a)(hb:gq C A b):gq C A (cz a b):=by
 intro B f args H l outs h;unfold cz at h;split at h
 .rename_i r hr;cases h;exact ha _ _ _ _ _ _ hr
 .exact hb _ _ _ _ _ _ h
def Wy (s:CS)(k:Nat):CS:=match s.T[k]? with
 |some v=>match Kc s.B.length v with
  |some (w,p)=>{ s with T:=s.T.set k w,B:=s.B++[p] }
  |none=>s
 |none=>s
def GZ (s:CS):Nat->CS
 |0=>s
 |n+1=>GZ (Wy s n) n
def af1 {C:Ctx}{vs:List Nat}{s:CS}{st:St}(hs:s.g C vs st)(k:Nat):∃ ws,Le vs ws/\(Wy s k).g C ws st:=by
 unfold Wy;split
 .rename_i v e
  split
  .rename_i w p hn
   rw [<- hs.2.2.1] at hn;obtain ⟨a,h1,h2⟩:=y7.get hs.1 e;obtain ⟨m,h3,h4,h5⟩:=He hn h2;refine ⟨vs++[m],Le.app _ _,?_,J6.R1 (Le.app _ _) _ hs.2.1,hs.2.2.add h3 h4⟩;have:=y7.set (y7.R1 (Le.app vs [m]) _ hs.1) k h5;simp_all [au]
  grind [Le.refl]
 grind [Le.refl]
theorem Kb {C:Ctx}:∀ (n:Nat) {vs:List Nat} {s:CS} {st:St},s.g C vs st->∃ ws,Le vs ws/\(GZ s n).g C ws st
 |0,vs,s,st,hs=>⟨vs,Le.refl _,hs⟩
 |n+1,vs,s,st,hs=>by
  obtain ⟨ws,l1,h1⟩:=af1 hs n;obtain ⟨us,l2,h2⟩:=Kb n h1;exact ⟨us,l1.trans l2,h2⟩
def Oo (s:CS)(j:Nat):List CS:=match s.T[j]? with
 |some (.d x)=>match x.int? s.B with
  |some (k,lo,hi,_)=>(pM k lo (hi - lo+1).toNat).map fun v=>{ s with T:=s.T.set j v }
  |none=>[s]
 |_=>[s]
def Ae:List Nat->List CS->List CS
 |[],l=>l
 |j::r,l=>Ae r (l.flatMap fun s=>Oo s j)
def XS {C:Ctx}{vs:List Nat}{s:CS}{st:St}(hs:s.g C vs st)(j:Nat):∃ s',s' ∈ Oo s j/\s'.g C vs st:=by
 have hs' :=hs;obtain ⟨hT,hH,hB⟩:=hs;unfold Oo;split
 .rename_i x e
  split
  .rename_i k lo hi r hc
   obtain ⟨a,h1,h2⟩:=y7.get hT e;obtain ⟨d,rfl,h3⟩:=bG h2;obtain ⟨m,rfl,h4,h5,_⟩:=SD.jQ hB hc h3;refine ⟨_,L1.2 ⟨_,nV _ lo m h4 (by omega),rfl⟩,?_,hH,hB⟩;have:=y7.set hT j (a:= .d (.lit (.int k m))) (b:= .d (.int k m)) (cK (by rfl));simp_all [au]
  simp_all
 simp_all
theorem EX {C:Ctx}{vs:List Nat}{st:St}:∀ (js:List Nat) {l:List CS} {s:CS},s ∈ l->s.g C vs st->∃ s',s' ∈ Ae js l/\s'.g C vs st
 |[],l,s,hm,hs=>⟨s,hm,hs⟩
 |j::js,l,s,hm,hs=>by
  obtain ⟨s1,h1,h2⟩:=XS hs j;exact EX js (List.mem_flatMap.2 ⟨s,hm,h1⟩) h2
def ap5:G7->Bool
 | .exit _=>false
 |_=>true
def fA (A:Prog)(sem:Sem)(hook:Iv)(fact:Fact)(kp js:List Nat)(fuel:Nat)(af:q9)(s:Spec):Bool :=
 s.cl&&s7 s.args.length af.nparams&&match ir (cA A sem hook kp s.lim s.H.length fuel af.body) (Ae js [GZ ⟨s.args++c9 (af.names.length - s.args.length) .any,s.H,[]⟩ s.args.length]) with
  |some outs=>outs.all fun o=>ap5 o.1&&match mV o.2.T o.2.H af.results with
   |some l=>match Ac af.aK s.H.length l o.2.H with
    |some (v,H1)=>s.outs.any fun p=>SV.le fact o.2.B v p.1&&J6.le fact o.2.B H1 p.2
    |none=>false
   |none=>false
  |none=>false
def uO {C:Ctx}{A:Prog}{sem:Sem}{hook:Iv}{fact:Fact}{kp js:List Nat}{fuel:Nat}{s:Spec}{af:q9}(gF:gq C A sem)(hf:An C fact)(Jz:Gf C A s.lim s.H.length hook)(hp:A.fP s.f=none)(ha:A.fn s.f=some af)
  (h:fA A sem hook fact kp js fuel af s=true):s.ok C A:=by
 unfold fA at h;simp only [c7] at h;obtain ⟨⟨c1,c2⟩,c3⟩:=h;have c2:=e8 c2;refine ⟨c1,fun as Hc hA hH=> ?_⟩;split at c3
 .rename_i outs hx
  have ya:=y7.len hA;have hHl:=J6.len hH;obtain ⟨ws,_,h0⟩:=Kb s.args.length (C:=C) (vs:=[]) (s:=⟨s.args++c9 (af.names.length - s.args.length) .any,s.H,[]⟩) (st:=⟨as++c9 (af.names.length - as.length) .any,Hc⟩) ⟨by simp_all [y7.app,Gm],hH,rfl,fun i lo hi h=>by simp at h⟩;obtain ⟨s0,m0,h0⟩:=EX js (s8.2 rfl) h0;obtain ⟨z,hz,hmz⟩:=Y2 hx s0 m0;have h1:=ij gF Jz af.body h0 hz;refine Pq.run (b:=s.H.length) _ hp ha (by omega) hHl rfl (h1.mono ?_);rintro x st' ⟨o,o1,rfl,us,l1,g1,g2,g3⟩;have c4:=Q2.1 c3 o (hmz o o1);simp [c7] at c4;obtain ⟨c5,c6⟩:=c4;split at c6
  .rename_i l hl
   obtain ⟨bs,h2,h3⟩:=Cb g1 g2 hl;split at c6
   .rename_i v H1 tq
    obtain ⟨a,H2,h4,h5,h6⟩:=Uc g2 h3 tq;obtain ⟨p,p1,p2⟩:=List.any_eq_true.1 c6;simp [c7] at p2;refine ⟨a,H2,?_,p,p1,?_,?_⟩
    .cases he:o.1 with
     |exit i=>rw [he] at c5;cases c5
     |normal=>simp_all [jL]
     |ret=>simp_all [jL]
    .simp only [Spec.cl,c7] at c1
     have k3:=Q2.1 c1.2 p p1;simp [c7] at k3;exact SV.cH _ k3.1 (SV.cO g3 hf _ p2.1 h5)
    .simp only [Spec.cl,c7] at c1
     have k3:=Q2.1 c1.2 p p1;simp [c7] at k3;exact J6.cH _ k3.2 (J6.cO g3 hf p2.2 h6)
   .cases c6
  .cases c6
 .cases c3
mutual
def SD.Dx (B:ji):SD->SD
 | .bool _=> .bool .tT
 | .int k lo hi _=> .int k lo hi .no
 | .slice v lo hi row=> .slice none (bdV B v lo hi).1 (bdV B v lo hi).2 (J1.Dx B row)
 | .pr k x=> .pr k (x.Dx B)
 |x=>x
def J1.Dx (B:ji):List SD->List SD
 |[]=>[]
 |x::xs=>x.Dx B::J1.Dx B xs
end
mutual
def SV.Dx (B:ji):SV->SV
 | .d x=> .d (x.Dx B)
 | .own z x=> .own z (x.Dx B)
 | .q x=> .q (x.Dx B)
 | .T4 r=> .T4 (J1.Dx B r)
 | .agg p l=> .agg p (y7.Dx B l)
 | .tuple l=> .tuple (y7.Dx B l)
 |x=>x
def y7.Dx (B:ji):List SV->List SV
 |[]=>[]
 |x::xs=>x.Dx B::y7.Dx B xs
end
def SO.Dx (B:ji):SO->SO
 | .cells p l=> .cells p (y7.Dx B l)
 |x=>x
section
variable {C:Ctx} {vs ws:List Nat} {B:ji} (hB:Bg vs B)
include hB
end
def bA1 (af:q9)(n:Nat)(o:G7×CS):Option (List (SV×List SO)):=if ap5 o.1 then match mV o.2.T o.2.H af.results with
  |some l=>match Ac af.aK n l o.2.H with
   |some (v,H1)=>some [(v.Dx o.2.B,H1.map (SO.Dx o.2.B))]
   |none=>none
  |none=>none
 else none
def inl (A:Prog)(sem:Sem)(hook:Iv)(kp js:List Nat)(fuel:Nat)(fs:List (FuncId×q9)):Sem:=fun B f args H l=>match fs.find? (fun p=>s7 p.1 f) with
 |some p=>if s7 args.length p.2.nparams then match ir (cA A sem hook kp l H.length fuel p.2.body) (Ae js [GZ ⟨args++c9 (p.2.names.length - args.length) .any,H,B⟩ args.length]) with
   |some outs=>ir (bA1 p.2 H.length) outs
   |none=>none
  else none
 |none=>none
section
variable {C D:Ctx} (hΦ:C.Φ=D.Φ) (hΘ:C.Θ=D.Θ) {vs:List Nat}
include hΦ
mutual
theorem SD.mF:∀ (x:SD) {d:Data},x.g C vs d->x.g D vs d
 | .top,_,h| .lit _,_,h| .bool _,_,h| .int ..,_,h| .anyI _,_,h| .str _,_,h=>by simp only [SD.g] at h ⊢<;>exact h
 | .slice v lo hi row,_,h=>by
  simp only [SD.g] at h ⊢;obtain ⟨rows,h1,h2,h3,h4,h5⟩:=h;exact ⟨rows,h1,h2,h3,h4,fun r hr=>J1.mF row (h5 r hr)⟩
 | .pr _ x,_,h=>by simp only [SD.g] at h ⊢;exact ⟨hΦ ▸ h.1,SD.mF x h.2⟩
theorem J1.mF:∀ (x:List SD) {d:List Data},J1.g C vs x d->J1.g D vs x d
 |[],_,h=>by simpa only [J1.g] using h
 |x::xs,_,h=>by
  simp only [J1.g] at h ⊢;obtain ⟨d,ds,h1,h2,h3⟩:=h;exact ⟨d,ds,h1,SD.mF x h2,J1.mF xs h3⟩
end
include hΘ
mutual
theorem SV.mF:∀ (x:SV) {d:c8},x.g C vs d->x.g D vs d
 | .top,_,h| .any,_,h| .O2,_,h| .ptr ..,_,h| .B4 ..,_,h| .wp ..,_,h| .bn _,_,h=>by simp only [SV.g] at h ⊢<;>exact h
 | .d x,_,h=>by simp only [SV.g] at h ⊢;obtain ⟨y,h1,h2⟩:=h;exact ⟨y,h1,SD.mF hΦ x h2⟩
 | .q x,_,h=>by simp only [SV.g] at h ⊢;obtain ⟨y,h1,h2⟩:=h;exact ⟨y,h1,SD.mF hΦ x h2⟩
 | .own _ x,_,h=>by simp only [SV.g] at h ⊢;obtain ⟨a,b,h1,h2⟩:=h;exact ⟨a,b,h1,SD.mF hΦ x h2⟩
 | .T4 r,_,h=>by simp only [SV.g] at h ⊢;obtain ⟨a,b,h1,h2⟩:=h;exact ⟨a,b,h1,J1.mF hΦ r h2⟩
 | .agg p l,_,h=>by simp only [SV.g] at h ⊢;obtain ⟨cs,h1,h2,h3⟩:=h;exact ⟨cs,h1,y7.mF l h2,fun k e=>hΘ ▸ h3 k e⟩
 | .tuple l,_,h=>by simp only [SV.g] at h ⊢;obtain ⟨cs,h1,h2⟩:=h;exact ⟨cs,h1,y7.mF l h2⟩
theorem y7.mF:∀ (x:List SV) {d:List c8},y7.g C vs x d->y7.g D vs x d
 |[],_,h=>by simpa only [y7.g] using h
 |x::xs,_,h=>by
  simp only [y7.g] at h ⊢;obtain ⟨d,ds,h1,h2,h3⟩:=h;exact ⟨d,ds,h1,SV.mF x h2,y7.mF xs h3⟩
end
def SO.plain:SO->Bool
 | .pr _=>false
 | .BJ _ _=>false
 |_=>true
theorem SO.mF {x:SO}{o:A1}(hp:x.plain=true)(h:x.g C vs o):x.g D vs o:=by
 cases x with
 |cells p l=>obtain ⟨cs,h1,h2,h3⟩:=h;exact ⟨cs,h1,y7.mF hΦ hΘ l h2,fun k e=>hΘ ▸ h3 k e⟩
 |pr k=>cases hp
 |BJ k b=>cases hp
 |_=>exact h
end
end Go.A2.Sh

