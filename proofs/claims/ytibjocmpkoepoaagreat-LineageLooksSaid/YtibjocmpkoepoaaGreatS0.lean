import Derived.Test.YtibjocmpkoepoaaGreatB6
set_option linter.all false
open Bool renaming and_eq_true→c7,false_eq_true→j4,not_eq_true'→p6,true→W,false→F
open List renaming all_eq_true→M1,append_assoc→D3,cons_append→A8,drop_of_length_le→n9,getElem?_append_left→B9,getElem?_append_right→y3,length_append→n5,length_cons→p8,length_map→A7,map_cons→K0,mem_append→D7,mem_append_left→K8,mem_cons→B6,mem_map→J4,mem_singleton→q8,nil_append→B3,replicate→c9,take_of_length_le→z7,length→O
open Nat renaming add_assoc→O8,beq→u5,ble→F3,eq_of_beq_eq_true→j5,le_of_ble_eq_true→j9,le_refl→l6,le_trans→C9,lt_or_ge→A5
open Option renaming some→J,none→K
namespace Go.A1.Sh
open Go.A1
inductive Rel where
 |no
 |eq (i:Nat)
 |lt (i:Nat)
inductive SB where
 |vQ
 |cmp (i n:Nat) (pol:Bool)
inductive SD where
 |top
 |lit (x:Data)
 |bool (c:SB)
 |int (k:IntKind) (lo hi:Int) (r:Rel)
 |anyI (k:IntKind)
 |str (n:Nat)
 |slice (v:Option Nat) (lo hi:Nat) (row:List SD)
 |pr (k:Nat) (x:SD)
inductive SV where
 |top
 |any
 |d (x:SD)
 |own (sz:Nat) (x:SD)
 |P9
 |ptr (id off:Nat)
 |U9 (row:List SD)
 |B8 (id sz lo len:Nat)
 |agg (p:Option Nat) (l:List SV)
 |tuple (l:List SV)
 |bn (k:Nat)  
 |q (x:SD)    
 |wp (id lo sz cnt:Nat)  
instance:Inhabited SV:=⟨.any⟩
instance:Inhabited SD:=⟨.top⟩
inductive SO where
 |dead
 |cells (p:Option Nat) (l:List SV)
 |pr (k:Nat)
 |bn (k:Nat)
 |top
 |Ec (k b:Nat)  
instance:Inhabited SO:=⟨.dead⟩
structure Ctx where
 Φ:Nat->Data->Prop
 Θ:Nat->List c8->Prop
 Ψ:Nat->y6->Prop
 L7:∀k o,Ψ k o->o.L7=0
 Ω:Nat->y6->Prop:=λ_ _=>False
def Rel.g (vs:List Nat):Rel->Int->Prop
 | .no,_=>True
 | .eq i,n=>∃m,vs[i]? =J m/\n=(m:Int)
 | .lt i,n=>∃m,vs[i]? =J m/\0<=n/\n<(m:Int)
def SB.g (vs:List Nat):SB->Bool->Prop
 | .vQ,_=>True
 | .cmp i n pol,b=>∃m,vs[i]? =J m/\b=(decide (n<m)==pol)
section
variable (C:Ctx)
mutual
def SD.g (vs:List Nat):SD->Data->Prop
 | .top,_=>True
 | .lit x,d=>d=x
 | .bool c,d=>∃b,d= .bool b/\c.g vs b
 | .int k lo hi r,d=>∃n,d= .int k n/\lo<=n/\n<=hi/\r.g vs n
 | .anyI k,d=>∃n,d= .int k n
 | .str m,d=>∃s,d= .str s/\O s<=m
 | .slice v lo hi row,d=>∃rows:List (List Data),d= .slice (O rows) rows.flatten/\lo<=O rows/\O rows<=hi/\(∀i,v=J i->vs[i]? =J (O rows))/\∀r,r∈rows->L0.g vs row r
 | .pr k x,d=>C.Φ k d/\SD.g vs x d
def L0.g (vs:List Nat):List SD->List Data->Prop
 |[],ds=>ds=[]
 |x::xs,ds=>∃d ds',ds=d::ds' /\SD.g vs x d/\L0.g vs xs ds'
end
mutual
def SV.g (vs:List Nat):SV->c8->Prop
 | .top,_=>True
 | .any,v=>v= .any
 | .d x,v=>∃y,v= .d y/\SD.g C vs x y
 | .own sz x,v=>∃len cells,v= .own sz len cells/\SD.g C vs x (.slice len cells)
 | .P9,v=>v= .P9
 | .ptr id off,v=>v= .ptr id off
 | .U9 row,v=>∃cells rest,v= .U9 (cells++rest)/\L0.g C vs row cells
 | .B8 id sz lo len,v=>v= .B8 id sz lo len
 | .agg p l,v=>∃cs,v= .agg cs/\z8.g vs l cs/\∀k,p=J k->C.Θ k (cs.map c8.K7)
 | .tuple l,v=>∃cs,v= .tuple cs/\z8.g vs l cs
 | .bn k,v=>v.L7=k/\v.one=W
 | .q x,v=>∃y,v.K7= .d y/\SD.g C vs x y
 | .wp id lo sz cnt,v=>∃j,j<cnt/\v= .ptr id (lo+j * sz)
def z8.g (vs:List Nat):List SV->List c8->Prop
 |[],as=>as=[]
 |x::xs,as=>∃a as',as=a::as' /\SV.g vs x a/\z8.g vs xs as'
end
def SO.g (vs:List Nat):SO->y6->Prop
 | .dead,o=>o= .dead
 | .cells p l,o=>∃cs,o= .cells cs/\z8.g C vs l cs/\∀k,p=J k->C.Θ k (cs.map c8.K7)
 | .pr k,o=>C.Ψ k o
 | .bn k,o=>o.L7=k
 | .top,_=>True
 | .Ec k b,o=>C.Ω k o/\o.L7=b
def L4.g (vs:List Nat):List SO->q6->Prop
 |[],os=>os=[]
 |x::xs,os=>∃o os',os=o::os' /\SO.g C vs x o/\L4.g vs xs os'
end
def Le (vs ws:List Nat):Prop:=∀(i m:Nat),vs[i]? =J m->ws[i]? =J m
theorem Le.refl (vs:List Nat):Le vs vs:=λ_ _ h=>h
theorem Le.trans {a b c:List Nat}(h:Le a b)(k:Le b c):Le a c:=λi m e=>k i m (h i m e)
theorem Le.app (vs ws:List Nat):Le vs (vs++ws):=λi m h=>by
 grind
section
variable {C:Ctx} {vs ws:List Nat}
theorem Rel.S8 (hl:Le vs ws){r:Rel}{n:Int}(h:r.g vs n):r.g ws n:=by
 cases r with
 |no=>trivial
 |eq i=>obtain ⟨m,h1,h2⟩:=h;exact ⟨m,hl _ _ h1,h2⟩
 |lt i=>obtain ⟨m,h1,h2⟩:=h;exact ⟨m,hl _ _ h1,h2⟩
theorem SB.S8 (hl:Le vs ws){r:SB}{n:Bool}(h:r.g vs n):r.g ws n:=by
 cases r with
 |vQ=>trivial
 |cmp i n pol=>obtain ⟨m,h1,h2⟩:=h;exact ⟨m,hl _ _ h1,h2⟩
mutual
theorem SD.S8 (hl:Le vs ws):∀(x:SD) {d:Data},x.g C vs d->x.g C ws d
 | .top,_,h=>by simp [SD.g]
 | .lit _,_,h=>by simp_all [SD.g]
 | .bool c,_,h=>by grind [SD.g,SB.S8]
 | .int k lo hi r,_,h=>by grind [SD.g,Rel.S8]
 | .anyI _,_,h=>by simp_all [SD.g]
 | .str _,_,h=>by simp_all [SD.g]
 | .slice v lo hi row,_,h=>by
  obtain ⟨rows,h1,h2,h3,h4,h5⟩:=h;exact ⟨rows,h1,h2,h3,λi e=>hl _ _ (h4 i e),λr hr=>L0.S8 hl row (h5 r hr)⟩
 | .pr _ x,_,h=>by exact ⟨h.1,SD.S8 hl x h.2⟩
theorem L0.S8 (hl:Le vs ws):∀(x:List SD) {d:List Data},L0.g C vs x d->L0.g C ws x d
 |[],_,h=>by simp_all [L0.g]
 |x::xs,_,h=>by obtain ⟨d,ds,h1,h2,h3⟩:=h;exact ⟨d,ds,h1,SD.S8 hl x h2,L0.S8 hl xs h3⟩
end
mutual
theorem SV.S8 (hl:Le vs ws):∀(x:SV) {d:c8},x.g C vs d->x.g C ws d
 | .top,_,h=>by simp only [SV.g]
 | .any,_,h=>by simpa only [SV.g] using h
 | .d x,_,h=>by simp only [SV.g] at h ⊢;obtain ⟨y,h1,h2⟩:=h;exact ⟨y,h1,SD.S8 hl x h2⟩
 | .own _ x,_,h=>by simp only [SV.g] at h ⊢;obtain ⟨a,b,h1,h2⟩:=h;exact ⟨a,b,h1,SD.S8 hl x h2⟩
 | .P9,_,h=>by simpa only [SV.g] using h
 | .ptr ..,_,h=>by simpa only [SV.g] using h
 | .U9 row,_,h=>by simp only [SV.g] at h ⊢;obtain ⟨a,b,h1,h2⟩:=h;exact ⟨a,b,h1,L0.S8 hl row h2⟩
 | .B8 ..,_,h=>by simpa only [SV.g] using h
 | .wp ..,_,h=>by simpa only [SV.g] using h
 | .agg p l,_,h=>by simp only [SV.g] at h ⊢;obtain ⟨cs,h1,h2,h3⟩:=h;exact ⟨cs,h1,z8.S8 hl l h2,h3⟩
 | .tuple l,_,h=>by simp only [SV.g] at h ⊢;obtain ⟨cs,h1,h2⟩:=h;exact ⟨cs,h1,z8.S8 hl l h2⟩
 | .bn _,_,h=>by simpa only [SV.g] using h
 | .q x,_,h=>by simp only [SV.g] at h ⊢;obtain ⟨y,h1,h2⟩:=h;exact ⟨y,h1,SD.S8 hl x h2⟩
theorem z8.S8 (hl:Le vs ws):∀(x:List SV) {d:List c8},z8.g C vs x d->z8.g C ws x d
 |[],_,h=>by simpa only [z8.g] using h
 |x::xs,_,h=>by simp only [z8.g] at h ⊢;obtain ⟨d,ds,h1,h2,h3⟩:=h;exact ⟨d,ds,h1,SV.S8 hl x h2,z8.S8 hl xs h3⟩
end
theorem SO.S8 (hl:Le vs ws)(x:SO){o:y6}(h:x.g C vs o):x.g C ws o:=by
 cases x with
 |dead=>exact h
 |cells p l=>obtain ⟨cs,h1,h2,h3⟩:=h;exact ⟨cs,h1,z8.S8 hl l h2,h3⟩
 |pr k=>exact h
 |bn k=>exact h
 |top=>trivial
 |Ec k b=>exact h
theorem L4.S8 (hl:Le vs ws):∀(x:List SO) {o:q6},L4.g C vs x o->L4.g C ws x o
 |[],_,h=>by simp_all [L4.g]
 |x::xs,_,h=>by obtain ⟨d,ds,h1,h2,h3⟩:=h;exact ⟨d,ds,h1,SO.S8 hl x h2,L4.S8 hl xs h3⟩
end
section
variable {C:Ctx} {vs:List Nat}
theorem L0.len:∀{x:List SD} {d:List Data},L0.g C vs x d->O d=O x
 |[],_,h=>by simp_all [L0.g]
 |x::xs,_,h=>by obtain ⟨d,ds,rfl,_,h3⟩:=h;simp [L0.len h3]
theorem z8.len:∀{x:List SV} {d:List c8},z8.g C vs x d->O d=O x
 |[],_,h=>by simp_all [z8.g]
 |x::xs,_,h=>by obtain ⟨d,ds,rfl,_,h3⟩:=h;simp [z8.len h3]
theorem L4.len:∀{x:List SO} {d:q6},L4.g C vs x d->O d=O x
 |[],_,h=>by simp_all [L4.g]
 |x::xs,_,h=>by obtain ⟨d,ds,rfl,_,h3⟩:=h;simp [L4.len h3]
theorem z8.app:∀{x y:List SV} {d e:List c8},z8.g C vs x d->z8.g C vs y e->z8.g C vs (x++y) (d++e)
 |[],_,_,_,h,k=>by simp_all [z8.g]
 |x::xs,_,_,_,h,k=>by obtain ⟨d,ds,rfl,h2,h3⟩:=h;exact ⟨d,_,rfl,h2,z8.app h3 k⟩
theorem L4.app:∀{x y:List SO} {d e:q6},L4.g C vs x d->L4.g C vs y e->L4.g C vs (x++y) (d++e)
 |[],_,_,_,h,k=>by simp_all [L4.g]
 |x::xs,_,_,_,h,k=>by obtain ⟨d,ds,rfl,h2,h3⟩:=h;exact ⟨d,_,rfl,h2,L4.app h3 k⟩
theorem z8.get:∀{x:List SV} {d:List c8},z8.g C vs x d->∀{i:Nat} {a:SV},x[i]? =J a->∃b,d[i]? =J b/\a.g C vs b
 |[],_,_,_,_,e=>by simp at e
 |x::xs,_,h,i,a,e=>by
  obtain ⟨d,ds,rfl,h2,h3⟩:=h;cases i with
  |zero=>simp at e;subst e;exact ⟨d,rfl,h2⟩
  |succ i=>simpa using z8.get h3 (by simpa using e)
theorem z8.none:∀{x:List SV} {d:List c8},z8.g C vs x d->∀{i:Nat},x[i]? =K->d[i]? =K:=λh i e=>by
 grind [List.getElem?_eq_none_iff,z8.len]
theorem L4.get:∀{x:List SO} {d:q6},L4.g C vs x d->∀{i:Nat} {a:SO},x[i]? =J a->∃b,d[i]? =J b/\a.g C vs b
 |[],_,_,_,_,e=>by simp at e
 |x::xs,_,h,i,a,e=>by
  obtain ⟨d,ds,rfl,h2,h3⟩:=h;cases i with
  |zero=>simp at e;subst e;exact ⟨d,rfl,h2⟩
  |succ i=>simpa using L4.get h3 (by simpa using e)
theorem z8.set:∀{x:List SV} {d:List c8},z8.g C vs x d->∀(i:Nat) {a:SV} {b:c8},a.g C vs b->z8.g C vs (x.set i a) (d.set i b)
 |[],_,h,_,_,_,_=>by simp_all [z8.g]
 |x::xs,_,h,i,a,b,e=>by
  obtain ⟨d,ds,rfl,h2,h3⟩:=h;cases i with
  |zero=>exact ⟨_,_,rfl,e,h3⟩
  |succ i=>exact ⟨_,_,rfl,h2,z8.set h3 i e⟩
theorem L4.set:∀{x:List SO} {d:q6},L4.g C vs x d->∀(i:Nat) {a:SO} {b:y6},a.g C vs b->L4.g C vs (x.set i a) (d.set i b)
 |[],_,h,_,_,_,_=>by simp_all [L4.g]
 |x::xs,_,h,i,a,b,e=>by
  obtain ⟨d,ds,rfl,h2,h3⟩:=h;cases i with
  |zero=>exact ⟨_,_,rfl,e,h3⟩
  |succ i=>exact ⟨_,_,rfl,h2,L4.set h3 i e⟩
theorem z8.take:∀{x:List SV} {d:List c8},z8.g C vs x d->∀(n:Nat),z8.g C vs (x.take n) (d.take n)
 |[],_,h,n=>by simp_all [z8.g]
 |x::xs,_,h,n=>by
  obtain ⟨d,ds,rfl,h2,h3⟩:=h;cases n with
  |zero=>simp [z8.g]
  |succ n=>exact ⟨_,_,rfl,h2,z8.take h3 n⟩
theorem z8.drop:∀{x:List SV} {d:List c8},z8.g C vs x d->∀(n:Nat),z8.g C vs (x.drop n) (d.drop n)
 |[],_,h,n=>by simp_all [z8.g]
 |x::xs,_,h,n=>by
  have h' :=h;obtain ⟨d,ds,rfl,h2,h3⟩:=h;cases n with
  |zero=>exact h'
  |succ n=>simpa using z8.drop h3 n
theorem L4.take:∀{x:List SO} {d:q6},L4.g C vs x d->∀(n:Nat),L4.g C vs (x.take n) (d.take n)
 |[],_,h,n=>by simp_all [L4.g]
 |x::xs,_,h,n=>by
  obtain ⟨d,ds,rfl,h2,h3⟩:=h;cases n with
  |zero=>simp [L4.g]
  |succ n=>exact ⟨_,_,rfl,h2,L4.take h3 n⟩
theorem L4.drop:∀{x:List SO} {d:q6},L4.g C vs x d->∀(n:Nat),L4.g C vs (x.drop n) (d.drop n)
 |[],_,h,n=>by simp_all [L4.g]
 |x::xs,_,h,n=>by
  have h' :=h;obtain ⟨d,ds,rfl,h2,h3⟩:=h;cases n with
  |zero=>exact h'
  |succ n=>simpa using L4.drop h3 n
theorem z8.map {f:SV->SV}{f' :c8->c8}(hf:∀x a,SV.g C vs x a->SV.g C vs (f x) (f' a)):∀{x:List SV} {d:List c8},z8.g C vs x d->z8.g C vs (x.map f) (d.map f')
 |[],_,h=>by simp_all [z8.g]
 |x::xs,_,h=>by
  obtain ⟨d,ds,rfl,h2,h3⟩:=h;exact ⟨_,_,rfl,hf _ _ h2,z8.map hf h3⟩
end
def Ya:IntKind->IntKind->Bool:=λa b=>decide (a=b)
mutual
def Jy:Data->Data->Bool
 | .bool a,.bool b=>a==b
 | .int k n,.int k' n' =>decide (k=k')&&decide (n=n')
 | .str s,.str t=>s==t
 | .slice n l,.slice m r=>u5 n m&&yH l r
 | .dg,.dg=>W
 | .R2,.R2=>W
 | .ew,.ew=>W
 | .nilIface,.nilIface=>W
 |_,_=>F
def yH:List Data->List Data->Bool
 |[],[]=>W
 |a::l,b::r=>Jy a b&&yH l r
 |_,_=>F
end
mutual
theorem Jz:∀(a b:Data),Jy a b=W->a=b
 | .bool a,b,h=>by cases b<;>simp_all [Jy]
 | .int k n,b,h=>by cases b<;>simp_all [Jy]
 | .str s,b,h=>by cases b<;>simp_all [Jy]
 | .slice n l,b,h=>by
  cases b<;>simp only [Jy,c7,j4] at h;rename_i m r;rw [j5 h.1,JA l r h.2]
 | .dg,b,h=>by grind [Jy]
 | .R2,b,h=>by grind [Jy]
 | .ew,b,h=>by grind [Jy]
 | .nilIface,b,h=>by grind [Jy]
theorem JA:∀(a b:List Data),yH a b=W->a=b
 |[],b,h=>by grind [yH]
 |x::a,b,h=>by
  cases b<;>simp [yH,c7,j4] at h;rw [Jz _ _ h.1,JA _ _ h.2]
end
abbrev jU:=List (Nat×Nat)
def Bg (vs:List Nat)(i7:jU):Prop:=O vs=O i7/\∀(i lo hi:Nat),i7[i]? =J (lo,hi)->∃m,vs[i]? =J m/\lo<=m/\m<=hi
def bdV (i7:jU)(v:Option Nat)(lo hi:Nat):Nat×Nat:=match v with
 |none=>(lo,hi)
 |some i=>match i7[i]? with
  |some (a,b)=>(max lo a,min hi b)
  |none=>(lo,hi)
def aH8 {vs:List Nat}{i7:jU}(hB:Bg vs i7){v:Option Nat}{lo hi m:Nat}(h1:lo<=m)(h2:m<=hi)(h3:∀i,v=J i->vs[i]? =J m):(bdV i7 v lo hi).1<=m/\m<=(bdV i7 v lo hi).2:=by
 unfold bdV;split
 .omega
 .split
  next a b hb=>
   obtain ⟨m',e1,e2,e3⟩:=hB.2 _ _ _ hb
   grind
  omega
def SD.int? (i7:jU):SD->Option (IntKind×Int×Int×Rel)
 | .lit (.int k n)=>J (k,n,n,.no)
 | .int k lo hi r=>match r with
  | .eq i=>match i7[i]? with
   |some (a,b)=>J (k,max lo a,min hi b,.eq i)
   |none=>J (k,lo,hi,.eq i)
  |_=>J (k,lo,hi,r)
 | .pr _ x=>x.int? i7
 |_=>K
def SD.xz :SD->Option (Nat×Option (List UInt8))
 | .lit (.str s)=>J (O s,J s)
 | .str m=>J (m,K)
 | .pr _ x=>x.xz
 |_=>K
inductive BK where
 |t (b:Bool)
 |u (c:SB)
def SD.bool? :SD->Option BK
 | .lit (.bool b)=>J (.t b)
 | .bool c=>J (.u c)
 | .pr _ x=>x.bool?
 |_=>K
def SD.kind? :SD->Option IntKind
 | .lit (.int k _)=>J k
 | .int k _ _ _=>J k
 | .anyI k=>J k
 | .pr _ x=>x.kind?
 |_=>K
def qZ:List Data->Option (IntKind×Int×Int)
 |[]=>K
 | .int k n::r=>match r with
  |[]=>J (k,n,n)
  |_=>match qZ r with
   |some (k',lo,hi)=>if Ya k k' then J (k,min lo n,max hi n) else K
   |none=>K
 |_=>K
def Mz:Data->Data->SD
 | .int k n,.int k' n' =>if Ya k k' then .int k (min n n') (max n n') .no else .top
 | .str s,.str t=> .str (max (O s) (O t))
 | .bool _,.bool _=> .bool .vQ
 | .slice n cs,.slice m ds=>if u5 (O cs) n&&u5 (O ds) m then match qZ (cs++ds) with
   |some (k,lo,hi)=> .slice K (min n m) (max n m) [.int k lo hi .no]
   |none=> .top
  else .top
 |_,_=> .top
def Rel.join:Rel->Rel->Rel
 | .eq i,.eq j=>if u5 i j then .eq i else .no
 | .lt i,.lt j=>if u5 i j then .lt i else .no
 |_,_=> .no
def Xs:SD->Data->SD
 | .lit a,b=>if Jy a b then .lit a else Mz a b
 | .int k lo hi _,.int k' n=>if Ya k k' then .int k (min lo n) (max hi n) .no else .top
 | .str m,.str t=> .str (max m (O t))
 | .bool _,.bool _=> .bool .vQ
 |_,_=> .top
def zk:List SD->List Data->List SD
 |x::xs,d::ds=>Xs x d::zk xs ds
 |_,_=>[]
def rowsOf (sz:Nat):Nat->List Data->List (List Data)
 |0,_=>[]
 |n+1,cs=>cs.take sz::rowsOf sz n (cs.drop sz)
def Nx (sz:Nat):List (List Data)->List SD
 |[]=>c9 sz .top
 |r::rs=>rs.foldl zk (r.map .lit)
def SD.vi (i7:jU):SD->Option (Option Nat×Nat×Nat)
 | .lit (.slice n _)=>J (K,n,n)
 | .slice v lo hi _=>J (v,bdV i7 v lo hi)
 | .pr _ x=>x.vi i7
 |_=>K
def SD.slice? (i7:jU)(sz:Nat):SD->Option (Option Nat×Nat×Nat×List SD)
 | .lit (.slice n cells)=>if u5 (O cells) (n * sz) then J (K,n,n,Nx sz (rowsOf sz n cells)) else K
 | .slice v lo hi row=>if u5 (O row) sz then J (v,(bdV i7 v lo hi).1,(bdV i7 v lo hi).2,row) else K
 | .pr _ x=>x.slice? i7 sz
 |_=>K
section
variable {C:Ctx} {vs:List Nat} {i7:jU}
theorem SD.kR (hB:Bg vs i7):∀{x:SD} {d:Data} {k:IntKind} {lo hi:Int} {r:Rel},x.int? i7=J (k,lo,hi,r)->x.g C vs d->∃n,d= .int k n/\lo<=n/\n<=hi/\r.g vs n
 | .lit (.int k' n'),_,_,_,_,_,h,hg=>by
  obtain ⟨rfl,rfl,rfl,rfl⟩:=h;exact ⟨_,hg,Int.le_refl _,Int.le_refl _,trivial⟩
 | .int k' lo' hi' r',_,_,_,_,_,h,hg=>by
  obtain ⟨n,rfl,h1,h2,h3⟩:=hg;simp [SD.int?] at h;split at h
  .split at h
   next a b hb=>
    obtain ⟨rfl,rfl,rfl,rfl⟩:=h;obtain ⟨m,e1,e2⟩:=h3;obtain ⟨m',e3,e4,e5⟩:=hB.2 _ _ _ hb;rw [e1] at e3;cases e3;exact ⟨n,rfl,V,V,m,e1,e2⟩
   simp_all
  simp_all
 | .pr k' x,_,_,_,_,_,h,hg=>by
  simp [SD.int?] at h;exact SD.kR hB h hg.2
 | .lit (.bool _),_,_,_,_,_,h,_=>by simp [SD.int?] at h
 | .lit (.str _),_,_,_,_,_,h,_=>by simp [SD.int?] at h
 | .lit (.slice _ _),_,_,_,_,_,h,_=>by simp [SD.int?] at h
 | .lit .dg,_,_,_,_,_,h,_=>by simp [SD.int?] at h
 | .lit .R2,_,_,_,_,_,h,_=>by simp [SD.int?] at h
 | .lit .ew,_,_,_,_,_,h,_=>by simp [SD.int?] at h
 | .lit .nilIface,_,_,_,_,_,h,_=>by simp [SD.int?] at h
 | .top,_,_,_,_,_,h,_=>by simp [SD.int?] at h
 | .bool _,_,_,_,_,_,h,_=>by simp [SD.int?] at h
 | .anyI _,_,_,_,_,_,h,_=>by simp [SD.int?] at h
 | .str _,_,_,_,_,_,h,_=>by simp [SD.int?] at h
 | .slice ..,_,_,_,_,_,h,_=>by simp [SD.int?] at h
theorem SD.zA:∀{x:SD} {d:Data} {m:Nat} {e:Option (List UInt8)},x.xz =J (m,e)->x.g C vs d->∃s,d= .str s/\O s<=m/\∀t,e=J t->s=t
 | .lit x,_,_,_,h,hg=>by
  cases x<;>simp [SD.xz,reduceCtorEq] at h
  grind [SD.g]
 | .str m',_,_,_,h,hg=>by
  grind [SD.xz,Option.some.injEq,Prod.mk.injEq,SD.g]
 | .pr _ x,_,_,_,h,hg=>by
  simp [SD.xz] at h;exact SD.zA h hg.2
 | .top,_,_,_,h,_=>by simp [SD.xz] at h
 | .bool _,_,_,_,h,_=>by simp [SD.xz] at h
 | .anyI _,_,_,_,h,_=>by simp [SD.xz] at h
 | .int ..,_,_,_,h,_=>by simp [SD.xz] at h
 | .slice ..,_,_,_,h,_=>by simp [SD.xz] at h
theorem SD.gw:∀{x:SD} {d:Data} {c:BK},x.bool? =J c->x.g C vs d->∃b,d= .bool b/\match c with| .t b' =>b=b' | .u c=>c.g vs b
 | .lit x,_,_,h,hg=>by
  cases x<;>simp [SD.bool?,reduceCtorEq] at h
  grind [SD.g]
 | .bool c,_,_,h,hg=>by
  grind [SD.bool?,Option.some.injEq,SD.g]
 | .pr _ x,_,_,h,hg=>by
  simp [SD.bool?] at h;exact SD.gw h hg.2
 | .top,_,_,h,_=>by simp [SD.bool?] at h
 | .str _,_,_,h,_=>by simp [SD.bool?] at h
 | .anyI _,_,_,h,_=>by simp [SD.bool?] at h
 | .int ..,_,_,h,_=>by simp [SD.bool?] at h
 | .slice ..,_,_,h,_=>by simp [SD.bool?] at h
theorem SD.BQ:∀{x:SD} {d:Data} {k:IntKind},x.kind? =J k->x.g C vs d->∃n,d= .int k n
 | .lit x,_,_,h,hg=>by
  cases x<;>simp [SD.kind?,reduceCtorEq] at h;simp_all [SD.g]
 | .int ..,_,_,h,hg=>by
  grind [SD.kind?,Option.some.injEq,SD.g]
 | .anyI _,_,_,h,hg=>by
  simp_all [SD.kind?,Option.some.injEq,SD.g]
 | .pr _ x,_,_,h,hg=>by
  simp [SD.kind?] at h;exact SD.BQ h hg.2
 | .top,_,_,h,_=>by simp [SD.kind?] at h
 | .str _,_,_,h,_=>by simp [SD.kind?] at h
 | .bool _,_,_,h,_=>by simp [SD.kind?] at h
 | .slice ..,_,_,h,_=>by simp [SD.kind?] at h
theorem SD.QO (hB:Bg vs i7):∀{x:SD} {d:Data} {v:Option Nat} {lo hi:Nat},x.vi i7=J (v,lo,hi)->x.g C vs d->∃n cells,d= .slice n cells/\lo<=n/\n<=hi/\∀i,v=J i->vs[i]? =J n
 | .lit x,_,_,_,_,h,hg=>by
  cases x<;>simp [SD.vi,reduceCtorEq] at h
  grind [SD.g]
 | .slice v' lo' hi' row,_,_,_,_,h,hg=>by
  simp [SD.vi,Option.some.injEq,Prod.mk.injEq] at h;obtain ⟨rfl,h⟩:=h;obtain ⟨rows,rfl,h1,h2,h3,_⟩:=hg;have:=aH8 hB h1 h2 h3;simp_all
 | .pr _ x,_,_,_,_,h,hg=>by
  simp [SD.vi] at h;exact SD.QO hB h hg.2
 | .top,_,_,_,_,h,_=>by simp [SD.vi] at h
 | .str _,_,_,_,_,h,_=>by simp [SD.vi] at h
 | .bool _,_,_,_,_,h,_=>by simp [SD.vi] at h
 | .anyI _,_,_,_,_,h,_=>by simp [SD.vi] at h
 | .int ..,_,_,_,_,h,_=>by simp [SD.vi] at h
theorem Tc:∀{l:List Data} {k:IntKind} {lo hi:Int},qZ l=J (k,lo,hi)->∀d,d∈l->∃n,d= .int k n/\lo<=n/\n<=hi
 |[],_,_,_,h,_,_=>M
 | .int k n::r,_,_,_,h,d,hd=>by
  simp [qZ] at h;split at h
  .grind
  .split at h
   next k' lo' hi' e=>
    split at h
    next hk=>
     have hk:k=k' :=of_decide_eq_true hk
     rcases B6.1 hd with rfl|hd
     .grind
     .obtain ⟨m,rfl,h1,h2⟩:=Tc e d hd
      grind
    .cases h
   .cases h
 | .bool _::_,_,_,_,h,_,_=>by simp [qZ] at h
 | .str _::_,_,_,_,h,_,_=>by simp [qZ] at h
 | .slice _ _::_,_,_,_,h,_,_=>by simp [qZ] at h
 | .dg::_,_,_,_,h,_,_=>by simp [qZ] at h
 | .R2::_,_,_,_,h,_,_=>by simp [qZ] at h
 | .ew::_,_,_,_,h,_,_=>by simp [qZ] at h
 | .nilIface::_,_,_,_,h,_,_=>by simp [qZ] at h
theorem Zc:∀l:List Data,(l.map λd=>[d]).flatten=l
 |[]=>rfl
 |d::l=>by simp [Zc l]
theorem JQ (a b:Data):(Mz a b).g C vs a/\(Mz a b).g C vs b:=by
 unfold Mz;split
 next k n k' n'=>
  split
  next hk=>
   have hk:k=k' :=of_decide_eq_true hk;subst hk;exact ⟨⟨_,rfl,V,V,trivial⟩,⟨_,rfl,V,V,trivial⟩⟩
  .simp [SD.g]
 .grind [SD.g]
 .exact ⟨⟨_,rfl,trivial⟩,⟨_,rfl,trivial⟩⟩
 next n cs m ds=>
  split
  next hc=>
   simp only [c7] at hc;have c1:=j5 hc.1;have c2:=j5 hc.2;split
   next k lo hi e=>
    have key:∀l:List Data,(∀d,d∈l->d∈cs++ds)->∀r,r∈l.map (λd=>[d])->L0.g C vs [.int k lo hi .no] r:=by
     intro l hl r hr;obtain ⟨d,hd,rfl⟩:=J4.1 hr;obtain ⟨q,rfl,h1,h2⟩:=Tc e d (hl d hd);exact ⟨_,_,rfl,⟨q,rfl,h1,h2,trivial⟩,rfl⟩
    exact ⟨⟨cs.map λd=>[d],by rw [Zc,A7,c1],by grind,by grind,(λi h=>by cases h),key cs λd h=>K8 _ h⟩,
     ⟨ds.map λd=>[d],by rw [Zc,A7,c2],by grind,by grind,(λi h=>by cases h),key ds λd h=>List.mem_append_right _ h⟩⟩
   .simp [SD.g]
  .simp [SD.g]
 .simp [SD.g]
theorem ag8 {x:SD}{a:Data}(b:Data)(h:x.g C vs a):(Xs x b).g C vs a:=by
 unfold Xs;split
 .grind [SD.g,JQ]
 .split
  .obtain ⟨m,rfl,h1,h2,_⟩:=h
   exact ⟨_,rfl,V,V,trivial⟩
  .simp [SD.g]
 .grind [SD.g]
 .obtain ⟨m,rfl,h1⟩:=h
  exact ⟨_,rfl,trivial⟩
 .simp [SD.g]
def ag9 (x:SD)(b:Data):(Xs x b).g C vs b:=by
 unfold Xs;split
 .split
  .grind [SD.g,Jz]
  .exact (JQ _ _).2
 next k lo hi r k' n=>
  split
  next hk=>
   have hk:k=k' :=of_decide_eq_true hk;subst hk;exact ⟨_,rfl,V,V,trivial⟩
  .simp [SD.g]
 .grind [SD.g]
 .exact ⟨_,rfl,trivial⟩
 .simp [SD.g]
theorem ag0:∀{x:List SD} {a b:List Data},L0.g C vs x a->O a=O b->L0.g C vs (zk x b) a
 |[],_,_,h,hl=>by simp_all [L0.g,zk]
 |x::xs,_,b,h,hl=>by
  obtain ⟨d,ds,rfl,h1,h2⟩:=h;cases b with
  |nil=>simp at hl
  |cons b bs=>exact ⟨_,_,rfl,ag8 b h1,ag0 h2 M⟩
theorem ag1:∀{x:List SD} {b:List Data},O x=O b->L0.g C vs (zk x b) b
 |[],[],_=>by rfl
 |[],_::_,h=>by simp at h
 |_::_,[],h=>by simp at h
 |x::xs,b::bs,h=>by exact ⟨_,_,rfl,ag9 x b,ag1 (by simpa using h)⟩
theorem Nv:∀(x:List SD) (b:List Data),O x=O b->O (zk x b)=O x
 |[],[],_=>rfl
 |[],_::_,h=>by simp at h
 |_::_,[],h=>by simp at h
 |x::xs,b::bs,h=>by simp [zk,p8];rw [Nv xs bs (by simpa using h)]
theorem ZV:∀(r:List Data),L0.g C vs (r.map .lit) r
 |[]=>by simp [L0.g]
 |d::r=>by exact ⟨_,_,rfl,rfl,ZV r⟩
theorem BN {sz:Nat}:∀(rs:List (List Data)) (x:List SD),O x=sz->(∀r,r∈rs->O r=sz)->(∀a,O a=sz->L0.g C vs x a->L0.g C vs (rs.foldl zk x) a)/\(∀r,r∈rs->L0.g C vs (rs.foldl zk x) r)/\O (rs.foldl zk x)=sz
 |[],x,hx,_=>⟨λa _ h=>h,U,hx⟩
 |r::rs,x,hx,hr=>by
  have hl:O (zk x r)=sz:=by simp_all [Nv]
  obtain ⟨h1,h2,h3⟩:=BN rs (zk x r) hl (λr' h=>hr r' (by simp [h]));simp_all [ag0,B6,ag1]
theorem fO {sz:Nat}:∀(n:Nat) (cs:List Data),O cs=n * sz->(rowsOf sz n cs).flatten=cs/\O (rowsOf sz n cs)=n/\∀r,r∈rowsOf sz n cs->O r=sz
 |0,cs,h=>by simp_all [rowsOf]
 |n+1,cs,h=>by
  rw [Nat.succ_mul] at h;obtain ⟨h1,h2,h3⟩:=fO (sz:=sz) n (cs.drop sz) D;simp_all [rowsOf,B6]
def Tz {sz:Nat}{rs:List (List Data)}(hr:∀r,r∈rs->O r=sz):(∀r,r∈rs->L0.g C vs (Nx sz rs) r)/\O (Nx sz rs)=sz:=by
 cases rs with
 |nil=>simp_all [Nx]
 |cons r rs =>
  obtain ⟨h1,h2,h3⟩:=BN (C:=C) (vs:=vs) rs (r.map .lit) M (λr' h=>hr r' (by simp [h]));refine ⟨λr' h=>?_,h3⟩
  rcases B6.1 h with rfl|h
  .exact h1 _ (hr _ U) (ZV _)
  .exact h2 _ h
theorem SD.gM (hB:Bg vs i7){sz:Nat}:∀{x:SD} {d:Data} {v:Option Nat} {lo hi:Nat} {row:List SD},x.slice? i7 sz=J (v,lo,hi,row)->x.g C vs d ->
  O row=sz/\∃rows:List (List Data),d= .slice (O rows) rows.flatten/\lo<=O rows/\O rows<=hi/\(∀i,v=J i->vs[i]? =J (O rows))/\∀r,r∈rows->L0.g C vs row r
 | .lit x,_,_,_,_,_,h,hg=>by
  cases x<;>simp only [SD.slice?,reduceCtorEq] at h;rename_i n cells;split at h
  next hc=>
   have hc:=j5 hc;simp [Option.some.injEq] at h;subst hg;obtain ⟨h1,h2,h3⟩:=fO n cells hc;obtain ⟨h4,h5⟩:=Tz (C:=C) (vs:=vs) h3
   grind
  .cases h
 | .slice v' lo' hi' row',_,_,_,_,_,h,hg=>by
  simp only [SD.slice?] at h;split at h
  next hc=>
   have hc:=j5 hc;obtain ⟨rows,rfl,h1,h2,h3,h4⟩:=hg;have:=aH8 hB h1 h2 h3
   grind
  .cases h
 | .pr _ x,_,_,_,_,_,h,hg=>by
  simp [SD.slice?] at h;exact SD.gM hB h hg.2
 | .top,_,_,_,_,_,h,_=>by simp [SD.slice?] at h
 | .str _,_,_,_,_,_,h,_=>by simp [SD.slice?] at h
 | .bool _,_,_,_,_,_,h,_=>by simp [SD.slice?] at h
 | .anyI _,_,_,_,_,_,h,_=>by simp [SD.slice?] at h
 | .int ..,_,_,_,_,_,h,_=>by simp [SD.slice?] at h
end
def Rel.le:Rel->Rel->Bool
 |_,.no=>W
 | .eq i,.eq j=>u5 i j
 | .lt i,.lt j=>u5 i j
 |_,_=>F
theorem Rel.dM {vs:List Nat}{r s:Rel}{n:Int}(h:r.le s=W)(hr:r.g vs n):s.g vs n:=by
 cases r<;>cases s<;>simp [Rel.le] at h<;>first
  |trivial
  |simp_all
def iLe (a b:Int):Bool:=decide (a<=b)
mutual
def SD.le (i7:jU)(x:SD):SD->Bool
 | .top=>W
 | .lit b=>match x with
  | .lit a=>Jy a b
  |_=>F
 | .bool .vQ=>match x.bool? with
  |some _=>W
  |none=>F
 | .bool _=>F
 | .int k lo hi r=>match x.int? i7 with
  |some (k',a,b,s)=>Ya k' k&&iLe lo a&&iLe b hi&&s.le r
  |none=>F
 | .anyI k=>match x.kind? with
  |some k' =>Ya k' k
  |none=>F
 | .str m=>match x.xz with
  |some (m',_)=>F3 m' m
  |none=>F
 | .slice K lo hi row=>match x.slice? i7 (O row) with
  |some (_,a,b,row')=>F3 lo a&&F3 b hi&&(u5 b 0||L0.le i7 row' row)
  |none=>F
 | .slice (J i) lo hi row=>match x with
  | .slice (J j) lo' hi' row' =>u5 i j&&F3 lo lo' &&F3 hi' hi&&L0.le i7 row' row
  |_=>F
 | .pr k y=>match x with
  | .pr k' _=>u5 k k' &&SD.le i7 x y
  |_=>F
def L0.le (i7:jU)(xs:List SD):List SD->Bool
 |[]=>xs.isEmpty
 |y::ys=>match xs with
  |x::xs=>SD.le i7 x y&&L0.le i7 xs ys
  |[]=>F
end
section
variable {C:Ctx} {vs:List Nat} {i7:jU} (hB:Bg vs i7)
include hB
mutual
theorem SD.dM:∀(y:SD) {x:SD} {d:Data},SD.le i7 x y=W->x.g C vs d->y.g C vs d
 | .top,_,_,_,_=>by simp [SD.g]
 | .lit b,x,_,h,hx=>by
  simp [SD.le] at h
  grind [SD.g,Jz]
 | .bool c,x,_,h,hx=>by
  cases c with
  |cmp i n pol=>simp [SD.le] at h
  |vQ =>
   simp [SD.le] at h;split at h
   next c hc=>
    obtain ⟨b,h1,_⟩:=SD.gw hc hx;exact ⟨b,h1,trivial⟩
   .cases h
 | .int k lo hi r,x,_,h,hx=>by
  simp [SD.le] at h;split at h
  next k' a b s hc=>
   simp [c7,iLe] at h;obtain ⟨n,h1,h2,h3,h4⟩:=SD.kR hB hc hx;have hk:k' =k:=of_decide_eq_true h.1.1.1
   grind [SD.g,Rel.dM]
  .cases h
 | .anyI k,x,_,h,hx=>by
  simp [SD.le] at h;split at h
  next k' hc=>
   have hk:k' =k:=of_decide_eq_true h
   grind [SD.g,SD.BQ]
  .cases h
 | .str m,x,_,h,hx=>by
  simp [SD.le] at h;split at h
  next m' e hc=>
   obtain ⟨s,h1,h2,_⟩:=SD.zA hc hx;simp_all [SD.g]<;>omega
  .cases h
 | .slice K lo hi row,x,_,h,hx=>by
  simp [SD.le] at h;split at h
  next v a b row' hc=>
   simp only [c7,Bool.or_eq_true] at h;obtain ⟨e,rows,h1,h2,h3,h4,h5⟩:=SD.gM hB hc hx;have l1:=j9 h.1.1;have l2:=j9 h.1.2;refine ⟨rows,h1,V,V,(λi e=>by cases e),λr hr=>?_⟩
   rcases h.2 with h0|h0
   .simp_all
   .exact L0.dM row h0 (h5 r hr)
  .cases h
 | .slice (J i) lo hi row,x,_,h,hx=>by
  simp [SD.le] at h;split at h
  .simp only [c7] at h
   have l0:=j5 h.1.1.1;have l1:=j9 h.1.1.2;have l2:=j9 h.1.2;subst l0;obtain ⟨rows,h1,h2,h3,h4,h5⟩:=hx;exact ⟨rows,h1,V,V,h4,λr hr=>L0.dM row h.2 (h5 r hr)⟩
  .cases h
 | .pr k y,x,_,h,hx=>by
  simp [SD.le] at h;split at h
  .simp only [c7] at h
   have l0:=j5 h.1;have h6:=SD.dM y h.2 hx;simp_all [SD.g]
  .cases h
theorem L0.dM:∀(y:List SD) {x:List SD} {d:List Data},L0.le i7 x y=W->L0.g C vs x d->L0.g C vs y d
 |[],x,_,h,hx=>by
  simp_all [L0.le]
 |y::ys,x,_,h,hx=>by
  simp [L0.le] at h;cases x with
  |nil=>cases h
  |cons x xs =>
   simp [c7] at h;obtain ⟨d,ds,rfl,h1,h2⟩:=hx;exact ⟨d,ds,rfl,SD.dM y h.1 h1,L0.dM ys h.2 h2⟩
end
end
def SV.K7:SV->SV
 | .own _ x=> .d x
 | .P9=> .d (.lit (.slice 0 []))
 | .q x=> .d x
 |v=>v
def SV.one:SV->Bool
 | .top=>F
 | .any=>F
 | .agg _ _=>F
 | .tuple _=>F
 |_=>W
def SV.cells? :SV->Option (List SV)
 | .agg _ l=>if l.all SV.one then J l else K
 |v=>if v.one then J [v] else K
def SV.tag:SV->Option Nat
 | .agg p _=>p
 |_=>K
def SV.data? :SV->Option SD
 | .d x=>J x
 | .own _ x=>J x
 | .P9=>J (.lit (.slice 0 []))
 | .q x=>J x
 |_=>K
def mA :List SV->Option (List SD)
 |[]=>J []
 |v::vs=>match v.data? with
  |some x=>match mA vs with
   |some xs=>J (x::xs)
   |none=>K
  |none=>K
def ofA:c8->SV
 | .any=> .any
 | .d x=> .d (.lit x)
 | .own z len cells=> .own z (.lit (.slice len cells))
 | .P9=> .P9
 | .ptr a b=> .ptr a b
 | .B8 a b c e=> .B8 a b c e
 |_=> .top
def dx (T L:List SV):y7->SV
 | .loc j=>(L.getD j .any).K7
 | .slot s=>(T.getD s .any).K7
 | .const v=>ofA v.Wk
section
variable {C:Ctx} {vs:List Nat}
theorem SV.tV {x:SV}{v:c8}(h:x.g C vs v):x.K7.g C vs v.K7:=by
 cases x with
 |own sz x=>simp only [SV.g] at h;obtain ⟨len,cells,rfl,h1⟩:=h;simp only [SV.K7,c8.K7,SV.g];exact ⟨_,rfl,h1⟩
 |P9=>simp only [SV.g] at h;subst h;simp only [SV.K7,c8.K7,SV.g,SD.g];exact ⟨_,rfl,rfl⟩
 |top=>simp [SV.K7,SV.g]
 |any=>simp only [SV.g] at h;subst h;simp [SV.K7,c8.K7,SV.g]
 |d x=>have h' :=h;simp only [SV.g] at h;obtain ⟨y,rfl,h1⟩:=h;exact h'
 |ptr a b=>have h' :=h;simp only [SV.g] at h;subst h;exact h'
 |U9 a=>have h' :=h;simp only [SV.g] at h;obtain ⟨a,b,rfl,_⟩:=h;exact h'
 |B8 a b c e=>have h' :=h;simp only [SV.g] at h;subst h;exact h'
 |wp a b c e=>have h' :=h;simp only [SV.g] at h;obtain ⟨_,_,rfl⟩:=h;exact h'
 |agg p l=>have h' :=h;simp only [SV.g] at h;obtain ⟨cs,rfl,_⟩:=h;exact h'
 |tuple l=>have h' :=h;simp only [SV.g] at h;obtain ⟨cs,rfl,_⟩:=h;exact h'
 |bn k =>
  simp only [SV.g] at h;simp only [SV.K7,SV.g];cases v<;>simp_all [c8.K7,c8.L7,c8.one]
 |q x =>
  simp only [SV.g] at h;obtain ⟨y,h1,h2⟩:=h;simp only [SV.K7,h1,SV.g];exact ⟨_,rfl,h2⟩
def SV.DY {x:SV}{v:c8}(h:x.g C vs v)(h1:x.one=W):v.one=W:=by
 cases x<;>simp only [SV.one,j4] at h1<;>simp only [SV.g] at h
 .obtain ⟨y,rfl,_⟩:=h;rfl
 .obtain ⟨a,b,rfl,_⟩:=h;rfl
 .subst h;rfl
 .subst h;rfl
 .obtain ⟨a,b,rfl,_⟩:=h;rfl
 .subst h;rfl
 .exact h.2
 .obtain ⟨y,h1,_⟩:=h;cases v<;>simp only [c8.K7,reduceCtorEq] at h1<;>rfl
 .obtain ⟨_,_,rfl⟩:=h;rfl
theorem z8.DY:∀{x:List SV} {v:List c8},z8.g C vs x v->x.all SV.one=W->v.all c8.one=W
 |[],_,h,_=>by simp_all [z8.g]
 |x::xs,_,h,h1=>by
  obtain ⟨d,ds,rfl,h2,h3⟩:=h;simp only [List.all_cons,c7] at h1 ⊢;exact ⟨SV.DY h2 h1.1,z8.DY h3 h1.2⟩
def SV.BI {x:SV}{v:c8}{l:List SV}(h:x.g C vs v)(h1:x.cells? =J l):∃cs,v.cells? =J cs/\z8.g C vs l cs/\∀k,x.tag=J k->C.Θ k (cs.map c8.K7):=by
 cases x with
 |agg p l' =>
  simp only [SV.cells?] at h1;split at h1
  next h2=>
   cases h1;obtain ⟨cs,rfl,h3,h4⟩:=h;exact ⟨cs,by simp [c8.cells?,z8.DY h3 h2],h3,h4⟩
  .cases h1
 |_ =>
  simp only [SV.cells?] at h1;split at h1
  next h2=>
   cases h1;have h3:=SV.DY h h2;refine ⟨[v],?_,by simp_all [z8.g],λk h=>by cases h⟩;simp_all [c8.one,c8.cells?]<;>grind
  .cases h1
def SV.Qs {x:SV}{v:c8}{y:SD}(h:x.g C vs v)(h1:x.data? =J y):∃d,v.data? =J d/\y.g C vs d:=by
 cases x<;>simp [SV.data?,reduceCtorEq,Option.some.injEq] at h1<;>subst h1<;>simp [SV.g] at h
 .obtain ⟨d,rfl,h2⟩:=h;exact ⟨d,rfl,h2⟩
 .obtain ⟨a,b,rfl,h2⟩:=h;exact ⟨_,rfl,h2⟩
 .subst h;exact ⟨_,rfl,by simp [SD.g]⟩
 .obtain ⟨d,h1,h2⟩:=h
  cases v<;>simp [c8.K7,reduceCtorEq,c8.d.injEq] at h1<;>subst h1<;>exact ⟨_,rfl,h2⟩
theorem rQ:∀{x:List SV} {v:List c8} {y:List SD},z8.g C vs x v->mA x=J y->∃d,P7 v=J d/\L0.g C vs y d
 |[],_,_,h,h1=>by subst h;simp [mA,Option.some.injEq] at h1;subst h1;exact ⟨[],rfl,by simp [L0.g]⟩
 |x::xs,_,_,h,h1=>by
  obtain ⟨d,ds,rfl,h2,h3⟩:=h;simp [mA] at h1;split at h1
  next a ha=>
   split at h1
   next as has=>
    simp [Option.some.injEq] at h1;obtain ⟨e,e1,e2⟩:=SV.Qs h2 ha;obtain ⟨es,e3,e4⟩:=rQ h3 has
    grind [P7,L0.g]
   .cases h1
  .cases h1
def ab4 (v:c8):(ofA v).g C vs v:=by
 cases v<;>simp [ofA,SV.g,SD.g]
def Zl {x:List SV}{v:List c8}(h:z8.g C vs x v)(j:Nat):(x.getD j .any).g C vs (v.getD j .any):=by
 grind [z8.none,SV.g,z8.get]
def KA {T L:List SV}{T' L' :List c8}(hT:z8.g C vs T T')(hL:z8.g C vs L L')(x:y7):(dx T L x).g C vs (K4 T' L' x):=by
 cases x with
 |loc j=>exact SV.tV (Zl hL j)
 |slot j=>exact SV.tV (Zl hT j)
 |const v=>exact ab4 _
end
def srd (H:List SO)(id off n:Nat):Option (List SV):=match H[id]? with
 |some (.cells _ l)=>if F3 (off+n) (O l) then J ((l.drop off).take n) else K
 |_=>K
def Ci (l:List SV)(off:Nat)(vs:List SV):List SV:=l.take off++vs++l.drop (off+O vs)
def swr (H:List SO)(id off:Nat)(p:Option Nat)(vs:List SV):Option (List SO):=match H[id]? with
 |some (.cells _ l)=>if F3 (off+O vs) (O l) then J (H.set id (.cells (if u5 off 0&&u5 (O vs) (O l) then p else K) (Ci l off vs))) else K
 |_=>K
section
variable {C:Ctx} {vs:List Nat}
theorem HO {H:List SO}{H' :q6}{id off n:Nat}{l:List SV}(h:L4.g C vs H H')(h1:srd H id off n=J l):∃cs,rd H' id off n=J cs/\z8.g C vs l cs:=by
 unfold srd at h1;split at h1
 next p l' hl=>
  split at h1
  .cases h1
   obtain ⟨o,h2,h3⟩:=L4.get h hl;obtain ⟨cs,rfl,h4,_⟩:=h3;refine ⟨(cs.drop off).take n,?_,z8.take (z8.drop h4 off) n⟩;have:=z8.len h4;simp_all [rd,if_pos]
  .cases h1
 .cases h1
def HS {l vl:List SV}{l' vl' :List c8}(off:Nat)(h:z8.g C vs l l')(h1:z8.g C vs vl vl'):z8.g C vs (Ci l off vl) (splice l' off vl'):=by
 grind [Ci,splice,z8.len,z8.app,z8.take,z8.drop]
def bC3 {H H2:List SO}{H' :q6}{id off:Nat}{p:Option Nat}{vl:List SV}{cs:List c8}(h:L4.g C vs H H')(hv:z8.g C vs vl cs)(hp:∀k,p=J k->C.Θ k (cs.map c8.K7))(h1:swr H id off p vl=J H2) :
  ∃H3,wr H' id off cs=J H3/\L4.g C vs H2 H3:=by
 unfold swr at h1;split at h1
 next p' l hl=>
  split at h1
  .cases h1
   obtain ⟨o,h2,h3⟩:=L4.get h hl;obtain ⟨cs',rfl,h4,_⟩:=h3;have e1:=z8.len h4;have e2:=z8.len hv;refine ⟨H'.set id (.cells (splice cs' off cs)),?_,L4.set h id ⟨_,rfl,HS off h4 hv,?_⟩⟩
   .simp_all [wr,if_pos]
   simp_all [c7,j5,splice,n9]
  .cases h1
 .cases h1
end
def Em (cells:List SV):List (Nat×Nat×SV)->Option (List SV)
 |[]=>J cells
 |(off,sz,v)::rest=>match v.cells? with
  |some l=>if u5 (O l) sz&&F3 (off+sz) (O cells) then Em (Ci cells off l) rest else K
  |none=>K
inductive Yj (C:Ctx) (vs:List Nat):List (Nat×Nat×SV)->List (Nat×Nat×c8)->Prop where
 |nil:Yj C vs [] []
 |cons {o s:Nat} {x:SV} {a:c8} {r r'}:x.g C vs a->Yj C vs r r' ->Yj C vs ((o,s,x)::r) ((o,s,a)::r')
theorem Cc {C:Ctx}{vs:List Nat}:∀{ps:List (Nat×Nat×SV)} {qs:List (Nat×Nat×c8)} {cells l:List SV} {cs:List c8},Yj C vs ps qs->z8.g C vs cells cs->Em cells ps=J l->∃ds,cS cs qs=J ds/\z8.g C vs l ds
 |[],_,_,_,cs,hp,hc,h=>by
  cases hp;simp [Em,Option.some.injEq] at h;subst h;exact ⟨cs,rfl,hc⟩
 |(o,s,x)::r,_,_,_,cs,hp,hc,h=>by
  cases hp with
  |cons hx hr =>
   simp [Em] at h;split at h
   next l' hl=>
    split at h
    .obtain ⟨ds,h1,h2,_⟩:=SV.BI hx hl
     have e1:=z8.len h2;have e2:=z8.len hc;obtain ⟨es,h3,h4⟩:=Cc hr (HS o hc h2) h;simp_all [cS,if_pos]
    .cases h
   .cases h
theorem wX {C:Ctx}{vs:List Nat}{σ:y7->SV}{ρ:y7->c8}(hρ:∀x,(σ x).g C vs (ρ x)):∀(parts:List (Nat×Nat×y7)),Yj C vs (parts.map λ(o,s,x)=>(o,s,σ x)) (parts.map λ(o,s,x)=>(o,s,ρ x))
 |[]=> .nil
 |(_,_,x)::r=> .cons (hρ x) (wX hρ r)
theorem DX {C:Ctx}{vs:List Nat}:∀l:List c8,z8.g C vs (l.map ofA) l
 |[]=>by simp [z8.g]
 |a::l=>by exact ⟨_,_,rfl,ab4 a,DX l⟩
def mn:Int:= -9223372036854775808
def mx:Int:=9223372036854775807
def isI (k:IntKind):Bool:=Ya k .i64
def SB.not:SB->SB
 | .vQ=> .vQ
 | .cmp i n p=> .cmp i n (!p)
def sLt:Int×Int×Rel->Int×Int×Rel->SD
 |(l1,h1,r1),(l2,h2,r2) =>
  if decide (h1<l2) then .lit (.bool W) else if decide (h2<=l1) then .lit (.bool F) else
  match r2,r1 with
  | .eq i,_=>if decide (l1=h1)&&decide (0<=l1) then .bool (.cmp i l1.toNat W) else .bool .vQ
  |_,.eq i=>if decide (l2=h2)&&decide (1<=l2) then .bool (.cmp i (l2 - 1).toNat F) else .bool .vQ
  |_,_=> .bool .vQ
def SD.neg:SD->SD
 | .lit (.bool b)=> .lit (.bool (!b))
 | .bool c=> .bool c.not
 |_=> .top
def sEq:Int×Int×Rel->Int×Int×Rel->SD
 |(l1,h1,r1),(l2,h2,r2) =>
  if decide (h1<l2)||decide (h2<l1) then .lit (.bool F) else if decide (l1=h1)&&decide (l2=h2)&&decide (l1=l2) then .lit (.bool W) else
  match r1,r2 with
  | .eq i,_=>if decide (l2=h2)&&decide (l2=0) then .bool (.cmp i 0 F) else .bool .vQ
  |_,.eq i=>if decide (l1=h1)&&decide (l1=0) then .bool (.cmp i 0 F) else .bool .vQ
  |_,_=> .bool .vQ
def rng (k:IntKind)(lo hi:Int)(r:Rel):Option SD:=if isI k&&decide (mn<=lo)&&decide (hi<=mx) then J (if decide (lo=hi) then .lit (.int k lo) else .int k lo hi r) else K
def TB (op:BinOp)(k:IntKind)(a b:Int×Int×Rel):Option SD :=
 match op with
 | .add=>rng k (a.1+b.1) (a.2.1+b.2.1) .no
 | .sub=>rng k (a.1 - b.2.1) (a.2.1 - b.1) .no
 | .mul=>if decide (0<=a.1)&&decide (0<=b.1) then rng k 0 (a.2.1 * b.2.1) .no else K
 | .quo=>if decide (0<=a.1)&&decide (b.1=b.2.1)&&decide (1<=b.1) then rng k (a.1.tdiv b.1) (a.2.1.tdiv b.1) .no else K
 | .rem=>if decide (1<=b.1) then (if decide (0<=a.1) then rng k 0 (min a.2.1 (b.2.1 - 1)) (match b.2.2 with| .eq i=> .lt i|_=> .no) else rng k (1 - b.2.1) (b.2.1 - 1) .no) else K
 | .eql=>J (sEq a b)
 | .neq=>J (sEq a b).neg
 | .lss=>J (sLt a b)
 | .gtr=>J (sLt b a)
 | .leq=>J (sLt b a).neg
 | .geq=>J (sLt a b).neg
 |_=>K
def ag3 (op:BinOp)(a b:Nat×Option (List UInt8)):Option SD :=
 match op with
 | .add=>if F3 (a.1+b.1) 4000000000 then (match a.2,b.2 with
  |some s,J t=>J (.lit (.str (s++t)))
  |_,_=>J (.str (a.1+b.1))) else K
 | .eql=>match a.2,b.2 with
  |some s,J t=>J (.lit (.bool (s==t)))
  |_,_=>J (.bool .vQ)
 | .neq=>match a.2,b.2 with
  |some s,J t=>J (.lit (.bool (!(s==t))))
  |_,_=>J (.bool .vQ)
 |_=>K
def bc6 (i7:jU)(op:BinOp)(x y:SD):Option SD :=
 match x.int? i7,y.int? i7 with
 |some (k,a),J (k',b)=>if Ya k k' then TB op k a b else K
 |_,_=>match x.xz,y.xz with
  |some a,J b=>ag3 op a b
  |_,_=>K
section
variable {C:Ctx} {vs:List Nat} {i7:jU}
def HA {k:IntKind}{lo hi:Int}{r:Rel}{x:SD}{n:Int}(h:rng k lo hi r=J x)(h1:lo<=n)(h2:n<=hi)(h3:r.g vs n):x.g C vs (.int k (k.wrap n))/\k.wrap n=n:=by
 unfold rng at h;split at h
 next hc=>
  simp [c7,decide_eq_true_eq] at hc;have e1:mn= -9223372036854775808:=rfl;have e2:mx=9223372036854775807:=rfl;have hk:k= .i64:=of_decide_eq_true hc.1.1;have e:IntKind.wrap .i64 n=n:=wrap_small V V
  grind [SD.g]
 .cases h
theorem Tn {x:SD}{b:Bool}(h:x.g C vs (.bool b)):x.neg.g C vs (.bool (!b)):=by
 unfold SD.neg;split
 .simp_all [SD.g,Data.bool.injEq]
 next c=>
  obtain ⟨b',h1,h2⟩:=h;refine ⟨_,rfl,?_⟩;cases c with
  |vQ=>trivial
  |cmp i n p =>
   obtain ⟨m,e1,e2⟩:=h2;refine ⟨m,e1,?_⟩
   grind
 .simp [SD.g]
theorem TC {a b:Int×Int×Rel}{n m:Int}(h1:a.1<=n)(h2:n<=a.2.1)(h3:a.2.2.g vs n)(k1:b.1<=m)(k2:m<=b.2.1)(k3:b.2.2.g vs m):(sLt a b).g C vs (.bool (decide (n<m))):=by
 obtain ⟨l1,u1,r1⟩:=a;obtain ⟨l2,u2,r2⟩:=b;simp [sLt];split
 .grind [SD.g]
 .split
  .grind [SD.g]
  .split
   .split
    .obtain ⟨q,e1,e2⟩:=k3
     refine ⟨_,rfl,q,e1,?_⟩
     grind
    .exact ⟨_,rfl,trivial⟩
   .split
    .obtain ⟨q,e1,e2⟩:=h3
     refine ⟨_,rfl,q,e1,?_⟩
     grind
    .exact ⟨_,rfl,trivial⟩
   .exact ⟨_,rfl,trivial⟩
theorem aN9 {a b:Int×Int×Rel}{n m:Int}(h1:a.1<=n)(h2:n<=a.2.1)(h3:a.2.2.g vs n)(k1:b.1<=m)(k2:m<=b.2.1)(k3:b.2.2.g vs m):(sEq a b).g C vs (.bool (n==m)):=by
 obtain ⟨l1,u1,r1⟩:=a;obtain ⟨l2,u2,r2⟩:=b;simp [sEq];split
 .simp_all [SD.g]<;>omega
 .split
  .grind [SD.g]
  .split
   .split
    .obtain ⟨q,e1,e2⟩:=h3
     refine ⟨_,rfl,q,e1,?_⟩
     grind
    .exact ⟨_,rfl,trivial⟩
   .split
    .obtain ⟨q,e1,e2⟩:=k3
     refine ⟨_,rfl,q,e1,?_⟩
     grind
    .exact ⟨_,rfl,trivial⟩
   .exact ⟨_,rfl,trivial⟩
def HX {a b c:Int}(h0:0<=a)(h:a<=b)(hc:1<=c):a.tdiv c<=b.tdiv c:=by
 rw [Int.tdiv_eq_ediv_of_nonneg h0,Int.tdiv_eq_ediv_of_nonneg V];exact Int.ediv_le_ediv V h
def aD5 {op:BinOp}{k:IntKind}{a b:Int×Int×Rel}{n m:Int}{x:SD}(h1:a.1<=n)(h2:n<=a.2.1)(h3:a.2.2.g vs n)(k1:b.1<=m)(k2:m<=b.2.1)(k3:b.2.2.g vs m)(h:TB op k a b=J x) :
  ∃d,cZ op k n m=J d/\x.g C vs d:=by
 cases op<;>simp only [TB,reduceCtorEq,Option.some.injEq] at h<;>simp only [cZ]
 case add=>exact ⟨_,rfl,(HA h V V trivial).1⟩
 case sub=>exact ⟨_,rfl,(HA h V V trivial).1⟩
 case mul =>
  split at h
  next hc=>
   simp [c7,decide_eq_true_eq] at hc;exact ⟨_,rfl,(HA h (Int.mul_nonneg V V) (Int.mul_le_mul V V V V) trivial).1⟩
  .cases h
 case quo =>
  split at h
  next hc=>
   simp [c7,decide_eq_true_eq] at hc;have hm:m=b.1:=V
   subst hm;rw [if_neg V];exact ⟨_,rfl,(HA h (HX V V V) (HX V V V) trivial).1⟩
  .cases h
 case rem =>
  split at h
  next hc=>
   simp [decide_eq_true_eq] at hc;have hm:0<m:=V
   have hlt:=Int.tmod_lt_of_pos n hm;split at h
   next qn=>
    simp [decide_eq_true_eq] at qn;have h0:=Int.tmod_nonneg (a:=n) m V;have hle:n.tmod m<=n:=by
     by_cases hl:n<m
     .rw [Int.tmod_eq_of_lt V hl]
      omega
     .omega
    have:=(HA (C:=C) (vs:=vs) (n:=n.tmod m) h h0 V (by
     split
     next i hi=>
      rw [hi] at k3;obtain ⟨q,e1,e2⟩:=k3;exact ⟨q,e1,h0,V⟩
     .trivial))
    grind
   .have hge: -m<n.tmod m:=by
     by_cases hn:n<0
     .have e:n.tmod m= -((-n).tmod m):=M
      have:=Int.tmod_lt_of_pos (-n) hm;omega
     .have:=Int.tmod_nonneg (a:=n) m V
      omega
    have:=(HA (C:=C) (vs:=vs) (n:=n.tmod m) h V V trivial)
    grind
  .cases h
 case eql=>grind [aN9]
 case neq=>grind [Tn,aN9]
 case lss=>grind [TC]
 case gtr=>subst h;simp_all [TC]
 case leq =>
  have:=Tn (TC (C:=C) k1 k2 k3 h1 h2 h3)
  grind [decide_not,decide]
 case geq =>
  have:=Tn (TC (C:=C) h1 h2 h3 k1 k2 k3)
  grind [decide_not,decide]
def aD6 {op:BinOp}{a b:Nat×Option (List UInt8)}{s t:List UInt8}{x:SD}(h1:O s<=a.1)(h2:∀u,a.2=J u->s=u)(k1:O t<=b.1)(k2:∀u,b.2=J u->t=u)(h:ag3 op a b=J x) :
  ∃d,yq op s t=J d/\x.g C vs d:=by
 cases op<;>simp only [ag3,reduceCtorEq] at h<;>simp only [yq]
 case add =>
  split at h
  next hc=>
   have hc:=j9 hc;rw [if_pos V]
   grind [SD.g]
  .cases h
 case eql =>
  refine ⟨_,rfl,?_⟩;split at h
  .grind [SD.g]
  .cases h
   exact ⟨_,rfl,trivial⟩
 case neq =>
  refine ⟨_,rfl,?_⟩;split at h
  .grind [SD.g]
  .cases h
   exact ⟨_,rfl,trivial⟩
def bc7 (hB:Bg vs i7){op:BinOp}{x y z:SD}{a b:Data}(hx:x.g C vs a)(hy:y.g C vs b)(h:bc6 i7 op x y=J z):∃d,Q9 op a b=J d/\z.g C vs d:=by
 unfold bc6 at h;split at h
 next k p k' q hp hq=>
  split at h
  next hk=>
   have hk:k=k' :=of_decide_eq_true hk;obtain ⟨n,rfl,h1,h2,h3⟩:=SD.kR hB hp hx;obtain ⟨m,rfl,k1,k2,k3⟩:=SD.kR hB hq hy;obtain ⟨d,e1,e2⟩:=aD5 (C:=C) (vs:=vs) h1 h2 h3 k1 k2 k3 h;simp_all [aT,TB,Q9]<;>grind
  .cases h
 .split at h
  next p q hp hq=>
   obtain ⟨p1,p2⟩:=p;obtain ⟨q1,q2⟩:=q;obtain ⟨s,rfl,h1,h2⟩:=SD.zA hp hx;obtain ⟨t,rfl,k1,k2⟩:=SD.zA hq hy;obtain ⟨d,e1,e2⟩:=aD6 (C:=C) (vs:=vs) (a:=(p1,p2)) (b:=(q1,q2)) h1 h2 k1 k2 h;simp_all [Q9]
  .cases h
end
def SB.join:SB->SB->SB
 | .cmp i n p,.cmp j m q=>if u5 i j&&u5 n m&&(p==q) then .cmp i n p else .vQ
 |_,_=> .vQ
def Oh:Option Nat->Option Nat->Option Nat
 |some i,J j=>if u5 i j then J i else K
 |_,_=>K
def SD.strip:SD->SD
 | .pr _ x=>x.strip
 |x=>x
def Tj (a b:Data):SD:=match a,b with
 | .slice n cs,.slice m ds =>
  if u5 (O cs) (n * (if u5 n 0 then O ds / m else O cs / n))&&u5 (O ds) (m * (if u5 n 0 then O ds / m else O cs / n)) then
   .slice K (min n m) (max n m) (Nx (if u5 n 0 then O ds / m else O cs / n) (rowsOf (if u5 n 0 then O ds / m else O cs / n) n cs++rowsOf (if u5 n 0 then O ds / m else O cs / n) m ds))
  else .top
 |a,b=>Mz a b
def Gu (x:SD)(b:Data):SD:=match x,b with
 | .slice _ lo hi row,.slice n cells=>if u5 (O cells) (n * O row) then .slice K (min lo n) (max hi n) ((rowsOf (O row) n cells).foldl zk row) else .top
 | .anyI k,.int k' _=>if Ya k k' then .anyI k else .top
 |x,b=>Xs x b
mutual
def SD.join:SD->SD->SD
 | .lit a,y=>match y with
  | .lit b=>if Jy a b then .lit a else Tj a b
  |y=>Gu y.strip a
 | .pr k x,y=>match y with
  | .pr k' y' =>if u5 k k' then .pr k (x.join y') else x.join y'
  |y=>x.join y
 | .int k lo hi r,y=>match y.strip with
  | .lit b=>Gu (.int k lo hi r) b
  | .int k' lo' hi' r' =>if Ya k k' then .int k (min lo lo') (max hi hi') (r.join r') else .top
  | .anyI k' =>if Ya k k' then .anyI k else .top
  |_=> .top
 | .anyI k,y=>match y.strip with
  | .lit b=>Gu (.anyI k) b
  | .int k' _ _ _=>if Ya k k' then .anyI k else .top
  | .anyI k' =>if Ya k k' then .anyI k else .top
  |_=> .top
 | .str m,y=>match y.strip with
  | .lit b=>Gu (.str m) b
  | .str m' => .str (max m m')
  |_=> .top
 | .bool c,y=>match y.strip with
  | .lit b=>Gu (.bool c) b
  | .bool c' => .bool (c.join c')
  |_=> .top
 | .slice v lo hi row,y=>match y.strip with
  | .lit b=>Gu (.slice v lo hi row) b
  | .slice v' lo' hi' row' =>if u5 (O row) (O row') then .slice (Oh v v') (min lo lo') (max hi hi') (L0.join row row') else .top
  |_=> .top
 | .top,_=> .top
def L0.join:List SD->List SD->List SD
 |x::xs,y::ys=>x.join y::L0.join xs ys
 |_,_=>[]
end
section
variable {C:Ctx} {vs:List Nat}
theorem SD.qa:∀{x:SD} {d:Data},x.g C vs d->x.strip.g C vs d
 | .pr _ x,_,h=>by simp_all [SD.g,SD.strip,SD.qa]
 | .top,_,h=>h
 | .lit _,_,h=>h
 | .bool _,_,h=>h
 | .int ..,_,h=>h
 | .anyI _,_,h=>h
 | .str _,_,h=>h
 | .slice ..,_,h=>h
theorem Tl (a b:Data):(Tj a b).g C vs a/\(Tj a b).g C vs b:=by
 unfold Tj;split
 next n cs m ds=>
  generalize (if u5 n 0 then O ds / m else O cs / n)=sz;split
  next hc=>
   simp only [c7] at hc;have c1:=j5 hc.1;have c2:=j5 hc.2;obtain ⟨e1,e2,e3⟩:=fO n cs c1;obtain ⟨f1,f2,f3⟩:=fO m ds c2;obtain ⟨g1,_⟩:=Tz (C:=C) (vs:=vs) (sz:=sz) (rs:=rowsOf sz n cs++rowsOf sz m ds) (λr hr=>(D7.1 hr).elim (e3 r) (f3 r))
   grind [SD.g,K8,List.mem_append_right]
  .simp [SD.g]
 .exact JQ a b
theorem zo {x:SD}{a:Data}(b:Data)(h:x.g C vs a):(Gu x b).g C vs a:=by
 unfold Gu;split
 next v lo hi row n cells=>
  split
  next hc=>
   have hc:=j5 hc;simp [SD.g] at h ⊢;obtain ⟨e1,e2,e3⟩:=fO n cells hc;obtain ⟨f1,_,_⟩:=BN (C:=C) (vs:=vs) (rowsOf (O row) n cells) row rfl e3
   grind [L0.len]
  .simp [SD.g]
 all_goals grind [SD.g,ag8]
theorem zq (x:SD)(b:Data):(Gu x b).g C vs b:=by
 unfold Gu;split
 next v lo hi row n cells=>
  split
  next hc=>
   have hc:=j5 hc;simp [SD.g];obtain ⟨e1,e2,e3⟩:=fO n cells hc;obtain ⟨_,f2,_⟩:=BN (C:=C) (vs:=vs) (rowsOf (O row) n cells) row rfl e3
   grind
  .simp [SD.g]
 .split
  next k k' n hk=>
   have hk:k=k' :=of_decide_eq_true hk;simp_all [SD.g]
  .simp [SD.g]
 .exact ag9 _ b
theorem SB.W1 {a b:SB}{t:Bool}(h:a.g vs t):(a.join b).g vs t:=by
 unfold SB.join;split
 .split
  .exact h
  .trivial
 .trivial
theorem SB.W4 {a b:SB}{t:Bool}(h:b.g vs t):(a.join b).g vs t:=by
 unfold SB.join;split
 .split
  .simp_all
  .trivial
 .trivial
theorem Rel.W1 {a b:Rel}{t:Int}(h:a.g vs t):(a.join b).g vs t:=by
 unfold Rel.join;split
 .split
  .exact h
  .trivial
 .split
  .exact h
  .trivial
 .trivial
theorem Rel.W4 {a b:Rel}{t:Int}(h:b.g vs t):(a.join b).g vs t:=by
 unfold Rel.join;split
 .split
  .simp_all
  .trivial
 .split
  .simp_all
  .trivial
 .trivial
def aG4 {v w:Option Nat}{m:Nat}(h:∀i,v=J i->vs[i]? =J m):∀i,Oh v w=J i->vs[i]? =J m:=by
 simp_all [Oh]<;>grind
def aG5 {v w:Option Nat}{m:Nat}(h:∀i,w=J i->vs[i]? =J m):∀i,Oh v w=J i->vs[i]? =J m:=by
 simp_all [Oh]<;>grind
mutual
theorem SD.W1:∀(x y:SD) {d:Data},x.g C vs d->(x.join y).g C vs d
 | .lit a,y,_,h=>by
  simp [SD.join]
  grind [SD.g,Tl,zq]
 | .pr k x,y,_,h=>by
  simp [SD.join];split
  .split
   .exact ⟨h.1,SD.W1 x _ h.2⟩
   .exact SD.W1 x _ h.2
  .exact SD.W1 x _ h.2
 | .int k lo hi r,y,_,h=>by
  grind [SD.join,zo,SD.g,Rel.W1]
 | .anyI k,y,_,h=>by
  grind [SD.join,zo,SD.g]
 | .str m,y,_,h=>by
  grind [SD.join,zo,SD.g]
 | .bool c,y,_,h=>by
  grind [SD.join,zo,SD.g,SB.W1]
 | .slice v lo hi row,y,_,h=>by
  simp only [SD.join];split
  .exact zo _ h
  .split
   next hc=>
    have hc:=j5 hc;obtain ⟨rows,rfl,h1,h2,h3,h4⟩:=h;exact ⟨rows,rfl,V,V,aG4 h3,λr hr=>L0.W1 row _ hc (h4 r hr)⟩
   .simp [SD.g]
  .simp [SD.g]
 | .top,y,_,h=>by simp [SD.join,SD.g]
theorem L0.W1:∀(x y:List SD) {d:List Data},O x=O y->L0.g C vs x d->L0.g C vs (L0.join x y) d
 |[],[],_,_,h=>by grind [L0.join]
 |[],_::_,_,hl,h=>by simp at hl
 |_::_,[],_,hl,h=>by simp at hl
 |x::xs,y::ys,_,hl,h=>by
  obtain ⟨d,ds,rfl,h1,h2⟩:=h;exact ⟨_,_,rfl,SD.W1 x y h1,L0.W1 xs ys M h2⟩
end
mutual
theorem SD.W4:∀(x y:SD) {d:Data},y.g C vs d->(x.join y).g C vs d
 | .lit a,y,_,h=>by
  simp [SD.join];split
  .split
   .grind [Jz]
   simp_all [SD.g,Tl]
  .exact zo _ (SD.qa h)
 | .pr k x,y,_,h=>by
  simp only [SD.join];split
  .split
   next hc=>
    rw [j5 hc];exact ⟨h.1,SD.W4 x _ h.2⟩
   .exact SD.W4 x _ h.2
  .exact SD.W4 x _ h
 | .int k lo hi r,y,_,h=>by
  have h:=SD.qa h;simp [SD.join];split
  .simp_all [SD.g,zq]
  .split
   next hk=>
    have hk:=of_decide_eq_true hk
    grind [SD.g,Rel.W4]
   .simp [SD.g]
  .split
   next hk=>
    have hk:=of_decide_eq_true hk;simp_all
   .simp [SD.g]
  .simp [SD.g]
 | .anyI k,y,_,h=>by
  have h:=SD.qa h;simp [SD.join];split
  .simp_all [SD.g,zq]
  .split
   next hk=>
    have hk:=of_decide_eq_true hk
    grind [SD.g]
   .simp [SD.g]
  .split
   next hk=>
    have hk:=of_decide_eq_true hk;simp_all
   .simp [SD.g]
  .simp [SD.g]
 | .str m,y,_,h=>by
  have h:=SD.qa h
  grind [SD.join,SD.g,zq]
 | .bool c,y,_,h=>by
  have h:=SD.qa h
  grind [SD.join,SD.g,zq,SB.W4]
 | .slice v lo hi row,y,_,h=>by
  have h:=SD.qa h;simp only [SD.join];split
  .simp_all [SD.g,zq]
  next e=>
   rw [e] at h;split
   next hc=>
    have hc:=j5 hc;obtain ⟨rows,rfl,h1,h2,h3,h4⟩:=h;exact ⟨rows,rfl,V,V,aG5 h3,λr hr=>L0.W4 row _ hc (h4 r hr)⟩
   .simp [SD.g]
  .simp [SD.g]
 | .top,y,_,h=>by simp [SD.join,SD.g]
theorem L0.W4:∀(x y:List SD) {d:List Data},O x=O y->L0.g C vs y d->L0.g C vs (L0.join x y) d
 |[],[],_,_,h=>by grind [L0.join]
 |[],_::_,_,hl,h=>by simp at hl
 |_::_,[],_,hl,h=>by simp at hl
 |x::xs,y::ys,_,hl,h=>by
  obtain ⟨d,ds,rfl,h1,h2⟩:=h;exact ⟨_,_,rfl,SD.W4 x y h1,L0.W4 xs ys M h2⟩
end
theorem L0.Mu:∀(x y:List SD),O x=O y->O (L0.join x y)=O x
 |[],[],_=>rfl
 |[],_::_,h=>by simp at h
 |_::_,[],h=>by simp at h
 |x::xs,y::ys,h=>by simp_all [L0.join,p8,L0.Mu]
end
def AD (sz:Nat):Nat->List SD->List (List SD)
 |0,_=>[]
 |n+1,cs=>cs.take sz::AD sz n (cs.drop sz)
def ag4 (sz:Nat):List (List SD)->List SD
 |[]=>c9 sz .top
 |r::rs=>rs.foldl L0.join r
def My :List SD->Option (List Data)
 |[]=>J []
 | .lit d::r=>match My r with
  |some ds=>J (d::ds)
  |none=>K
 |_=>K
def mkSlice (sz len:Nat)(xs:List SD):SD:=match My xs with
 |some ds=> .lit (.slice len ds)
 |none=> .slice K len len (ag4 sz (AD sz len xs))
section
variable {C:Ctx} {vs:List Nat}
theorem ZU:∀{xs:List SD} {ds es:List Data},My xs=J ds->L0.g C vs xs es->es=ds
 |[],_,_,h,hg=>by simp_all [My,Option.some.injEq,L0.g]
 |x::xs,_,_,h,hg=>by
  obtain ⟨d,ds',rfl,h1,h2⟩:=hg;cases x<;>simp [My,reduceCtorEq] at h;split at h
  next ds hds=>
   cases h;rw [h1,ZU hds h2]
  .cases h
theorem NB {sz:Nat}:∀(rs:List (List SD)) (x:List SD),O x=sz->(∀r,r∈rs->O r=sz)->(∀a,L0.g C vs x a->L0.g C vs (rs.foldl L0.join x) a)/\(∀r a,r∈rs->L0.g C vs r a->L0.g C vs (rs.foldl L0.join x) a)/\O (rs.foldl L0.join x)=sz
 |[],x,hx,_=>⟨λa h=>h,U,hx⟩
 |r::rs,x,hx,hr=>by
  have hl:O (L0.join x r)=sz:=by simp_all [L0.Mu]
  obtain ⟨h1,h2,h3⟩:=NB rs (L0.join x r) hl (λr' h=>hr r' (by simp [h]))
  grind [L0.W1,L0.W4]
theorem L0.take {x:List SD}:∀{d:List Data},L0.g C vs x d->∀n,L0.g C vs (x.take n) (d.take n):=by
 induction x with
 |nil=>simp_all [L0.g]
 |cons x xs ih =>
  intro d h n;cases n with
  |zero=>simp [L0.g]
  |succ n=>grind [L0.g]
theorem L0.drop {x:List SD}:∀{d:List Data},L0.g C vs x d->∀n,L0.g C vs (x.drop n) (d.drop n):=by
 induction x with
 |nil=>simp_all [L0.g]
 |cons x xs ih =>
  intro d h n;have h' :=h;obtain ⟨d,ds,rfl,h2,h3⟩:=h;cases n with
  |zero=>exact h'
  |succ n=>simp_all
theorem TD {sz:Nat}:∀(n:Nat) {xs:List SD} {ds:List Data},O xs=n * sz->L0.g C vs xs ds ->
  ∃rows:List (List Data),rows.flatten=ds/\O rows=n/\(∀r,r∈AD sz n xs->O r=sz)/\∀r,r∈rows->∃s,s∈AD sz n xs/\L0.g C vs s r
 |0,xs,ds,hl,h=>by
  have:xs=[]:=List.eq_nil_of_length_eq_zero V;subst this;simp only [L0.g] at h;subst h;exact ⟨[],rfl,rfl,by simp [AD],U⟩
 |n+1,xs,ds,hl,h=>by
  rw [Nat.succ_mul] at hl;obtain ⟨rows,h1,h2,h3,h4⟩:=TD (sz:=sz) n (xs:=xs.drop sz) D (L0.drop h sz);refine ⟨ds.take sz::rows,by simp [h1],by simp [h2],λr hr=>?_,λr hr=>?_⟩
  .grind [AD]
  .rcases B6.1 hr with rfl|hr
   all_goals simp_all [AD,L0.take]
def tv {sz len:Nat}{xs:List SD}{ds:List Data}(hl:O xs=len * sz)(h:L0.g C vs xs ds):(mkSlice sz len xs).g C vs (.slice len ds):=by
 unfold mkSlice;split
 .grind [SD.g,ZU]
 .obtain ⟨rows,h1,h2,h3,h4⟩:=TD len hl h
  refine ⟨rows,by rw [h1,h2],V,V,(λi e=>by cases e),λr hr=>?_⟩;obtain ⟨s,h5,h6⟩:=h4 r hr;cases hs:AD sz len xs with
  |nil=>simp_all
  |cons q qs =>
   rw [hs] at h5 h3;obtain ⟨f1,f2,_⟩:=NB (C:=C) (vs:=vs) qs q (h3 q U) (λr hr=>h3 r (by simp [hr]))
   grind [ag4]
end
def exact? (i7:jU)(x:SD):Option Int:=match x.int? i7 with
 |some (_,a,b,_)=>if decide (a=b) then J a else K
 |none=>K
def HG (σ:y7->SV)(i7:jU)(dl dh:Int):Option y7->Option (Int×Int)
 |none=>J (dl,dh)
 |some x=>match σ x with
  | .d y=>match y.int? i7 with
   |some (_,a,b,_)=>J (a,b)
   |none=>K
  |_=>K
def ZN (v:Option Nat)(lo hi:Nat):SD:=if u5 lo hi then .lit (.int .i64 lo) else .int .i64 lo hi (match v with|some i=> .eq i|none=> .no)
def inR:Rel->Option Nat->Bool
 | .lt p,J q=>u5 p q
 |_,_=>F
def Ew (σ:y7->SV)(H:List SO)(i7:jU):x9->Option (SV×List Nat)
 | .pick c a b=>match σ c with
  | .d x=>match x.bool? with
   |some (.t t)=>J (if t then σ a else σ b,[])
   |_=>K
  |_=>K
 | .build zero parts=>match Em (zero.map ofA) (parts.map λ(o,s,x)=>(o,s,σ x)) with
  |some cs=>J (.agg K cs,[])
  |none=>K
 | .H6 sz len zero parts F=>match Em (zero.map ofA) (parts.map λ(o,s,x)=>(o,s,σ x)) with
  |some cs=>match mA cs with
   |some xs=>if Nat.blt 0 sz&&u5 (O xs) (len * sz) then J (.own sz (mkSlice sz len xs),[]) else K
   |none=>K
  |none=>K
 | .load K x=>match σ x with
  | .ptr id off=>match srd H id off 1 with
   |some [v]=>J (v.K7,[id])
   |_=>K
  | .U9 (c::_)=>J (.d c,[])
  |_=>K
 | .load (J n) x=>match σ x with
  | .ptr id off=>match H[id]? with
   |some (.cells p l)=>if F3 (off+n) (O l) then J (.agg (if u5 off 0&&u5 n (O l) then p else K) (((l.drop off).take n).map SV.K7),[id]) else K
   |_=>K
  | .U9 row=>if F3 n (O row) then J (.agg K ((row.take n).map .d),[]) else K
  |_=>K
 | .bG x=>match σ x with
  | .ptr id off=>J (.ptr id off,[])
  | .wp id lo z c=>J (.wp id lo z c,[])
  | .U9 row=>J (.U9 row,[])
  |_=>K
 | .bin op x y=>match σ x,σ y with
  | .d a,.d b=>match bc6 i7 op a b with
   |some z=>J (.d z,[])
   |none=>K
  |_,_=>K
 | .u7 _ x y=>match σ x,σ y with
  | .d a,.d b=>match a.bool?,b.bool? with
   |some _,J _=>J (.d (.bool .vQ),[])
   |_,_=>K
  |_,_=>K
 | .un .not x=>match σ x with
  | .d a=>match a.bool? with
   |some (.t b)=>J (.d (.lit (.bool (!b))),[])
   |some (.u c)=>J (.d (.bool c.not),[])
   |none=>K
  |_=>K
 | .ql k x=>match σ x with
  | .d a=>match a.kind? with
   |some _=>J (.d (.anyI k),[])
   |none=>K
  |_=>K
 | .mO x=>match σ x with
  | .d a=>match a.slice? i7 1 with
   |some (_,_,hi,[c])=>match c.kind? with
    |some .u8=>J (.d (.str hi),[])
    |_=>K
   |_=>K
  |_=>K
 | .aJ sz x lo hi=>match σ x with
  | .d a=>match a.slice? i7 sz with
   |some (_,l1,l2,row)=>match HG σ i7 0 0 lo,hi with
    |some (a1,a2),K=>if decide (0<=a1)&&decide (a2<=l1) then J (.d (.slice K (l1 - a2.toNat) (l2 - a1.toNat) row),[]) else K
    |some (a1,a2),J h=>match HG σ i7 0 0 (J h) with
     |some (b1,b2)=>if decide (0<=a1)&&decide (a2<=b1)&&decide (b2<=l1) then J (.d (.slice K (b1 - a2).toNat (b2 - a1).toNat row),[]) else K
     |none=>K
    |_,_=>K
   |none=>K
  | .B8 id z a len=>match HG σ i7 0 0 lo,HG σ i7 len len hi with
   |some (a1,a2),J (b1,b2)=>if decide (a1=a2)&&decide (b1=b2)&&decide (0<=a1)&&decide (a1<=b1)&&decide (b1<=len)&&u5 z sz then
     (if decide (a1=b1) then J (.d (.lit (.slice 0 [])),[]) else J (.B8 id sz (a+a1.toNat * sz) (b1 - a1).toNat,[])) else K
   |_,_=>K
  |_=>K
 | .off k x=>match σ x with
  | .ptr id off=>J (.ptr id (off+k),[])
  | .wp id lo z c=>J (.wp id (lo+k) z c,[])
  | .U9 row=>if F3 k (O row) then J (.U9 (row.drop k),[]) else K
  |_=>K
 | .O4 sz x i=>match σ x,σ i with
  | .d a,.d j=>match a.slice? i7 sz,j.int? i7 with
   |some (v,lo,_,row),J (_,j1,j2,r)=>if decide (0<=j1)&&(decide (j2<lo)||inR r v) then J (.U9 row,[]) else K
   |_,_=>K
  | .B8 id z lo len,.d j=>match exact? i7 j with
   |some n=>if decide (0<=n)&&decide (n<len)&&u5 z sz then J (.ptr id (lo+n.toNat * sz),[]) else K
   |none=>match j.int? i7 with
    |some (_,a,b,_)=>if decide (0<=a)&&decide (b<len)&&u5 z sz then J (.wp id lo sz len,[]) else K
    |none=>K
  |_,_=>K
 | .extract x i=>match σ x with
  | .tuple vs=>match vs[i]? with
   |some v=>J (v,[])
   |none=>K
  |_=>K
 | .len x=>match σ x with
  | .d a=>match a.vi i7 with
   |some (v,lo,hi)=>J (.d (ZN v lo hi),[])
   |none=>K
  | .B8 _ _ _ len=>J (.d (.lit (.int .i64 len)),[])
  |_=>K
 | .X8 x=>match σ x with
  | .d a=>match a.xz with
   |some (m,K)=>J (.d (.int .i64 0 m .no),[])
   |some (_,J s)=>J (.d (.lit (.int .i64 (O s))),[])
   |none=>K
  |_=>K
 |_=>K
section
variable {C:Ctx} {vs:List Nat} {i7:jU}
theorem cw {x:SD}{v:c8}(h:(SV.d x).g C vs v):∃d,v= .d d/\x.g C vs d:=by simp_all [SV.g]
theorem vt {z:Nat}{x:SD}{v:c8}(h:(SV.own z x).g C vs v):∃len cells,v= .own z len cells/\x.g C vs (.slice len cells):=by simp_all [SV.g]
theorem dJ {x:SD}{d:Data}(h:x.g C vs d):(SV.d x).g C vs (.d d):=by simp_all [SV.g]
def di {id off:Nat}{v:c8}(h:(SV.ptr id off).g C vs v):v= .ptr id off:=by simp_all [SV.g]
def pZ {id off a b:Nat}{v:c8}(h:(SV.B8 id off a b).g C vs v):v= .B8 id off a b:=by simp_all [SV.g]
def BP {row:List SD}{v:c8}(h:(SV.U9 row).g C vs v):∃cells rest,v= .U9 (cells++rest)/\L0.g C vs row cells:=by simp_all [SV.g]
def az5 {v:Option Nat}{lo hi n:Nat}(h1:lo<=n)(h2:n<=hi)(h3:∀i,v=J i->vs[i]? =J n):(ZN v lo hi).g C vs (.int .i64 n):=by
 unfold ZN;split
 .grind [j5,SD.g]
 .refine ⟨_,rfl,V,V,?_⟩
  split
  .exact ⟨n,h3 _ rfl,rfl⟩
  .trivial
def aw0 (hB:Bg vs i7){x:SD}{d:Data}{n:Int}(h:exact? i7 x=J n)(hx:x.g C vs d):∃k,d= .int k n:=by
 unfold exact? at h;split at h
 .split at h
  .grind [SD.kR]
  .cases h
 .cases h
def Ej (hB:Bg vs i7){σ:y7->SV}{ρ:y7->c8}(hρ:∀x,(σ x).g C vs (ρ x)){dl dh a b:Int}{n:Nat}{o:Option y7}(hn:o=K->dl<=n/\(n:Int)<=dh)(h:HG σ i7 dl dh o=J (a,b)):∃m,Y9 ρ n o=J m/\a<=m/\m<=b:=by
 cases o with
 |none=>obtain ⟨rfl,rfl⟩:=h;exact ⟨n,rfl,hn rfl⟩
 |some x =>
  have h1:=hρ x;simp [HG] at h;split at h
  next y hy=>
   rw [hy] at h1;split at h
   next k p q r hi=>
    obtain ⟨d,e,h1⟩:=cw h1;obtain ⟨m,rfl,h2,h3,_⟩:=SD.kR hB hi h1;simp_all [Y9]
   .cases h
  .cases h
theorem z8.QV:∀{x:List SD} {d:List Data},L0.g C vs x d->z8.g C vs (x.map .d) (d.map .d)
 |[],_,h=>by simp_all [L0.g,z8.g]
 |x::xs,_,h=>by
  obtain ⟨d,ds,rfl,h1,h2⟩:=h;exact ⟨_,_,rfl,dJ h1,z8.QV h2⟩
theorem TA {sz:Nat}:∀{rows:List (List Data)} {i:Nat},(∀r,r∈rows->O r=sz)->i<O rows->∃r,r∈rows/\rows.flatten.drop (i * sz)=r++rows.flatten.drop ((i+1) * sz)
 |[],i,_,h=>by simp at h
 |r::rows,0,hr,h=>by
  simp_all
 |r::rows,i+1,hr,h=>by
  obtain ⟨q,h1,h2⟩:=TA (rows:=rows) (i:=i) (λr h=>hr r (by simp [h])) (by simpa using h);simp_all [List.flatten_cons,List.drop_append,n9,Nat.succ_mul,Nat.add_sub_cancel]
theorem nL {sz:Nat}:∀{rows:List (List Data)},(∀r,r∈rows->O r=sz)->O rows.flatten=O rows * sz
 |[],_=>U
 |r::rows,h=>by
  have:=nL (rows:=rows) (λr hr=>h r (by simp [hr]))
  grind
theorem EH {sz:Nat}:∀{rows:List (List Data)},(∀r,r∈rows->O r=sz)->∀i,rows.flatten.take (i * sz)=(rows.take i).flatten
 |[],_,i=>U
 |r::rows,h,0=>U
 |r::rows,h,i+1=>by
  have:=EH (rows:=rows) (λr hr=>h r (by simp [hr])) i;simp_all [List.flatten_cons,List.take_succ_cons,List.take_append,z7,Nat.succ_mul,Nat.add_sub_cancel]
theorem CY {sz:Nat}:∀{rows:List (List Data)},(∀r,r∈rows->O r=sz)->∀i,rows.flatten.drop (i * sz)=(rows.drop i).flatten
 |[],_,i=>U
 |r::rows,h,0=>U
 |r::rows,h,i+1=>by
  have:=CY (rows:=rows) (λr hr=>h r (by simp [hr])) i;simp_all [List.flatten_cons,List.drop_succ_cons,List.drop_append,n9,Nat.succ_mul,Nat.add_sub_cancel]
def ac7 {sz:Nat}{row:List SD}{rows:List (List Data)}{a b l1 l2:Nat}(hw:O row=sz)(hr:∀r,r∈rows->L0.g C vs row r)(hab:a<=b)(hb:b<=O rows)(h1:l1<=b - a)(h2:b - a<=l2) :
  (SD.slice K l1 l2 row).g C vs (.slice ((b:Int) - a).toNat ((rows.flatten.take (b * sz)).drop (a * sz))):=by
 have hrl:∀r,r∈rows->O r=sz:=λr h=>by grind [L0.len]
 grind [List.mem_of_mem_take,EH,CY,SD.g,List.mem_of_mem_drop]
theorem Sk {c:SD}(hk:c.kind? =J .u8):∀{rows:List (List Data)},(∀r,r∈rows->L0.g C vs [c] r)->∃bs,jg rows.flatten=J bs/\O bs=O rows
 |[],_=>⟨[],rfl,rfl⟩
 |r::rows,h=>by
  obtain ⟨bs,h1,h2⟩:=Sk hk (rows:=rows) (λr hr=>h r (by simp [hr]));have h3:=h r U
  grind [L0.g,SD.BQ,UInt8.ofNat,jg]
def aF2 (hB:Bg vs i7){σ:y7->SV}{ρ:y7->c8}(hρ:∀x,(σ x).g C vs (ρ x)){H:List SO}{H' :q6}(hH:L4.g C vs H H'){op:x9}{v:SV}{rs:List Nat}(h:Ew σ H i7 op=J (v,rs)) :
  ∃r,o7 ρ H' op=J (r,rs)/\v.g C vs r:=by
 cases op<;>simp only [Ew,reduceCtorEq] at h
 case pick c a b =>
  have hc:=hρ c;split at h
  next x hx=>
   rw [hx] at hc;obtain ⟨d,e1,hd⟩:=cw hc;split at h
   next t ht=>
    obtain ⟨t',rfl,e2⟩:=SD.gw ht hd;simp only at e2;subst e2;cases h;refine ⟨_,(by simp only [o7,e1];rfl),?_⟩;cases t' <;>exact hρ _
   .cases h
  .cases h
 case build zero parts =>
  split at h
  next cs hcs=>
   cases h;obtain ⟨ds,h1,h2⟩:=Cc (wX hρ parts) (DX zero) hcs;exact ⟨_,(by simp only [o7,h1];rfl),by simp only [SV.g];exact ⟨_,rfl,h2,λk h=>by cases h⟩⟩
  .cases h
 case H6 sz len zero parts ob =>
  cases ob<;>simp only [Ew,reduceCtorEq] at h;split at h
  next cs hcs=>
   split at h
   next xs hxs=>
    split at h
    next hc=>
     simp only [c7] at hc;have c1:=j9 hc.1;have c2:=j5 hc.2;cases h;obtain ⟨ds,h1,h2⟩:=Cc (wX hρ parts) (DX zero) hcs;obtain ⟨es,h3,h4⟩:=rQ h2 hxs;have hl:=L0.len h4;refine ⟨.own sz len es,?_,by simp only [SV.g];exact ⟨_,_,rfl,tv c2 h4⟩⟩;simp only [o7,h1,h3];rw [if_pos ⟨V,V⟩]
    .cases h
   .cases h
  .cases h
 case load n x =>
  have hx:=hρ x;cases n with
  |none =>
   simp only [Ew] at h;split at h
   next id off e=>
    rw [e] at hx;have e1:=di hx;split at h
    next w hw=>
     cases h;obtain ⟨cs,h1,h2⟩:=HO hH hw;simp only [z8.g] at h2;obtain ⟨a,_,rfl,h3,rfl⟩:=h2;exact ⟨_,(by simp only [o7,e1,h1]),SV.tV h3⟩
    .cases h
   next c row e=>
    rw [e] at hx;obtain ⟨cells,rest,e1,h1⟩:=BP hx;cases h;simp only [L0.g] at h1;obtain ⟨d,ds,rfl,h2,h3⟩:=h1;exact ⟨.d d,by simp only [o7,e1,A8],dJ h2⟩
   .cases h
  |some n =>
   simp only [Ew] at h;split at h
   next id off e=>
    rw [e] at hx;have e1:=di hx;split at h
    next p l hl=>
     split at h
     next hc=>
      have hc:=j9 hc;cases h;obtain ⟨o,h1,h2⟩:=L4.get hH hl;obtain ⟨cs,rfl,h3,h4⟩:=h2;have hlen:=z8.len h3;refine ⟨.agg (((cs.drop off).take n).map c8.K7),?_,?_⟩
      .simp only [o7,e1,rd,h1]
       rw [if_pos V]
      .simp only [SV.g]
       refine ⟨_,rfl,z8.map (λ_ _=>SV.tV) (z8.take (z8.drop h3 off) n),λk hk=>?_⟩;split at hk
       next qn=>
        simp only [c7] at qn;have c1:=j5 qn.1;have c2:=j5 qn.2;subst c1;have:(cs.drop 0).take n=cs:=by rw [List.drop_zero,z7 V]
        rw [this];have e3:(cs.map c8.K7).map c8.K7=cs.map c8.K7:=by
         rw [List.map_map]
         congr 1
         funext v
         cases v<;>rfl
        rw [e3];exact h4 k hk
       .cases hk
     .cases h
    .cases h
   next row e=>
    rw [e] at hx;obtain ⟨cells,rest,e1,h1⟩:=BP hx;split at h
    next hc=>
     have hc:=j9 hc;cases h;have hlen:=L0.len h1;refine ⟨.agg ((cells.take n).map .d),?_,?_⟩
     .simp only [o7,e1]
      rw [if_pos D,List.take_append_of_le_length V]
     .simp only [SV.g]
      exact ⟨_,rfl,z8.QV (L0.take h1 n),λk h=>by cases h⟩
    .cases h
   .cases h
 case bG x =>
  have hx:=hρ x;split at h
  next id off e=>
   cases h;rw [e] at hx;exact ⟨_,(by simp only [o7,di hx];rfl),by simp only [SV.g]⟩
  next id lo z c e=>
   cases h;rw [e] at hx;simp only [SV.g] at hx;obtain ⟨j,j1,j2⟩:=hx;exact ⟨_,(by simp only [o7,j2];rfl),by simp only [SV.g];exact ⟨j,j1,rfl⟩⟩
  next row e=>
   cases h;rw [e] at hx;obtain ⟨cells,rest,e1,h1⟩:=BP hx;exact ⟨_,(by simp only [o7,e1];rfl),by simp only [SV.g];exact ⟨_,_,rfl,h1⟩⟩
  .cases h
 case bin op x y =>
  have hx:=hρ x;have hy:=hρ y;split at h
  next a b ea eb=>
   rw [ea] at hx;rw [eb] at hy;obtain ⟨d,e1,h1⟩:=cw hx;obtain ⟨f,e2,h2⟩:=cw hy;split at h
   next z hz=>
    cases h;obtain ⟨r,h3,h4⟩:=bc7 hB h1 h2 hz;exact ⟨.d r,by simp only [o7,e1,e2,h3],dJ h4⟩
   .cases h
  .cases h
 case un op x =>
  cases op<;>simp only [Ew,reduceCtorEq] at h;have hx:=hρ x;split at h
  next a ea=>
   rw [ea] at hx;obtain ⟨d,e1,h1⟩:=cw hx;split at h
   next b hb=>
    cases h;obtain ⟨b',rfl,e2⟩:=SD.gw hb h1;simp only at e2;subst e2;exact ⟨_,(by simp only [o7,e1,ES];rfl),dJ (by simp [SD.g])⟩
   next c hc=>
    cases h;obtain ⟨b',rfl,e2⟩:=SD.gw hc h1;have:=Tn (C:=C) (vs:=vs) (x:= .bool c) (b:=b') (by simp only [SD.g];exact ⟨_,rfl,e2⟩);exact ⟨_,(by simp only [o7,e1,ES]),dJ this⟩
   .cases h
  .cases h
 case u7 neg x y =>
  have hx:=hρ x;have hy:=hρ y;split at h
  next a b ea eb=>
   rw [ea] at hx;rw [eb] at hy;obtain ⟨d,e1,h1⟩:=cw hx;obtain ⟨f,e2,h2⟩:=cw hy;split at h
   next p q hp hq=>
    cases h;obtain ⟨t,rfl,_⟩:=SD.gw hp h1;obtain ⟨u,rfl,_⟩:=SD.gw hq h2;exact ⟨_,(by simp only [o7,e1,e2];rfl),dJ (by simp only [SD.g];exact ⟨_,rfl,trivial⟩)⟩
   .cases h
  .cases h
 case ql k x =>
  have hx:=hρ x;split at h
  next a ea=>
   rw [ea] at hx;obtain ⟨d,e1,h1⟩:=cw hx;split at h
   next k' hk=>
    cases h;obtain ⟨n,rfl⟩:=SD.BQ hk h1;exact ⟨_,(by simp only [o7,e1];rfl),dJ (by simp only [SD.g];exact ⟨_,rfl⟩)⟩
   .cases h
  .cases h
 case mO x =>
  have hx:=hρ x;split at h
  next a ea=>
   rw [ea] at hx;obtain ⟨d,e1,h1⟩:=cw hx;split at h
   next v lo hi c hs=>
    split at h
    next hk=>
     cases h;obtain ⟨_,rows,rfl,h2,h3,h4,h5⟩:=SD.gM hB hs h1;obtain ⟨bs,h6,h7⟩:=Sk hk h5;have hl:O rows.flatten=O rows:=by
      have:=nL (sz:=1) (rows:=rows) (λr hr=>L0.len (h5 r hr));omega
     exact ⟨.d (.str bs),by simp only [o7,e1,hl,if_true,h6],dJ (by simp only [SD.g];exact ⟨_,rfl,V⟩)⟩
    .cases h
   .cases h
  .cases h
 case aJ sz x lo hi =>
  have hx:=hρ x;split at h
  next a ea=>
   rw [ea] at hx;obtain ⟨d,e1,h1⟩:=cw hx;split at h
   next v l1 l2 row hs=>
    obtain ⟨hw,rows,rfl,h2,h3,h4,h5⟩:=SD.gM hB hs h1;have hfl:O rows.flatten=O rows * sz:=nL (λr hr=>by rw [L0.len (h5 r hr)];exact hw);split at h
    next a1 a2 hlo=>
     split at h
     next hc=>
      simp only [c7,decide_eq_true_eq] at hc;cases h;obtain ⟨m,b1,b2,b3⟩:=Ej (n:=0) hB hρ (λ_=>⟨Int.le_refl _,Int.le_refl _⟩) hlo;obtain ⟨m',rfl⟩:=Int.eq_ofNat_of_zero_le (show 0<=m by omega);refine ⟨_,?_,dJ (ac7 (a:=m') (b:=O rows) (l1:=l1 - a2.toNat) (l2:=l2 - a1.toNat) hw h5 V (l6 _) V V)⟩;have b4:Y9 ρ (O rows) K=J (O rows:Int):=rfl;simp only [o7,e1,b1,b4];rw [if_pos (by refine ⟨?_,?_,?_,hfl⟩<;>omega)];simp
     .cases h
    next a1 a2 hop hlo=>
     split at h
     next b1 b2 hhi=>
      split at h
      next hc=>
       simp only [c7,decide_eq_true_eq] at hc;cases h;obtain ⟨m,c1,c2,c3⟩:=Ej (n:=0) hB hρ (λ_=>⟨Int.le_refl _,Int.le_refl _⟩) hlo;obtain ⟨q,d1,d2,d3⟩:=Ej (n:=O rows) (dl:=0) (dh:=0) hB hρ (o:=J hop) (λh=>by cases h) hhi;obtain ⟨m',rfl⟩:=Int.eq_ofNat_of_zero_le (show 0<=m by omega);obtain ⟨q',rfl⟩:=Int.eq_ofNat_of_zero_le (show 0<=q by omega);refine ⟨_,?_,dJ (ac7 (a:=m') (b:=q') (l1:=(b1 - a2).toNat) (l2:=(b2 - a1).toNat) hw h5 V V V V)⟩;simp only [o7,e1,c1,d1];rw [if_pos (by refine ⟨?_,?_,?_,hfl⟩<;>omega)];simp
      .cases h
     .cases h
    .cases h
   .cases h
  next id z a len ea=>
   rw [ea] at hx;have e1:=pZ hx;split at h
   next a1 a2 b1 b2 hlo hhi=>
    split at h
    next hc=>
     simp only [c7,decide_eq_true_eq] at hc;obtain ⟨⟨⟨⟨⟨c1,c2⟩,c3⟩,c4⟩,c5⟩,c6⟩:=hc;have c6:=j5 c6;subst c6;obtain ⟨m,f1,f2,f3⟩:=Ej (n:=0) hB hρ (λ_=>⟨Int.le_refl _,Int.le_refl _⟩) hlo;obtain ⟨q,g1,g2,g3⟩:=Ej (n:=len) hB hρ (λ_=>⟨Int.le_refl _,Int.le_refl _⟩) hhi;have em:m=a1:=V
     have eq:q=b1:=V
     subst em eq;simp only [o7,e1,f1,g1];rw [if_pos ⟨V,V,V,trivial⟩];split at h
     next he=>
      simp only [decide_eq_true_eq] at he;cases h;rw [if_pos he];exact ⟨_,rfl,dJ (by simp [SD.g])⟩
     next he=>
      simp only [decide_eq_true_eq] at he;cases h;rw [if_neg he];exact ⟨_,rfl,by simp only [SV.g]⟩
    .cases h
   .cases h
  .cases h
 case off k x =>
  have hx:=hρ x;split at h
  next id off e=>
   cases h;rw [e] at hx;exact ⟨_,(by simp only [o7,di hx];rfl),by simp only [SV.g]⟩
  next id lo z c e=>
   cases h;rw [e] at hx;simp only [SV.g] at hx;obtain ⟨j,j1,j2⟩:=hx;exact ⟨.ptr id (lo+j * z+k),(by simp only [o7,j2]),by simp only [SV.g];exact ⟨j,j1,by rw [show lo+k+j * z=lo+j * z+k by omega]⟩⟩
  next row e=>
   rw [e] at hx;split at h
   next hc=>
    have hc:=j9 hc;cases h;obtain ⟨cells,rest,e1,h1⟩:=BP hx;have:=L0.len h1;refine ⟨_,(by simp only [o7,e1];rfl),?_⟩;simp only [SV.g];exact ⟨cells.drop k,rest,by rw [List.drop_append_of_le_length V],L0.drop h1 k⟩
   .cases h
  .cases h
 case O4 sz x i =>
  have hx:=hρ x;have hi:=hρ i;split at h
  next a j ea ej=>
   rw [ea] at hx;rw [ej] at hi;obtain ⟨d,e1,h1⟩:=cw hx;obtain ⟨f,e2,h2⟩:=cw hi;split at h
   next v lo hi' row k j1 j2 r hs hj=>
    split at h
    next hc=>
     simp only [c7,Bool.or_eq_true,decide_eq_true_eq] at hc;cases h;obtain ⟨hw,rows,rfl,h3,h4,h5,h6⟩:=SD.gM hB hs h1;obtain ⟨n,rfl,k1,k2,k3⟩:=SD.kR hB hj h2;have hlt:0<=n/\n<O rows:=by
      refine ⟨V,?_⟩
      rcases hc.2 with hc|hc
      .omega
      .unfold inR at hc
       split at hc
       next p q=>
        have hpq:=j5 hc;subst hpq;obtain ⟨m,m1,m2,m3⟩:=k3;rw [h5 _ rfl] at m1;cases m1;exact m3
       .cases hc
     obtain ⟨n',rfl⟩:=Int.eq_ofNat_of_zero_le hlt.1;obtain ⟨q,q1,q2⟩:=TA (sz:=sz) (rows:=rows) (i:=n') (λr hr=>by rw [L0.len (h6 r hr)];exact hw) V;refine ⟨.U9 (rows.flatten.drop (n' * sz)),?_,?_⟩
     .simp only [o7,e1,e2]
      rw [if_pos hlt];simp
     .simp only [SV.g]
      exact ⟨q,_,by rw [q2],h6 q q1⟩
    .cases h
   .cases h
  next id z lo len j ea ej=>
   rw [ea] at hx;rw [ej] at hi;have e1:=pZ hx;obtain ⟨f,e2,h2⟩:=cw hi;split at h
   next n hn=>
    split at h
    next hc=>
     simp only [c7,decide_eq_true_eq] at hc;have c2:=j5 hc.2;cases h;obtain ⟨k,rfl⟩:=aw0 hB hn h2;refine ⟨.ptr id (lo+n.toNat * sz),?_,by simp only [SV.g]⟩;simp only [o7,e1,e2];rw [if_pos ⟨hc.1.1,hc.1.2,c2⟩]
    .cases h
   .split at h
    next k a b r hj=>
     split at h
     next hc=>
      simp only [c7,decide_eq_true_eq] at hc;have c2:=j5 hc.2;cases h;obtain ⟨n,rfl,k1,k2,_⟩:=SD.kR hB hj h2;refine ⟨.ptr id (lo+n.toNat * sz),?_,?_⟩
      .simp only [o7,e1,e2]
       rw [if_pos ⟨V,V,c2⟩]
      .simp only [SV.g]
       exact ⟨n.toNat,V,rfl⟩
     .cases h
    .cases h
  .cases h
 case extract x i =>
  have hx:=hρ x;split at h
  next l e=>
   rw [e] at hx;simp only [SV.g] at hx;obtain ⟨cs,e1,h1⟩:=hx;split at h
   next v' hv=>
    cases h;obtain ⟨b,h2,h3⟩:=z8.get h1 hv;exact ⟨b,by simp only [o7,e1,h2],h3⟩
   .cases h
  .cases h
 case len x =>
  have hx:=hρ x;split at h
  next a ea=>
   rw [ea] at hx;obtain ⟨d,e1,h1⟩:=cw hx;split at h
   next v' lo hi hl=>
    cases h;obtain ⟨n,cells,rfl,h2,h3,h4⟩:=SD.QO hB hl h1;exact ⟨.d (.int .i64 n),by simp only [o7,e1,i64],dJ (az5 h2 h3 h4)⟩
   .cases h
  next e=>
   cases h;rw [e] at hx;exact ⟨_,(by simp only [o7,pZ hx,i64];rfl),dJ (by simp [SD.g])⟩
  .cases h
 case X8 x =>
  have hx:=hρ x;split at h
  next a ea=>
   rw [ea] at hx;obtain ⟨d,e1,h1⟩:=cw hx;split at h
   next m hm=>
    cases h;obtain ⟨s,rfl,h2,_⟩:=SD.zA hm h1;exact ⟨.d (.int .i64 (O s)),by simp only [o7,e1,i64],dJ (by simp only [SD.g];exact ⟨_,rfl,V,V,trivial⟩)⟩
   next m s hm=>
    cases h;obtain ⟨s',rfl,h2,h3⟩:=SD.zA hm h1;have:=h3 s rfl;subst this;exact ⟨.d (.int .i64 (O s')),by simp only [o7,e1,i64],dJ (by simp [SD.g])⟩
   .cases h
  .cases h
end
structure SS where
 T:List SV
 H:List SO
 L:List SV
 o9:List Touch
 i7:jU
def SS.g (C:Ctx)(vs:List Nat)(s:SS)(st:I9):Prop:=z8.g C vs s.T st.T/\L4.g C vs s.H st.H/\z8.g C vs s.L st.L/\st.o9=s.o9/\Bg vs s.i7
def rV (s:SS)(k:Nat)(v:SV):SS:={ s with L:=s.L.set k v }
mutual
def SV.aa :SV->Option Nat
 | .top=>K
 | .ptr id _=>J (id+1)
 | .B8 id _ _ _=>J (id+1)
 | .wp id _ _ _=>J (id+1)
 | .agg _ l=>z8.aa l
 | .tuple l=>z8.aa l
 | .bn k=>J k
 |_=>J 0
def z8.aa :List SV->Option Nat
 |[]=>J 0
 |x::xs=>match x.aa,z8.aa xs with
  |some a,J b=>J (max a b)
  |_,_=>K
end
def SO.aa :SO->Option Nat
 | .dead=>J 0
 | .cells _ l=>z8.aa l
 | .pr _=>J 0
 | .bn k=>J k
 | .top=>K
 | .Ec _ b=>J b
def CE :List SO->Option (List Nat)
 |[]=>J []
 |o::os=>match o.aa,CE os with
  |some a,J b=>J (a::b)
  |_,_=>K
mutual
def SV.kill (id:Nat):SV->SV
 | .ptr i o=>if u5 i id then .any else .ptr i o
 | .B8 i z l n=>if u5 i id then .any else .B8 i z l n
 | .agg p l=>match z8.aa l with
  |some 0=> .agg p l
  |_=> .agg K (z8.kill id l)
 | .tuple l=> .tuple (z8.kill id l)
 | .bn k=>if u5 k 0 then .bn 0 else .top
 | .wp .. => .top
 |v=>v
def z8.kill (id:Nat):List SV->List SV
 |[]=>[]
 |v::vs=>v.kill id::z8.kill id vs
end
def SO.kill (id:Nat):SO->SO
 | .cells p l=>match z8.aa l with
  |some 0=> .cells p l
  |_=> .cells K (z8.kill id l)
 | .bn k=>if u5 k 0 then .bn 0 else .top
 | .Ec k b=>if F3 b id then .Ec k b else .top
 |o=>o
mutual
theorem ZI (id:Nat):∀(v:c8),v.L7<=id->v.kill id=v
 | .any,_=>by simp [c8.kill]
 | .d _,_=>by simp [c8.kill]
 | .ptr i o,h=>by simp only [c8.L7] at h;simp only [c8.kill];rw [if_neg V]
 | .U9 _,_=>by simp [c8.kill]
 | .B8 i z l n,h=>by simp only [c8.L7] at h;simp only [c8.kill];rw [if_neg V]
 | .own _ _ _,_=>by simp [c8.kill]
 | .P9,_=>by simp [c8.kill]
 | .agg l,h=>by simp only [c8.L7] at h;simp only [c8.kill];rw [vh id l h]
 | .tuple l,h=>by simp only [c8.L7] at h;simp only [c8.kill];rw [vh id l h]
 | .func f a b,h=>by simp only [c8.L7] at h;simp only [c8.kill];rw [vh id a V,vh id b V]
 | .map i,h=>by simp only [c8.L7] at h;simp only [c8.kill];rw [if_neg V]
theorem vh (id:Nat):∀(l:List c8),C5 l<=id->K6 id l=l
 |[],_=>rfl
 |v::l,h=>by simp only [C5] at h;simp only [K6];rw [ZI id v V,vh id l V]
end
def aL1 (id:Nat)(v:c8)(h:v.L7=0):v.kill id=v:=ZI id v V
def ZJ (id:Nat)(l:List c8)(h:C5 l=0):K6 id l=l:=vh id l V
def ab7 (id:Nat){o:y6}(h:o.L7<=id):o.kill id=o:=by
 cases o with
 |dead=>rfl
 |cells l=>simp only [y6.L7] at h;simp only [y6.kill,vh id l h]
 |map es =>
  simp only [y6.L7] at h;simp only [y6.kill]
  congr 1
  have:∀es:List (Key×c8),C5 (es.map (·.2))<=id->es.map (λp=>(p.1,p.2.kill id))=es:=by
   intro es
   induction es with
   |nil=>intro _;rfl
   |cons e es ih =>
    intro h;simp only [K0,C5] at h;simp only [K0];rw [ZI id e.2 V,ih V]
  exact this es h
def ab6 (id:Nat){o:y6}(h:o.L7=0):o.kill id=o:=ab7 id V
section
variable {C:Ctx} {vs:List Nat}
mutual
theorem SV.dU:∀{x:SV} {v:c8} {n:Nat},x.aa =J n->x.g C vs v->v.L7=n
 | .top,_,_,h,_=>by simp [SV.aa] at h
 | .any,_,_,h,hg=>by simp only [SV.g] at hg;subst hg;simp only [SV.aa,Option.some.injEq] at h;subst h;rfl
 | .d _,_,_,h,hg=>by simp only [SV.g] at hg;obtain ⟨y,rfl,_⟩:=hg;simp only [SV.aa,Option.some.injEq] at h;subst h;rfl
 | .own _ _,_,_,h,hg=>by simp only [SV.g] at hg;obtain ⟨y,_,rfl,_⟩:=hg;simp only [SV.aa,Option.some.injEq] at h;subst h;rfl
 | .P9,_,_,h,hg=>by simp only [SV.g] at hg;subst hg;simp only [SV.aa,Option.some.injEq] at h;subst h;rfl
 | .ptr ..,_,_,h,hg=>by simp only [SV.g] at hg;subst hg;simp only [SV.aa,Option.some.injEq] at h;subst h;simp [c8.L7]
 | .U9 _,_,_,h,hg=>by simp only [SV.g] at hg;obtain ⟨_,_,rfl,_⟩:=hg;simp only [SV.aa,Option.some.injEq] at h;subst h;rfl
 | .wp ..,_,_,h,hg=>by simp only [SV.g] at hg;obtain ⟨j,_,rfl⟩:=hg;simp only [SV.aa,Option.some.injEq] at h;subst h;simp [c8.L7]
 | .B8 ..,_,_,h,hg=>by simp only [SV.g] at hg;subst hg;simp only [SV.aa,Option.some.injEq] at h;subst h;simp [c8.L7]
 | .agg p l,_,_,h,hg=>by simp only [SV.g] at hg;obtain ⟨cs,rfl,h1,_⟩:=hg;simp only [SV.aa] at h;simp only [c8.L7];exact z8.dU h h1
 | .tuple l,_,_,h,hg=>by simp only [SV.g] at hg;obtain ⟨cs,rfl,h1⟩:=hg;simp only [SV.aa] at h;simp only [c8.L7];exact z8.dU h h1
 | .bn k,_,_,h,hg=>by simp only [SV.g] at hg;simp only [SV.aa,Option.some.injEq] at h;subst h;exact hg.1
 | .q x,v,_,h,hg=>by
  simp only [SV.g] at hg;obtain ⟨y,h1,_⟩:=hg;simp only [SV.aa,Option.some.injEq] at h;subst h;cases v<;>simp only [c8.K7,reduceCtorEq] at h1<;>rfl
theorem z8.dU:∀{x:List SV} {v:List c8} {n:Nat},z8.aa x=J n->z8.g C vs x v->C5 v=n
 |[],_,_,h,hg=>by simp only [z8.g] at hg;subst hg;simp only [z8.aa,Option.some.injEq] at h;subst h;rfl
 |x::xs,_,_,h,hg=>by
  simp only [z8.g] at hg;obtain ⟨d,ds,rfl,h1,h2⟩:=hg;simp only [z8.aa] at h;split at h
  next a b ha hb=>
   simp only [Option.some.injEq] at h;subst h;simp only [C5];rw [SV.dU ha h1,z8.dU hb h2]
  .cases h
end
theorem SO.dU {x:SO}{o:y6}{n:Nat}(h:x.aa =J n)(hg:x.g C vs o):o.L7=n:=by
 cases x with
 |dead=>simp only [SO.g] at hg;subst hg;simp only [SO.aa,Option.some.injEq] at h;subst h;rfl
 |cells p l=>obtain ⟨cs,rfl,h1,_⟩:=hg;simp only [SO.aa] at h;simp only [y6.L7];exact z8.dU h h1
 |pr k=>simp only [SO.g] at hg;simp only [SO.aa,Option.some.injEq] at h;subst h;exact C.L7 k o hg
 |bn k=>simp only [SO.g] at hg;simp only [SO.aa,Option.some.injEq] at h;subst h;exact hg
 |top=>simp [SO.aa] at h
 |Ec k b=>simp only [SO.g] at hg;simp only [SO.aa,Option.some.injEq] at h;subst h;exact hg.2
theorem Jj:∀{x:List SO} {H:q6} {l:List Nat},CE x=J l->L4.g C vs x H->H.map y6.L7=l
 |[],_,_,h,hg=>by simp_all [L4.g,CE,Option.some.injEq]
 |x::xs,_,_,h,hg=>by
  obtain ⟨d,ds,rfl,h1,h2⟩:=hg;simp [CE] at h;split at h
  next a b ha hb=>
   simp [Option.some.injEq] at h;subst h;simp only [K0];rw [SO.dU ha h1,Jj hb h2]
  .cases h
mutual
theorem SV.gE (id:Nat):∀{x:SV} {v:c8},x.g C vs v->(x.kill id).g C vs (v.kill id)
 | .top,_,_=>by simp [SV.kill,SV.g]
 | .any,_,hg=>by simp only [SV.g] at hg;subst hg;simp [SV.kill,c8.kill,SV.g]
 | .d _,_,hg=>by have hg' :=hg;simp only [SV.g] at hg;obtain ⟨y,rfl,_⟩:=hg;simpa only [SV.kill,c8.kill] using hg'
 | .own _ _,_,hg=>by have hg' :=hg;simp only [SV.g] at hg;obtain ⟨y,_,rfl,_⟩:=hg;simpa only [SV.kill,c8.kill] using hg'
 | .P9,_,hg=>by simp only [SV.g] at hg;subst hg;simp [SV.kill,c8.kill,SV.g]
 | .ptr i o,_,hg=>by
  simp only [SV.g] at hg;subst hg;simp only [SV.kill,c8.kill];split
  .rename_i h;rw [if_pos (j5 h)];simp [SV.g]
  .rename_i h;rw [if_neg (λe=>h (by rw [e];exact Nat.beq_refl _))];simp [SV.g]
 | .wp ..,_,_=>by simp [SV.kill,SV.g]
 | .U9 _,_,hg=>by have hg' :=hg;simp only [SV.g] at hg;obtain ⟨_,_,rfl,_⟩:=hg;simpa only [SV.kill,c8.kill] using hg'
 | .B8 i z l n,_,hg=>by
  simp only [SV.g] at hg;subst hg;simp only [SV.kill,c8.kill];split
  .rename_i h;rw [if_pos (j5 h)];simp [SV.g]
  .rename_i h;rw [if_neg (λe=>h (by rw [e];exact Nat.beq_refl _))];simp [SV.g]
 | .agg p l,_,hg=>by
  have hg' :=hg;simp only [SV.g] at hg;obtain ⟨cs,rfl,h1,h2⟩:=hg;simp only [SV.kill,c8.kill];split
  next h=>
   rw [ZJ id cs (z8.dU h h1)];exact hg'
  .simp only [SV.g]
   exact ⟨_,rfl,z8.gE id h1,λk h=>by cases h⟩
 | .tuple l,_,hg=>by
  simp only [SV.g] at hg;obtain ⟨cs,rfl,h1⟩:=hg;simp only [SV.kill,c8.kill,SV.g];exact ⟨_,rfl,z8.gE id h1⟩
 | .bn k,v,hg=>by
  simp only [SV.kill];split
  next h=>
   have h:=j5 h;subst h;simp only [SV.g] at hg ⊢;rw [aL1 id v hg.1];exact hg
  .simp [SV.g]
 | .q x,v,hg=>by
  have hg' :=hg;simp only [SV.g] at hg;obtain ⟨y,h1,_⟩:=hg;simp only [SV.kill];rw [aL1 id v (by cases v<;>simp only [c8.K7,reduceCtorEq] at h1<;>rfl)];exact hg'
theorem z8.gE (id:Nat):∀{x:List SV} {v:List c8},z8.g C vs x v->z8.g C vs (z8.kill id x) (K6 id v)
 |[],_,h=>by simp only [z8.g] at h;subst h;simp [z8.kill,K6,z8.g]
 |x::xs,_,h=>by
  simp only [z8.g] at h;obtain ⟨d,ds,rfl,h2,h3⟩:=h;simp only [z8.kill,K6,z8.g];exact ⟨_,_,rfl,SV.gE id h2,z8.gE id h3⟩
end
theorem SO.gE (id:Nat){x:SO}{o:y6}(h:x.g C vs o):(x.kill id).g C vs (o.kill id):=by
 cases x with
 |dead=>simp only [SO.g] at h;subst h;rfl
 |cells p l =>
  have h' :=h;obtain ⟨cs,rfl,h1,h2⟩:=h;simp only [SO.kill,y6.kill];split
  next hb=>
   rw [ZJ id cs (z8.dU hb h1)];exact h'
  .exact ⟨_,rfl,z8.gE id h1,λk h=>by cases h⟩
 |pr k =>
  simp only [SO.g] at h;simp only [SO.kill];rw [ab6 id (C.L7 k o h)];exact h
 |bn k =>
  simp only [SO.kill];split
  next hk=>
   have hk:=j5 hk;subst hk;rw [ab6 id h];exact h
  .trivial
 |top=>trivial
 |Ec k b =>
  simp only [SO.kill];split
  next hk=>
   rw [ab7 id (by have:=h.2;have:=j9 hk;omega)];exact h
  .trivial
theorem L4.map {f:SO->SO}{f' :y6->y6}(hf:∀x a,SO.g C vs x a->SO.g C vs (f x) (f' a)):∀{x:List SO} {d:q6},L4.g C vs x d->L4.g C vs (x.map f) (d.map f')
 |[],_,h=>by simp_all [L4.g]
 |x::xs,_,h=>by
  obtain ⟨d,ds,rfl,h2,h3⟩:=h;exact ⟨_,_,rfl,hf _ _ h2,L4.map hf h3⟩
end
def CA (l:List Nat):Nat:=l.foldr max 0
def X3 (bs:List Nat)(strict:Nat):Nat->Nat->Nat
 |0,n=>n
 |k+1,n=>if F3 n strict then n else
  if u5 (max n (CA ((bs.take n).drop strict))) n then n else X3 bs strict k (max n (CA ((bs.take n).drop strict)))
def Sx:List Nat->Nat->Bool
 |[],_=>W
 |b::bs,k=>F3 b (k+1)&&Sx bs (k+1)
def tH (bs:List Nat)(strict n:Nat):Nat:=if F3 n strict then n else if Sx ((bs.take n).drop strict) strict then n else strict
theorem Yq:∀H:q6,P0 H=CA (H.map y6.L7)
 |[]=>rfl
 |o::H=>by simp [P0,CA];rw [Yq H];rfl
def sX (H:q6)(a b:Nat):P0 ((H.take a).drop b)=CA (((H.map y6.L7).take a).drop b):=by
 rw [Yq,List.map_drop,List.map_take]
theorem yC (H:q6)(strict:Nat):∀(k n:Nat),G6 H strict k n=X3 (H.map y6.L7) strict k n
 |0,n=>rfl
 |k+1,n=>by
  simp [G6,X3,sX,Nat.ble_eq,Nat.beq_eq];split
  .rfl
  .split
   .rfl
   .exact yC H strict k _
theorem YP:∀(H:q6) (k:Nat),aQ H k=Sx (H.map y6.L7) k
 |[],_=>rfl
 |o::H,k=>by
  simp [aQ,Sx];rw [YP H (k+1)]
  congr 1
  rw [Bool.eq_iff_iff,Nat.ble_eq];simp
def RJ (H:q6)(s n:Nat):E9 H s n=tH (H.map y6.L7) s n:=by
 simp [E9,tH,YP,List.map_drop,List.map_take,Nat.ble_eq]
def cU (s:SS):y7->SV×SS
 | .loc j=>match s.L[j]? with
  |some (.own z x)=>(.own z x,{ s with L:=s.L.set j (.d x) })
  |some (.q x)=>(.q x,s)
  |some .P9=>(.P9,s)
  |_=>(dx s.T s.L (.loc j),s)
 | .const v=>(ofA v,s)
 | .slot t=>(dx s.T s.L (.slot t),s)
section
variable {C:Ctx} {vs:List Nat} {s:SS} {st:I9}
def ey (hs:s.g C vs st)(k:Nat){v:SV}{a:c8}(h:v.g C vs a):(rV s k v).g C vs (put st k a) :=
 ⟨hs.1,hs.2.1,z8.set hs.2.2.1 k h,hs.2.2.2⟩
def Cj (hs:s.g C vs st)(x:y7):(cU s x).1.g C vs (E7 st x).1/\(cU s x).2.g C vs (E7 st x).2:=by
 obtain ⟨hT,hH,hL,ht,hB⟩:=hs;have hr:∀x,(dx s.T s.L x).g C vs (K4 st.T st.L x):=λx=>KA hT hL x
 cases x with
 |const v=>exact ⟨ab4 v,hT,hH,hL,ht,hB⟩
 |slot t=>exact ⟨hr (.slot t),hT,hH,hL,ht,hB⟩
 |loc j =>
  simp only [cU];split
  next z x e=>
   obtain ⟨a,h1,h2⟩:=z8.get hL e;simp only [SV.g] at h2;obtain ⟨len,cells,rfl,h3⟩:=h2;simp only [E7,h1];refine ⟨?_,hT,hH,z8.set hL j ?_,ht,hB⟩
   .simp only [SV.g];exact ⟨_,_,rfl,h3⟩
   .simp only [SV.g];exact ⟨_,rfl,h3⟩
  next x e=>
   obtain ⟨a,h1,h2⟩:=z8.get hL e;have hq:∀v:c8,v.K7=a.K7->(SV.q x).g C vs v:=λv hv=>by
    simp only [SV.g] at h2 ⊢;rw [hv];exact h2
   simp only [E7];split
   next z len cells e2=>
    rw [h1] at e2;cases e2;refine ⟨hq _ rfl,hT,hH,?_,ht,hB⟩;have:=z8.set hL j (a:= .q x) (b:= .d (.slice len cells)) (hq _ rfl)
    rwa [aV e] at this
   next e2=>
    rw [h1] at e2;cases e2;exact ⟨hq _ rfl,hT,hH,hL,ht,hB⟩
   .refine ⟨hq _ ?_,hT,hH,hL,ht,hB⟩
    simp only [K4,List.getD_eq_getElem?_getD,h1,Option.getD_some];cases a<;>rfl
  next e=>
   obtain ⟨a,h1,h2⟩:=z8.get hL e;simp only [SV.g] at h2;subst h2;simp only [E7,h1];exact ⟨by simp only [SV.g],hT,hH,hL,ht,hB⟩
  next hno hnq hni=>
   simp only [E7];split
   next z len cells e=>
    cases hx:s.L[j]? with
    |none=>rw [z8.none hL hx] at e;cases e
    |some y =>
     obtain ⟨a,h1,h2⟩:=z8.get hL hx;rw [e] at h1;cases h1;have hy:(y= .top\/y= .bn 0):=by
      cases y<;>simp only [SV.g,reduceCtorEq,and_false,exists_false] at h2
      .exact .inl rfl
      .obtain ⟨_,h2,_⟩:=h2;cases h2
      .rename_i z' x';exact absurd hx (hno z' x')
      .obtain ⟨_,_,h2,_⟩:=h2;cases h2
      .obtain ⟨_,h2,_⟩:=h2;cases h2
      .obtain ⟨_,h2,_⟩:=h2;cases h2
      .rw [<- h2.1];exact .inr rfl
      .rename_i x';exact absurd hx (hnq x')
     have hg:∀v:c8,v.L7=0->v.one=W->y.g C vs v:=λv e1 e2=>by
      rcases hy with rfl|rfl
      .simp [SV.g]
      .simp only [SV.g];exact ⟨e1,e2⟩
     refine ⟨?_,hT,hH,?_,ht,hB⟩
     .have:dx s.T s.L (.loc j)=y:=by rcases hy with rfl|rfl<;>simp [dx,List.getD_eq_getElem?_getD,hx,SV.K7]
      rw [this];exact hg _ rfl rfl
     .have:=z8.set hL j (a:=y) (b:= .d (.slice len cells)) (hg _ rfl rfl)
      rwa [aV hx] at this
   next e=>
    cases hx:s.L[j]? with
    |none=>rw [z8.none hL hx] at e;cases e
    |some y =>
     obtain ⟨a,h1,h2⟩:=z8.get hL hx;rw [e] at h1;cases h1;refine ⟨?_,hT,hH,hL,ht,hB⟩;have:dx s.T s.L (.loc j)=y:=by
      cases y
      case own z' x' =>exact absurd hx (hno z' x')
      case q x' =>exact absurd hx (hnq x')
      case P9=>exact absurd hx hni
      all_goals simp [dx,List.getD_eq_getElem?_getD,hx,SV.K7]
     rw [this];exact h2
   .exact ⟨hr (.loc j),hT,hH,hL,ht,hB⟩
end
def xq (s:SS)(A4:Option Nat)(o:SO):SS:=match A4 with
 |none=>{ s with H:=s.H++[o] }
 |some i=>{ s with H:=s.H.set i o }
def mW (s:SS)(A4:Option Nat):Nat:=A4.getD (O s.H)
def okB (lim:I7)(id:Nat):Option Nat->Bool
 |some b=>F3 b (id+1)||(F3 lim.base id&&F3 lim.strict id)
 |none=>F3 lim.base id&&F3 lim.strict id
def wj (x y:SV):Option SV:=match x.data?,y.data? with
 |some a,J b=>J (.q (a.join b))
 |_,_=>K
def XL:List SV->List SV->Option (List SV)
 |[],l=>J l
 |_::_,[]=>K
 |y::ys,x::l=>match wj x y,XL ys l with
  |some z,J r=>J (z::r)
  |_,_=>K
def Ou (new:List SV)(sz:Nat):Nat->List SV->Option (List SV)
 |0,l=>J l
 |c+1,l=>match XL new l with
  |some l1=>match Ou new sz c (l1.drop sz) with
   |some r=>J (l1.take sz++r)
   |none=>K
  |none=>K
def KC (lim:I7)(k n:Nat)(s:SS)(x:y7):SV->Option SS
 | .ptr id off=>match (cU s x).1.cells? with
  |some l=>if u5 (O l) n&&lim.may id&&okB lim id (z8.aa l) then
    match swr (cU s x).2.H id off (cU s x).1.tag l with
    |some H' =>J (rV { (cU s x).2 with H:=H',o9:= .obj id::(cU s x).2.o9 } k .any)
    |none=>K
   else K
  |none=>K
 | .wp id lo sz c=>match (cU s x).1.cells?,(cU s x).2.H[id]? with
  |some l,J (.cells _ old)=>match Ou l sz c (old.drop lo) with
   |some r=>if u5 (O l) n&&lim.may id&&okB lim id (z8.aa l)&&F3 n sz&&F3 (lo+c * sz) (O old+sz - n)&&F3 lo (O old) then
     J (rV { (cU s x).2 with H:=(cU s x).2.H.set id (.cells K (old.take lo++r)),o9:= .obj id::(cU s x).2.o9 } k .any)
    else K
   |none=>K
  |_,_=>K
 |_=>K
def Rl (i7:jU)(H:List SO)(sz:Nat):SV->Option SD
 | .d z=>match z.slice? i7 sz with
  |some _=>J z
  |none=>K
 | .B8 id z lo len=>if u5 z sz then match srd H id lo (len * sz) with
   |some l=>match mA (l.map SV.K7) with
    |some xs=>J (mkSlice sz len xs)
    |none=>K
   |none=>K
  else K
 |_=>K
def bc8 (i7:jU)(sz:Nat)(x z:SD):Option (SD×Nat):=match x.slice? i7 sz,z.slice? i7 sz with
 |some (_,lo1,hi1,bA5),J (_,lo2,hi2,bA6) =>
  if u5 hi1 0 then J (z,hi2) else if u5 hi2 0 then J (x,hi1) else J (.slice K (lo1+lo2) (hi1+hi2) (L0.join bA5 bA6),hi1+hi2)
 |_,_=>K
def Me (o9:List Touch)(s:Nat):Bool:=o9.any (Touch.V5 s)
def Ev (s:SS):y7->Option (Nat×Nat)
 | .loc m=>match s.L[m]? with
  |some (.ptr id off)=>J (id,off)
  |_=>K
 | .slot t=>if Me s.o9 t then K else match s.T[t]? with
  |some (.ptr id off)=>J (id,off)
  |_=>K
 | .const _=>K
def EC (l:I7)(s:SS)(sz:Nat):x9->Option (SD×SS)
 | .Q5 (.slot t)=>if Me s.o9 t then K else match s.T[t]? with
  |some (.own z x)=>if u5 z sz then J (x,{ s with T:=s.T.set t (.d x),o9:= .slot t::s.o9 }) else K
  |_=>K
 | .load K x=>match Ev s x with
  |some (id,off)=>if s.o9.any (Touch.dD id off)|| !l.may id then K else
   match s.H[id]? with
   |some (.cells p cs)=>match cs[off]? with
    |some (.own z x)=>if u5 z sz then J (x,{ s with H:=s.H.set id (.cells p (cs.set off (.d x))),o9:= .cell id off::s.o9 }) else K
    |_=>K
   |_=>K
  |none=>K
 |_=>K
def EB (l:I7)(l5:List p7)(s:SS)(sz:Nat):y7->Option (SD×SS)
 | .const (.own z len cells)=>if u5 z sz then J (.lit (.slice len cells),s) else K
 | .loc j=>match s.L[j]? with
  |some (.own z x)=>if u5 z sz then J (x,{ s with L:=s.L.set j (.d x) }) else K
  |some (.d x)=>match x.vi s.i7,l5[j]? with
   |some _,J a=>EC l s sz a.op
   |_,_=>K
  |_=>K
 |_=>K
def Ku (l:I7)(s:SS):x9->Bool
 | .Q5 (.slot t)=> !Me s.o9 t&&(match s.T[t]? with|some .P9=>W|_=>F)
 | .load K x=>match Ev s x with
  |some (id,off)=> !s.o9.any (Touch.dD id off)&&l.may id&&(match s.H[id]? with
   |some (.cells _ cs)=>(match cs[off]? with|some .P9=>W|_=>F)
   |_=>F)
  |none=>F
 |_=>F
def Rr (l:I7)(l5:List p7)(s:SS):y7->Bool
 | .const .P9=>W
 | .loc j=>match s.L[j]? with
  |some .P9=>W
  |some (.d x)=>match x.vi s.i7,l5[j]? with
   |some _,J a=>Ku l s a.op
   |_,_=>F
  |_=>F
 |_=>F
def Kl (i7:jU)(H:List SO)(sz:Nat):SV->Option (Nat×List SV)
 | .d z=>match z.slice? i7 sz with
  |some (_,lo,hi,row)=>if u5 lo hi then J (lo,(c9 lo (row.map .d)).flatten) else K
  |none=>K
 | .B8 id z lo len=>if u5 z sz then match srd H id lo (len * sz) with
   |some l=>J (len,l.map SV.K7)
   |none=>K
  else K
 |_=>K
def TJ (n bytes:Nat):Bool:=F3 ((2 * n+512) * bytes) 281474976710656
def tE (lim:I7)(l5:List p7)(A4:Option Nat)(k sz bytes:Nat)(ob:Bool)(s:SS)(x:y7)(y:SV):Option SS :=
 if ob then match Kl s.i7 s.H sz y with
  |some (m,cs)=>if Rr lim l5 s x&&TJ m bytes&&Nat.blt 0 sz then
    (if u5 m 0 then J (rV s k .P9) else J (rV (xq s A4 (.cells K cs)) k (.B8 (mW s A4) sz 0 m)))
   else K
  |none=>K
 else match Rl s.i7 s.H sz y with
  |some z=>match EB lim l5 s sz x with
   |some (x0,s')=>match bc8 s.i7 sz x0 z with
    |some (r,hi)=>if TJ hi bytes&&Nat.blt 0 sz then J (rV s' k (.own sz r)) else K
    |none=>K
   |none=>K
  |none=>K
def BZ (lim:I7)(entry k sz bytes:Nat)(s:SS)(id lo len:Nat)(y:SV):Option SS :=
 if F3 lim.base id&&F3 entry id&&lim.may id then
  match s.H[id]?,Kl s.i7 s.H sz y with
  |some (.cells _ l),J (m,cs)=>match z8.aa cs with
   |some b=>if u5 lo 0&&u5 (len * sz) (O l)&&TJ (len+m) bytes&&F3 b id&&cs.all SV.one&&Nat.blt 0 sz then
     J (rV { s with T:=z8.kill id s.T,H:=(s.H.take lim.base++(s.H.drop lim.base).map (SO.kill id)).set id (.cells K (z8.kill id l++cs)),L:=z8.kill id s.L,o9:= .obj id::s.o9 } k (.B8 id sz lo (len+m)))
    else K
   |none=>K
  |_,_=>K
 else K
section
variable {C:Ctx} {vs:List Nat} {s:SS} {st:I9}
theorem SS.K4 (hs:s.g C vs st)(x:y7):(dx s.T s.L x).g C vs (K4 st.T st.L x):=KA hs.1 hs.2.2.1 x
def bD0 {x y z:SV}{v:c8}(h:wj x y=J z):(x.g C vs v->z.g C vs v)/\(y.g C vs v->z.g C vs v):=by
 unfold wj at h;split at h
 next a b ha hb=>
  cases h;have ad:∀{v:c8} {d:Data},v.data? =J d->v.K7= .d d:=by intro v d h;cases v<;>simp_all [c8.data?,c8.K7]
  refine ⟨λhx=>?_,λhy=>?_⟩
  .obtain ⟨d,h1,h2⟩:=SV.Qs hx ha
   simp only [SV.g];exact ⟨d,ad h1,SD.W1 a b h2⟩
  .obtain ⟨d,h1,h2⟩:=SV.Qs hy hb
   simp only [SV.g];exact ⟨d,ad h1,SD.W4 a b h2⟩
 .cases h
theorem RP:∀{new l r:List SV} {ns cs:List c8},XL new l=J r->z8.g C vs l cs->(z8.g C vs r cs)/\(z8.g C vs new ns->z8.g C vs r (ns++cs.drop (O ns)))
 |[],l,r,ns,cs,h,hl=>by
  simp only [XL,Option.some.injEq] at h;subst h;refine ⟨hl,λhn=>?_⟩;simp only [z8.g] at hn;subst hn;simpa using hl
 |_::_,[],r,ns,cs,h,hl=>by simp [XL] at h
 |y::ys,x::l,r,ns,cs,h,hl=>by
  simp only [XL] at h;split at h
  next z r' hz hr=>
   cases h;simp only [z8.g] at hl;obtain ⟨c,cs',rfl,h1,h2⟩:=hl;refine ⟨?_,λhn=>?_⟩
   .simp only [z8.g]
    exact ⟨_,_,rfl,(bD0 hz).1 h1,(RP (ns:=[]) hr h2).1⟩
   .simp only [z8.g] at hn
    obtain ⟨n,ns',rfl,n1,n2⟩:=hn;simp only [A8,p8,List.drop_succ_cons,z8.g];exact ⟨_,_,rfl,(bD0 hz).2 n1,(RP hr h2).2 n2⟩
  .cases h
theorem TX {new:List SV}{sz:Nat}{ns:List c8}(hn:z8.g C vs new ns)(hsz:O ns<=sz):∀{c:Nat} {l r:List SV} {cs:List c8},Ou new sz c l=J r->z8.g C vs l cs->z8.g C vs r cs/\∀j,j<c->z8.g C vs r (splice cs (j * sz) ns)
 |0,l,r,cs,h,hl=>by
  simp only [Ou,Option.some.injEq] at h;subst h;exact ⟨hl,λj hj=>absurd hj V⟩
 |c+1,l,r,cs,h,hl=>by
  simp only [Ou] at h;split at h
  next l1 h1=>
   split at h
   next r' h2=>
    cases h;obtain ⟨g1,g2⟩:=RP (ns:=ns) h1 hl;have g2:=g2 hn;obtain ⟨k1,k2⟩:=TX hn hsz h2 (z8.drop g1 sz);have e0:cs=cs.take sz++cs.drop sz:=(List.take_append_drop sz cs).symm;refine ⟨?_,λj hj=>?_⟩
    .rw [e0];exact z8.app (z8.take g1 sz) k1
    .cases j with
     |zero =>
      simp only [splice,Nat.zero_mul,List.take_zero,B3,Nat.zero_add];have e1:ns++cs.drop (O ns)=(ns++cs.drop (O ns)).take sz++cs.drop sz:=by
       have:=(List.take_append_drop sz (ns++cs.drop (O ns))).symm;rw [List.drop_append,n9 hsz,B3,List.drop_drop,show O ns+(sz - O ns)=sz by omega] at this;exact this
      rw [e1];exact z8.app (z8.take g2 sz) k1
     |succ j =>
      have h3:=k2 j V
      by_cases hlen:sz<=O cs
      .have e1:splice cs ((j+1) * sz) ns=cs.take sz++splice (cs.drop sz) (j * sz) ns:=by
        simp only [splice,D3];rw [show (j+1) * sz=sz+j * sz by rw [Nat.succ_mul,Nat.add_comm],List.take_add,D3,List.drop_drop,O8]
       rw [e1];exact z8.app (z8.take g1 sz) h3
      .have e1:splice cs ((j+1) * sz) ns=cs.take sz++splice (cs.drop sz) (j * sz) ns:=by
        simp only [splice,D3];rw [show (j+1) * sz=sz+j * sz by rw [Nat.succ_mul,Nat.add_comm],List.take_add,D3,List.drop_drop,O8]
       rw [e1];exact z8.app (z8.take g1 sz) h3
   .cases h
  .cases h
def aj1 (hs:s.g C vs st){E:Env}{k n:Nat}{x:y7}{a:SV}{a' :c8}(ha:a.g C vs a'){s' :SS}(h:KC E.lim k n s x a=J s'):∃st',U2 E k n st a' x=J st' /\s'.g C vs st' :=by
 have hbd:∀(id:Nat) (l:List SV) (cs:List c8),z8.g C vs l cs->okB E.lim id (z8.aa l)=W->C5 cs<=id+1\/(E.lim.base<=id/\E.lim.strict<=id):=by
  intro id l cs h2 h4;unfold okB at h4;split at h4
  next b hb=>
   simp only [Bool.or_eq_true,c7,Nat.ble_eq] at h4;rw [z8.dU hb h2];exact h4
  .simp only [c7,Nat.ble_eq] at h4
   exact .inr h4
 cases a<;>simp only [KC,reduceCtorEq] at h
 rotate_left
 next id lo sz c=>
  simp only [SV.g] at ha;obtain ⟨j,j1,rfl⟩:=ha;obtain ⟨hv,hT,hH,hL,ht,hB⟩:=Cj hs x;split at h
  next l p old hl ho=>
   obtain ⟨cs,h1,h2,h3⟩:=SV.BI hv hl;split at h
   next r hr=>
    split at h
    next hc=>
     simp only [c7,Nat.ble_eq] at hc;cases h;have hlen:=z8.len h2;have hn:=j5 hc.1.1.1.1.1;obtain ⟨o',o1,co,rfl,o2,_⟩:=L4.get hH ho;have hol:=z8.len o2;have hw:=(TX h2 V hr (z8.drop o2 lo)).2 j j1;have hcs:j * sz+sz<=c * sz:=by rw [<- Nat.succ_mul];exact Nat.mul_le_mul_right _ j1
     have hwr:wr (E7 st x).2.H id (lo+j * sz) cs=J ((E7 st x).2.H.set id (.cells (splice co (lo+j * sz) cs))):=by
      simp only [wr,o1];rw [if_pos V]
     have e1:splice co (lo+j * sz) cs=co.take lo++splice (co.drop lo) (j * sz) cs:=by
      simp only [splice,D3];rw [List.take_add,D3,List.drop_drop,O8]
     refine ⟨_,?_,ey (s:={ (cU s x).2 with H:=(cU s x).2.H.set id (.cells K (old.take lo++r)),o9:= .obj id::(cU s x).2.o9 }) (st:={ (E7 st x).2 with H:=(E7 st x).2.H.set id (.cells (splice co (lo+j * sz) cs)),o9:= .obj id::(E7 st x).2.o9 })
      ⟨hT,L4.set hH id ⟨_,rfl,by rw [e1];exact z8.app (z8.take o2 lo) hw,λk hk=>by cases hk⟩,hL,congrArg (Touch.obj id::·) ht,hB⟩ k (v:= .any) (a:= .any) (by simp only [SV.g])⟩
     simp only [U2,h1];rw [if_pos ⟨V,hc.1.1.1.1.2,hbd _ _ _ h2 hc.1.1.1.2⟩,hwr]
    .cases h
   .cases h
  .cases h
 rename_i id off;rw [di ha];obtain ⟨hv,hT,hH,hL,ht,hB⟩:=Cj hs x;split at h
 next l hl=>
  obtain ⟨cs,h1,h2,h3⟩:=SV.BI hv hl;split at h
  next hc=>
   simp only [c7] at hc;split at h
   next H' hw=>
    cases h;obtain ⟨H3,w1,w2⟩:=bC3 hH h2 h3 hw;have hlen:=z8.len h2;have hn:=j5 hc.1.1;have hbb:C5 cs<=id+1\/(E.lim.base<=id/\E.lim.strict<=id):=by
     have h4:=hc.2;unfold okB at h4;split at h4
     next b hb=>
      simp only [Bool.or_eq_true,c7,Nat.ble_eq] at h4;rw [z8.dU hb h2];exact h4
     .simp only [c7,Nat.ble_eq] at h4
      exact .inr h4
    refine ⟨_,?_,ey (s:={ (cU s x).2 with H:=H',o9:= .obj id::(cU s x).2.o9 }) (st:={ (E7 st x).2 with H:=H3,o9:= .obj id::(E7 st x).2.o9 }) ⟨hT,w2,hL,congrArg (Touch.obj id::·) ht,hB⟩ k (v:= .any) (a:= .any) (by simp only [SV.g])⟩;simp only [U2,h1];rw [if_pos ⟨V,hc.1.2,hbb⟩,w1]
   .cases h
  .cases h
 .cases h
def ag5 (hs:s.g C vs st){sz:Nat}{y:SV}{y' :c8}(hy:y.g C vs y'){z:SD}(h:Rl s.i7 s.H sz y=J z):∃m cs new,Q3 st.H sz y' =J (m,cs)/\P7 cs=J new/\z.g C vs (.slice m new):=by
 obtain ⟨hT,hH,hL,ht,hB⟩:=hs;cases y<;>simp only [Rl,reduceCtorEq] at h
 .split at h
  next q hq=>
   cases h;obtain ⟨d,rfl,h1⟩:=cw hy;obtain ⟨hw,rows,rfl,h2,h3,h4,h5⟩:=SD.gM hB hq h1;have hfl:O rows.flatten=O rows * sz:=nL (λr hr=>by grind [L0.len]);exact ⟨_,_,_,by simp_all [Q3,if_true],cF _,h1⟩
  .cases h
 next id z' lo len=>
  rw [pZ hy];split at h
  .split at h
   next l hl=>
    split at h
    next xs hxs=>
     cases h;obtain ⟨cs,h1,h2⟩:=HO hH hl;have h3:=z8.map (C:=C) (vs:=vs) (λ_ _=>SV.tV) h2;obtain ⟨ds,h4,h5⟩:=rQ h3 hxs;have hlen:O xs=len * sz:=by
      have e1:=L0.len h5;have e2:∀{v:List c8} {d:List Data},P7 v=J d->O d=O v:=by
       intro v
       induction v with
       |nil=>simp_all [P7,Option.some.injEq]
       |cons a v ih =>
        grind [P7,Option.some.injEq]
      have e4:=z8.len h2;simp_all [srd]<;>grind
     refine ⟨len,_,ds,?_,h4,tv hlen h5⟩;simp_all [Q3,if_pos]
    .cases h
   .cases h
  .cases h
def bc9 {i7:jU}(hB:Bg vs i7){sz:Nat}{x z r:SD}{hi len m:Nat}{cells new:List Data}(h:bc8 i7 sz x z=J (r,hi))(hx:x.g C vs (.slice len cells))(hz:z.g C vs (.slice m new)):r.g C vs (.slice (len+m) (cells++new))/\len+m<=hi:=by
 unfold bc8 at h;split at h
 next v1 lo1 hi1 bA5 v2 lo2 hi2 bA6 e1 e2=>
  obtain ⟨w1,cs4,r1,a1,a2,a3,a4⟩:=SD.gM hB e1 hx;obtain ⟨w2,cs5,r2,b1,b2,b3,b4⟩:=SD.gM hB e2 hz;split at h
  .simp_all
  .split at h
   .simp_all
   .grind [SD.g,List.flatten_append,n5,L0.W1,L0.W4]
 .cases h
theorem ai2 (hs:s.g C vs st){x:y7}{id off:Nat}(h:Ev s x=J (id,off)):cA st x=J (id,off):=by
 obtain ⟨hT,hH,hL,ht,hB⟩:=hs;cases x with
 |loc m =>
  simp [Ev] at h;split at h
  next e=>
   obtain ⟨a,h1,h2⟩:=z8.get hL e;rw [di h2] at h1
   grind [cA]
  .cases h
 |slot t =>
  simp only [Ev] at h;split at h
  .cases h
  next hh=>
   unfold Me at hh;split at h
   next e=>
    obtain ⟨a,h1,h2⟩:=z8.get hT e;rw [di h2] at h1;simp_all [cA,if_neg]
   .cases h
 |const v=>cases h
theorem RE (hs:s.g C vs st){l:I7}{sz:Nat}{op:x9}{x:SD}{s' :SS}(h:EC l s sz op=J (x,s')):∃len cells st',Z3 l st sz op=J (len,cells,st')/\x.g C vs (.slice len cells)/\s'.g C vs st' :=by
 have hs' :=hs;obtain ⟨hT,hH,hL,ht,hB⟩:=hs;unfold EC at h;split at h
 next t=>
  split at h
  .cases h
  next hh=>
   unfold Me at hh;split at h
   next z x' e=>
    split at h
    .obtain ⟨rfl,rfl⟩:=h
     obtain ⟨a,h1,h2⟩:=z8.get hT e;obtain ⟨len,cells,rfl,h3⟩:=vt h2;refine ⟨len,cells,{ st with T:=st.T.set t (.d (.slice len cells)),o9:= .slot t::st.o9 },?_,h3,z8.set hT t (dJ h3),hH,hL,M,hB⟩;simp_all [Z3,if_neg,if_pos]
    .cases h
   .cases h
 .split at h
  next id off hp=>
   split at h
   .cases h
   .split at h
    next p cs e=>
     split at h
     next z x' e2=>
      split at h
      .obtain ⟨rfl,rfl⟩:=h
       obtain ⟨o,h1,h2⟩:=L4.get hH e;obtain ⟨ds,rfl,h3,h4⟩:=h2;obtain ⟨a,h5,h6⟩:=z8.get h3 e2;obtain ⟨len,cells,rfl,h7⟩:=vt h6;refine ⟨len,cells,{ st with H:=st.H.set id (.cells (ds.set off (.d (.slice len cells)))),o9:= .cell id off::st.o9 },?_,h7,hT,L4.set hH id ⟨_,rfl,z8.set h3 off (dJ h7),λk hk=>?_⟩,hL,M,hB⟩
       .simp [Z3,ai2 hs' hp]
        simp_all
       simp_all [c8.K7,List.map_set,aV]
      .cases h
     .cases h
    .cases h
  .cases h
 .cases h
theorem xm (hB:Bg vs s.i7){x:SD}{d:Data}{q:Option Nat×Nat×Nat}(h:x.vi s.i7=J q)(hx:x.g C vs d):∃n cells,d= .slice n cells:=by
 grind [SD.QO]
def RD (hs:s.g C vs st){l:I7}{l5:List p7}{sz:Nat}{y:y7}{x:SD}{s' :SS}(h:EB l l5 s sz y=J (x,s')):∃len cells st',R8 l l5 st sz y=J (len,cells,st')/\x.g C vs (.slice len cells)/\s'.g C vs st' :=by
 have hs' :=hs;obtain ⟨hT,hH,hL,ht,hB⟩:=hs;unfold EB at h;split at h
 .split at h
  next hz=>
   have hz:=j5 hz
   grind [R8,SD.g]
  .cases h
 next j=>
  split at h
  next z x' e=>
   split at h
   .obtain ⟨rfl,rfl⟩:=h
    obtain ⟨a,h1,h2⟩:=z8.get hL e;obtain ⟨len,cells,rfl,h3⟩:=vt h2;refine ⟨len,cells,{ st with L:=st.L.set j (.d (.slice len cells)) },?_,h3,hT,hH,z8.set hL j (dJ h3),ht,hB⟩;simp_all [R8,if_pos]
   .cases h
  all_goals grind [z8.get,cw,xm,RE,R8]
 .cases h
theorem Xx (hs:s.g C vs st){l:I7}{op:x9}(h:Ku l s op=W):rF l st op=W:=by
 have hs' :=hs;obtain ⟨hT,hH,hL,ht,hB⟩:=hs;unfold Ku at h;split at h
 .simp [Me] at h
  grind [z8.get,SV.g,rF,Bool.and_self]
 .split at h
  .simp [c7] at h
   obtain ⟨h1,h2⟩:=h;split at h2
   next p cs e=>
    split at h2
    .obtain ⟨o,h3,h4⟩:=L4.get hH e
     obtain ⟨ds,rfl,h5,_⟩:=h4
     grind [z8.get,SV.g,rF,ai2,Bool.and_self]
    .cases h2
   .cases h2
  .cases h
 .cases h
def ah6 (hs:s.g C vs st){l:I7}{l5:List p7}{y:y7}(h:Rr l l5 s y=W):isNil l l5 st y=W:=by
 have hs' :=hs;obtain ⟨hT,hH,hL,ht,hB⟩:=hs;unfold Rr at h;split at h
 .rfl
 .all_goals grind [z8.get,SV.g,isNil,cw,xm,Xx]
 .cases h
theorem SH {row:List SD}:∀{rows:List (List Data)},(∀r,r∈rows->L0.g C vs row r)->z8.g C vs (c9 (O rows) (row.map .d)).flatten (rows.flatten.map .d)
 |[],_=>by simp [z8.g]
 |r::rows,h=>by
  simp only [List.flatten_cons,List.map_append];exact z8.app (z8.QV (h r U)) (SH (λr hr=>h r (by simp [hr])))
def Nz (hs:s.g C vs st){sz m:Nat}{y:SV}{y' :c8}(hy:y.g C vs y'){l:List SV}(h:Kl s.i7 s.H sz y=J (m,l)):∃cs,Q3 st.H sz y' =J (m,cs)/\z8.g C vs l cs:=by
 obtain ⟨hT,hH,hL,ht,hB⟩:=hs;cases y<;>simp only [Kl,reduceCtorEq] at h
 .split at h
  next v lo hi row hq=>
   split at h
   next he=>
    have he:=j5 he;simp [Option.some.injEq,Prod.mk.injEq] at h;obtain ⟨rfl,rfl⟩:=h;obtain ⟨d,rfl,h1⟩:=cw hy;obtain ⟨hw,rows,rfl,h2,h3,h4,h5⟩:=SD.gM hB hq h1;have hfl:O rows.flatten=O rows * sz:=nL (λr hr=>by grind [L0.len]);have hn:lo=O rows:=V
    subst hn;exact ⟨_,by simp_all [Q3,if_true],SH h5⟩
   .cases h
  .cases h
 .rw [pZ hy]
  split at h
  .split at h
   next l' hl=>
    obtain ⟨rfl,rfl⟩:=h;obtain ⟨cs,h1,h2⟩:=HO hH hl;simp_all [z8.map,SV.tV,Q3,if_pos]
   .cases h
  .cases h
def KB {n m bytes:Nat}(h:TJ n bytes=W)(hm:m<=n):roomFor m bytes=W:=by
 have h:=j9 h;simp [roomFor,decide_eq_true_eq];exact C9 (Nat.mul_le_mul_right _ V) h
def Kt (hs:s.g C vs st){A4:Option Nat}{o:SO}{o' :y6}(h:o.g C vs o'):(xq s A4 o).g C vs (N7 st A4 o')/\newId st A4=mW s A4:=by
 obtain ⟨hT,hH,hL,ht,hB⟩:=hs;have hlen:=L4.len hH;cases A4 with
 |none =>
  refine ⟨⟨hT,L4.app hH (by simp_all [L4.g]),hL,ht,hB⟩,?_⟩;simp [newId,mW,hlen]
 |some i=>exact ⟨⟨hT,L4.set hH i h,hL,ht,hB⟩,rfl⟩
def HJ (hs:s.g C vs st){E:Env}{l5:List p7}{A4:Option Nat}{k sz bytes:Nat}{ob:Bool}{x:y7}{y:SV}{y' :c8}(hy:y.g C vs y'){s' :SS}(h:tE E.lim l5 A4 k sz bytes ob s x y=J s'):∃st',Q1 E l5 A4 k sz bytes ob st x y' =J st' /\s'.g C vs st' :=by
 unfold tE at h;split at h
 .split at h
  next m cs he=>
   obtain ⟨ds,h1,h2⟩:=Nz hs hy he;split at h
   next hc=>
    simp [c7] at hc;have c1:=ah6 hs hc.1.1;have c2:=KB hc.1.2 (l6 _);split at h
    .cases h
     refine ⟨_,?_,ey hs k (v:= .P9) (a:= .P9) (by rfl)⟩;simp_all [Q1,if_true,if_pos]
    .cases h
     obtain ⟨n1,n2⟩:=Kt hs (A4:=A4) (o:= .cells K cs) (o' := .cells ds) ⟨ds,rfl,h2,λk h=>by cases h⟩;refine ⟨_,?_,ey n1 k (v:= .B8 (mW s A4) sz 0 m) (a:= .B8 (newId st A4) sz 0 m) (by grind [SV.g])⟩;simp_all [Q1,if_true,if_pos,if_neg]
   .cases h
  .cases h
 .split at h
  next z hz=>
   obtain ⟨m,cs,new,h1,h2,h3⟩:=ag5 hs hy hz;split at h
   next x0 s1 ht=>
    obtain ⟨len,cells,st1,h4,h5,h6⟩:=RD hs ht;split at h
    next r hi bm4=>
     obtain ⟨h7,h8⟩:=bc9 hs.2.2.2.2 bm4 h5 h3;split at h
     next hc=>
      simp [c7] at hc;have c2:=KB hc.1 h8;cases h;refine ⟨_,?_,ey h6 k (v:= .own sz r) (a:= .own sz (len+m) (cells++new)) (by grind [SV.g])⟩;simp_all [Q1,if_neg,if_pos]
     .cases h
    .cases h
   .cases h
  .cases h
def Xr (hs:s.g C vs st){E:Env}{k sz bytes id lo len:Nat}{y:SV}{y' :c8}(hy:y.g C vs y'){s' :SS}(h:BZ E.lim E.entry k sz bytes s id lo len y=J s'):∃st',V6 E k sz bytes st id lo len y' =J st' /\s'.g C vs st' :=by
 unfold BZ at h;split at h
 next hc0=>
  simp [c7,Nat.ble_eq] at hc0;split at h
  next p l m cs XV he=>
   split at h
   .split at h
    next hc=>
     simp only [c7,Nat.ble_eq] at hc;obtain ⟨⟨⟨⟨⟨c1,c2⟩,c3⟩,c4⟩,c5⟩,c6⟩:=hc;cases h;obtain ⟨ds,h1,h2⟩:=Nz hs hy he;obtain ⟨hT,hH,hL,ht,hB⟩:=hs;obtain ⟨o,h3,h4⟩:=L4.get hH XV;obtain ⟨es,rfl,h5,_⟩:=h4;have e1:=z8.len h5;have c1:=j5 c1;have c2:=j5 c2;have hrf:=KB c3 (l6 _);refine ⟨_,?_,ey (s:={ s with T:=z8.kill id s.T,H:=(s.H.take E.lim.base++(s.H.drop E.lim.base).map (SO.kill id)).set id (.cells K (z8.kill id l++cs)),L:=z8.kill id s.L,o9:= .obj id::s.o9 }) (st:={ T:=K6 id st.T,H:=(st.H.take E.lim.base++(st.H.drop E.lim.base).map (y6.kill id)).set id (.cells (K6 id es++ds)),L:=K6 id st.L,o9:= .obj id::st.o9 }) ⟨z8.gE id hT,L4.set (L4.app (L4.take hH _) (L4.map (λ_ _=>SO.gE id) (L4.drop hH _))) id (a:= .cells K (z8.kill id l++cs)) (b:= .cells (K6 id es++ds)) ⟨_,rfl,z8.app (z8.gE id h5) h2,λk h=>by cases h⟩,z8.gE id hL,M,hB⟩ k (v:= .B8 id sz lo (len+m)) (a:= .B8 id sz lo (len+m)) (by rfl)⟩;simp only [V6,h3,h1];rw [if_pos ⟨hc0.1.1,hc0.1.2,hc0.2⟩,if_pos ⟨c1,V,hrf,by grind [z8.dU],z8.DY h2 c5,j9 c6⟩]
    .cases h
   .cases h
  .cases h
 .cases h
end
abbrev Sem:=jU->FuncId->List SV->List SO->I7->Option (List (SV×List SO))
def ia (C:Ctx)(A:Prog)(sem:Sem):Prop:=∀i7 f args H l outs,sem i7 f args H l=J outs->∀vs,Bg vs i7->∀as Hc,z8.g C vs args as->L4.g C vs H Hc ->
 Pq A f as Hc l λv H1=>∃o,o∈outs/\o.1.g C vs v/\L4.g C vs o.2 H1
def je {α β:Type}(f:α->Option (List β)):List α->Option (List β)
 |[]=>J []
 |a::r=>match f a,je f r with
  |some x,J y=>J (x++y)
  |_,_=>K
theorem Z9 {α β:Type}{f:α->Option (List β)}:∀{l:List α} {r:List β},je f l=J r->∀a,a∈l->∃x,f a=J x/\∀b,b∈x->b∈r
 |[],_,_,a,h=>by cases h
 |c::l,r,h,a,ha=>by
  simp [je] at h;split at h
  next x y hx hy=>
   cases h
   rcases B6.1 ha with rfl|ha
   .simp_all
   .obtain ⟨z,h1,h2⟩:=Z9 hy a ha
    simp_all
  .cases h
section
variable (A:Prog) (sem:Sem)
def ag6 (lim:I7)(k:Nat)(f:FuncId)(args:List SV)(s:SS):Option (List SS) :=
 if A.prom f then match sem s.i7 f args s.H lim with
  |some outs=>if outs.all (λo=>F3 (O s.H) (O o.2)) then J (outs.map λo=>rV { s with H:=o.2,o9:= .below (O o.2)::s.o9 } k o.1) else K
  |none=>K
 else match CE s.H,z8.aa args with
  |some bs,J b0 =>
   if F3 (X3 bs lim.strict 8 b0) (O s.H)&&F3 (CA ((bs.take (X3 bs lim.strict 8 b0)).drop lim.strict)) (X3 bs lim.strict 8 b0) then
    match A.mode f with
    |0=>match sem s.i7 f args (s.H.take (X3 bs lim.strict 8 b0)) { lim with base:=X3 bs lim.strict 8 b0,strict:=tH bs lim.strict (X3 bs lim.strict 8 b0) } with
     |some outs=>if outs.all (λo=>u5 (O o.2) (X3 bs lim.strict 8 b0)) then J (outs.map λo=>rV { s with H:=o.2++s.H.drop (X3 bs lim.strict 8 b0),o9:= .below (X3 bs lim.strict 8 b0)::s.o9 } k o.1) else K
     |none=>K
    |1=>match sem s.i7 f args (s.H.take (X3 bs lim.strict 8 b0)) ⟨0,X3 bs lim.strict 8 b0,X3 bs lim.strict 8 b0,tH bs lim.strict (X3 bs lim.strict 8 b0)⟩ with
     |some outs=>if outs.all (λo=>u5 (O o.2) (X3 bs lim.strict 8 b0)) then J (outs.map λo=>rV s k o.1) else K
     |none=>K
    |_=>match (args.headD .any).aa with
     |some m=>match sem s.i7 f args (s.H.take (X3 bs lim.strict 8 b0)) (lim.qT m (X3 bs lim.strict 8 b0) (X3 bs lim.strict 8 b0) (tH bs lim.strict (X3 bs lim.strict 8 b0))) with
      |some outs=>if outs.all (λo=>u5 (O o.2) (X3 bs lim.strict 8 b0))&&F3 m (X3 bs lim.strict 8 b0) then J (outs.map λo=>rV { s with H:=o.2.take m++s.H.drop m,o9:= .below m::s.o9 } k o.1) else K
      |none=>K
     |none=>K
   else K
  |_,_=>K
def one {α:Type}:Option α->Option (List α)
 |some a=>J [a]
 |none=>K
def bd0 (lim:I7)(entry:Nat)(l5:List p7)(A4:Option Nat)(k:Nat)(s:SS):x9->Option (List SS)
 | .alloc zero=>J [rV (xq s A4 (.cells K (zero.map ofA))) k (.ptr (mW s A4) 0)]
 | .box x=>match (dx s.T s.L x).cells? with
  |some l=>J [rV (xq s A4 (.cells (dx s.T s.L x).tag l)) k (.ptr (mW s A4) 0)]
  |none=>K
 | .H6 sz len zero parts W=>match Em (zero.map ofA) (parts.map λ(o,t,x)=>(o,t,dx s.T s.L x)) with
  |some cs=>if Nat.blt 0 sz&&u5 (O cs) (len * sz) then J [rV (xq s A4 (.cells K cs)) k (.B8 (mW s A4) sz 0 len)] else K
  |none=>K
 | .store n a x=>one (KC lim k n s x (dx s.T s.L a))
 | .append sz bytes ob x y=>match dx s.T s.L x with
  | .B8 id z lo len=>if u5 z sz then one (BZ lim entry k sz bytes s id lo len (dx s.T s.L y)) else K
  | .d _=>one (tE lim l5 A4 k sz bytes ob s x (dx s.T s.L y))
  | .P9=>one (tE lim l5 A4 k sz bytes ob s x (dx s.T s.L y))
  |_=>K
 | .call f xs=>ag6 A sem lim k f (xs.map (dx s.T s.L)) s
 |_=>K
end
section
variable {C:Ctx} {vs:List Nat} {s:SS} {st:I9} {A:Prog} {sem:Sem} (iD:ia C A sem)
theorem z8.aY9 {σ:y7->SV}{ρ:y7->c8}(h:∀x,(σ x).g C vs (ρ x)):∀xs:List y7,z8.g C vs (xs.map σ) (xs.map ρ)
 |[]=>by simp [z8.g]
 |x::xs=>by exact ⟨_,_,rfl,h x,z8.aY9 h xs⟩
def ax6:∀{x:List SV} {v:List c8},z8.g C vs x v->(x.headD .any).g C vs (v.headD .any)
 |[],_,h=>by simp_all [z8.g,SV.g]
 |x::xs,_,h=>by grind [z8.g]
include iD
def aD8 (hs:s.g C vs st){l:I7}{b k:Nat}{f:FuncId}{args:List SV}{as:List c8}(ha:z8.g C vs args as){outs:List SS}(h:ag6 A sem l k f args s=J outs) :
  ∃st' N,(∃o,o∈outs/\o.g C vs st')/\∀n,N<=n->D5 (M0 A n l b) k f as st=J st' :=by
 have hs' :=hs;obtain ⟨hT,hH,hL,ht,hB⟩:=hs;have hlen:=L4.len hH;unfold ag6 at h;split at h
 .split at h
  next os hos=>
   split at h
   next hall=>
    cases h;obtain ⟨v,H1,⟨o,o1,o2,o3⟩,N,hN⟩:=iD _ _ _ _ _ _ hos vs hB _ _ ha hH;have hl:=j9 (M1.1 hall o o1);have pH:=L4.len o3;refine ⟨_,N,⟨_,J4.2 ⟨o,o1,rfl⟩,ey (s:={ s with H:=o.2,o9:= .below (O o.2)::s.o9 }) (st:={ st with H:=H1,o9:= .below (O H1)::st.o9 }) ⟨hT,o3,hL,M,hB⟩ k o2⟩,λn hn=>?_⟩;simp_all [M0,D5,if_true,if_pos]
   .cases h
  .cases h
 .have jG:A.prom f=F:=M
  split at h
  next bs b0 WD hb0=>
   have e1:=Jj WD hH;have e2:=z8.dU hb0 ha;have e3:G6 st.H l.strict 8 (C5 as)=X3 bs l.strict 8 b0:=by rw [yC,e1,e2]
   have e4:∀n,E9 st.H l.strict n=tH bs l.strict n:=λn=>by rw [RJ,e1]
   generalize hcn:X3 bs l.strict 8 b0=n0 at h;rw [hcn] at e3;split at h
   next hc=>
    simp only [c7,Nat.ble_eq] at hc;have qm:P0 ((st.H.take n0).drop l.strict)<=n0:=by simp_all [sX]
    have hle:n0<=O st.H:=V
    have hHt:=L4.take hH n0;have hHd:=L4.drop hH n0;split at h
    next hm=>
     split at h
     next os hos=>
      split at h
      next hall=>
       cases h;obtain ⟨v,H1,⟨o,o1,o2,o3⟩,N,hN⟩:=iD _ _ _ _ _ _ hos vs hB _ _ ha hHt;have hl:=j5 (M1.1 hall o o1);have pH:=L4.len o3;refine ⟨_,N,⟨_,J4.2 ⟨o,o1,rfl⟩,ey (s:={ s with H:=o.2++s.H.drop n0,o9:= .below n0::s.o9 }) (st:={ st with H:=H1++st.H.drop n0,o9:= .below n0::st.o9 }) ⟨hT,L4.app o3 hHd,hL,M,hB⟩ k o2⟩,λn hn=>?_⟩;exact ny (E:=M0 A n l b) jG hm e3 hle qm rfl (by simp_all [M0]) V
      .cases h
     .cases h
    next hm=>
     split at h
     next os hos=>
      split at h
      next hall=>
       cases h;obtain ⟨v,H1,⟨o,o1,o2,o3⟩,N,hN⟩:=iD _ _ _ _ _ _ hos vs hB _ _ ha hHt;have hl:=j5 (M1.1 hall o o1);have pH:=L4.len o3;refine ⟨_,N,⟨_,J4.2 ⟨o,o1,rfl⟩,ey hs' k o2⟩,λn hn=>?_⟩;exact nA (E:=M0 A n l b) jG hm e3 hle qm rfl (by rw [show (M0 A n l b).lim=l from rfl,e4];exact hN n hn) V
      .cases h
     .cases h
    .split at h
     next m hmm=>
      split at h
      next os hos=>
       split at h
       next hall=>
        simp only [c7,Nat.ble_eq] at hall;cases h;obtain ⟨v,H1,⟨o,o1,o2,o3⟩,N,hN⟩:=iD _ _ _ _ _ _ hos vs hB _ _ ha hHt;have hl:=j5 (M1.1 hall.1 o o1);have pH:=L4.len o3;have hm2:=SV.dU hmm (ax6 ha);refine ⟨_,N,⟨_,J4.2 ⟨o,o1,rfl⟩,ey (s:={ s with H:=o.2.take m++s.H.drop m,o9:= .below m::s.o9 }) (st:={ st with H:=H1.take m++st.H.drop m,o9:= .below m::st.o9 }) ⟨hT,L4.app (L4.take o3 m) (L4.drop hH m),hL,M,hB⟩ k o2⟩,λn hn=>?_⟩;simp_all [M0,D5,j4,if_false,if_pos]
       .cases h
      .cases h
     .cases h
   .cases h
  .cases h
def bd1 (hs:s.g C vs st){l:I7}{b:Nat}{l5:List p7}{A4:Option Nat}{k:Nat}{op:x9}{outs:List SS}(h:bd0 A sem l b l5 A4 k s op=J outs) :
  ∃st' N,(∃o,o∈outs/\o.g C vs st')/\∀n,N<=n->F9 (M0 A n l b) l5 A4 k st op=J st' :=by
 have hr:=SS.K4 hs;cases op<;>simp only [bd0,reduceCtorEq] at h
 case alloc zero =>
  cases h;obtain ⟨n1,n2⟩:=Kt hs (A4:=A4) (o:= .cells K (zero.map ofA)) (o' := .cells zero) ⟨zero,rfl,DX zero,λk h=>by cases h⟩;exact ⟨_,0,⟨_,q8.2 rfl,ey n1 k (v:= .ptr (mW s A4) 0) (a:= .ptr (newId st A4) 0) (by grind [SV.g])⟩,λn _=>rfl⟩
 case box x =>
  split at h
  next cl hl=>
   cases h;obtain ⟨cs,h1,h2,h3⟩:=SV.BI (hr x) hl;obtain ⟨n1,n2⟩:=Kt hs (A4:=A4) (o:= .cells (dx s.T s.L x).tag cl) (o' := .cells cs) ⟨cs,rfl,h2,h3⟩;exact ⟨_,0,⟨_,q8.2 rfl,ey n1 k (v:= .ptr (mW s A4) 0) (a:= .ptr (newId st A4) 0) (by grind [SV.g])⟩,λn _=>by grind [F9]⟩
  .cases h
 case H6 sz len zero parts ob =>
  cases ob<;>simp [reduceCtorEq] at h;split at h
  next cs hcs=>
   split at h
   .cases h
    obtain ⟨ds,h1,h2⟩:=Cc (wX hr parts) (DX zero) hcs;have hl:=z8.len h2;obtain ⟨n1,n2⟩:=Kt hs (A4:=A4) (o:= .cells K cs) (o' := .cells ds) ⟨ds,rfl,h2,λk h=>by cases h⟩;refine ⟨_,0,⟨_,q8.2 rfl,ey n1 k (v:= .B8 (mW s A4) sz 0 len) (a:= .B8 (newId st A4) sz 0 len) (by grind [SV.g])⟩,λn _=>?_⟩;simp_all [F9,if_pos]
   .cases h
  .cases h
 case store n a x =>
  cases e:KC l k n s x (dx s.T s.L a) with
  |none=>rw [e] at h;cases h
  |some s' =>
   rw [e] at h;cases h;obtain ⟨st',h1,h2⟩:=aj1 (E:=M0 A 0 l b) hs (hr a) e;exact ⟨st',0,⟨_,q8.2 rfl,h2⟩,λn _=>h1⟩
 case append sz bytes ob x y =>
  have hx:=hr x;split at h
  next id z lo len e=>
   rw [e] at hx;split at h
   next hz=>
    have hz:=j5 hz;cases e2:BZ l b k sz bytes s id lo len (dx s.T s.L y) with
    |none=>rw [e2] at h;cases h
    |some s' =>
     rw [e2] at h;cases h;obtain ⟨st',h1,h2⟩:=Xr (E:=M0 A 0 l b) hs (hr y) e2;refine ⟨st',0,⟨_,q8.2 rfl,h2⟩,λn _=>?_⟩;simp only [F9,pZ hx];rw [if_pos hz];exact h1
   .cases h
  next x' e=>
   rw [e] at hx;obtain ⟨d,e3,_⟩:=cw hx;cases e2:tE l l5 A4 k sz bytes ob s x (dx s.T s.L y) with
   |none=>rw [e2] at h;cases h
   |some s' =>
    rw [e2] at h;cases h;obtain ⟨st',h1,h2⟩:=HJ (E:=M0 A 0 l b) hs (hr y) e2;refine ⟨st',0,⟨_,q8.2 rfl,h2⟩,λn _=>?_⟩;simp [F9,e3];exact h1
  next e=>
   rw [e] at hx;simp [SV.g] at hx;cases e2:tE l l5 A4 k sz bytes ob s x (dx s.T s.L y) with
   |none=>rw [e2] at h;cases h
   |some s' =>
    rw [e2] at h;cases h;obtain ⟨st',h1,h2⟩:=HJ (E:=M0 A 0 l b) hs (hr y) e2;refine ⟨st',0,⟨_,q8.2 rfl,h2⟩,λn _=>?_⟩;simp [F9,hx];exact h1
  .cases h
 case call f xs =>
  obtain ⟨st',N,h1,h2⟩:=aD8 iD (b:=b) hs (z8.aY9 hr xs) h;exact ⟨st',N,h1,λn hn=>by simp_all [F9]⟩
end
def wY (i7:jU)(c:SB)(t:Bool):Option jU:=match c with
 | .vQ=>J i7
 | .cmp i n pol=>match i7[i]? with
  |some (lo,hi)=>if t==pol then (if F3 (max lo (n+1)) hi then J (i7.set i (max lo (n+1),hi)) else K)
    else (if F3 lo (min hi n) then J (i7.set i (lo,min hi n)) else K)
  |none=>J i7
def Hz {vs:List Nat}{i7:jU}(hB:Bg vs i7){c:SB}{t:Bool}(h:c.g vs t):∃B',wY i7 c t=J B' /\Bg vs B' :=by
 cases c with
 |vQ=>exact ⟨i7,rfl,hB⟩
 |cmp i n pol =>
  obtain ⟨m,h1,h2⟩:=h;simp only [wY];split
  next lo hi hi0=>
   obtain ⟨m',e1,e2,e3⟩:=hB.2 _ _ _ hi0;rw [h1] at e1;have key:∀lo' hi',lo' <=m->m<=hi' ->Bg vs (i7.set i (lo',hi')):=by
    intro lo' hi' g1 g2;refine ⟨by simp [hB.1],λj a b hj=>?_⟩;rw [List.getElem?_set] at hj;split at hj
    .simp_all
    .exact hB.2 _ _ _ hj
   by_cases hp:(t==pol)=W
   .simp_all<;>grind
   simp_all<;>grind
  simp_all
def JE (s:SS)(j:Nat)(c:SB)(t:Bool):List SS:=match wY s.i7 c t with
 |some B' =>[{ s with L:=s.L.set j (.d (.lit (.bool t))),i7:=B' }]
 |none=>[]
def LW (s:SS)(j:Nat):List SS:=match s.L[j]? with
 |some (.d x)=>match x.bool? with
  |some (.u c)=>JE s j c W++JE s j c F
  |_=>[s]
 |_=>[s]
def qY (k:IntKind)(lo:Int):Nat->List SV
 |0=>[]
 |n+1=> .d (.lit (.int k lo))::qY k (lo+1) n
def Zf (s:SS)(j:Nat):List SS:=match s.L[j]? with
 |some (.d x)=>match x.int? s.i7 with
  |some (k,lo,hi,_)=>(qY k lo (hi - lo+1).toNat).map λv=>{ s with L:=s.L.set j v }
  |none=>[s]
 |_=>[s]
def JF (s:SS)(i lo:Nat):Nat->List SS
 |0=>[]
 |n+1=>{ s with i7:=s.i7.set i (lo,lo) }::JF s i (lo+1) n
def Zg (s:SS)(i:Nat):List SS:=match s.i7[i]? with
 |some (lo,hi)=>JF s i lo (hi+1 - lo)
 |none=>[s]
section
variable {C:Ctx} {vs:List Nat} {s:SS} {st:I9}
def SI (hs:s.g C vs st)(j:Nat):∃s',s'∈LW s j/\s'.g C vs st:=by
 have hs' :=hs;obtain ⟨hT,hH,hL,ht,hB⟩:=hs;unfold LW;split
 next x e=>
  split
  next c hc=>
   obtain ⟨a,h1,h2⟩:=z8.get hL e;obtain ⟨d,rfl,h3⟩:=cw h2;obtain ⟨t,rfl,h4⟩:=SD.gw hc h3;obtain ⟨B',h5,h6⟩:=Hz hB h4;have key:(JE s j c t)=[{ s with L:=s.L.set j (.d (.lit (.bool t))),i7:=B' }]:=by grind [JE]
   have hL2:z8.g C vs (s.L.set j (.d (.lit (.bool t)))) st.L:=by
    have:=z8.set hL j (a:= .d (.lit (.bool t))) (b:= .d (.bool t)) (dJ (by rfl));simp_all [aV]
   refine ⟨{ s with L:=s.L.set j (.d (.lit (.bool t))),i7:=B' },?_,hT,hH,hL2,ht,h6⟩;cases t with
   |true=>simp_all
   |false=>simp_all
  simp_all
 simp_all
theorem pJ {k:IntKind}:∀(n:Nat) (lo m:Int),lo<=m->m<lo+n->SV.d (.lit (.int k m))∈qY k lo n
 |0,lo,m,h1,h2=>V
 |n+1,lo,m,h1,h2=>by
  simp [qY,B6]
  by_cases h:m=lo
  .simp_all
  .exact .inr (pJ n (lo+1) m V V)
def aw3 (hs:s.g C vs st)(j:Nat):∃s',s'∈Zf s j/\s'.g C vs st:=by
 have hs' :=hs;obtain ⟨hT,hH,hL,ht,hB⟩:=hs;unfold Zf;split
 next x e=>
  split
  next k lo hi r hc=>
   obtain ⟨a,h1,h2⟩:=z8.get hL e;obtain ⟨d,rfl,h3⟩:=cw h2;obtain ⟨m,rfl,h4,h5,_⟩:=SD.kR hB hc h3;refine ⟨_,J4.2 ⟨_,pJ _ lo m h4 V,rfl⟩,hT,hH,?_,ht,hB⟩;have:=z8.set hL j (a:= .d (.lit (.int k m))) (b:= .d (.int k m)) (dJ (by rfl));simp_all [aV]
  simp_all
 simp_all
theorem Dq {i:Nat}:∀(n lo m:Nat),lo<=m->m<lo+n->{ s with i7:=s.i7.set i (m,m) }∈JF s i lo n
 |0,lo,m,h1,h2=>V
 |n+1,lo,m,h1,h2=>by
  simp [JF,B6]
  by_cases h:m=lo
  .simp_all
  .exact .inr (Dq n (lo+1) m V V)
def aw4 (hs:s.g C vs st)(i:Nat):∃s',s'∈Zg s i/\s'.g C vs st:=by
 have hs' :=hs;obtain ⟨hT,hH,hL,ht,hB⟩:=hs;unfold Zg;split
 next lo hi e=>
  obtain ⟨m,h1,h2,h3⟩:=hB.2 _ _ _ e;refine ⟨_,Dq _ lo m h2 V,hT,hH,hL,ht,by simp [hB.1],λj a b hj=>?_⟩;rw [List.getElem?_set] at hj;split at hj
  .grind
  .exact hB.2 _ _ _ hj
 simp_all
end
def nX (n:Nat):SD->Option (SD×(Nat×Nat))
 | .slice K lo hi row=>if Nat.blt lo hi then J (.slice (J n) lo hi row,(lo,hi)) else K
 | .pr k x=>match nX n x with
  |some (y,p)=>J (.pr k y,p)
  |none=>K
 |_=>K
theorem BS {C:Ctx}{vs:List Nat}:∀{x y:SD} {p:Nat×Nat} {d:Data},nX (O vs) x=J (y,p)->x.g C vs d->∃m,p.1<=m/\m<=p.2/\y.g C (vs++[m]) d
 | .slice v lo hi row,y,p,d,h,hg=>by
  cases v<;>simp only [nX,reduceCtorEq] at h;split at h
  .obtain ⟨rfl,rfl⟩:=h
   obtain ⟨rows,rfl,h1,h2,h3,h4⟩:=hg;refine ⟨O rows,h1,h2,?_⟩
   grind [SD.g,L0.S8,Le.app]
  .cases h
 | .pr k x,y,p,d,h,hg=>by
  simp [nX] at h;split at h
  next y' p' e=>
   obtain ⟨m,h1,h2,h3⟩:=BS e hg.2
   grind [SD.g]
  .cases h
 | .top,_,_,_,h,_=>by simp [nX] at h
 | .lit _,_,_,_,h,_=>by simp [nX] at h
 | .bool _,_,_,_,h,_=>by simp [nX] at h
 | .int ..,_,_,_,h,_=>by simp [nX] at h
 | .anyI _,_,_,_,h,_=>by simp [nX] at h
 | .str _,_,_,_,h,_=>by simp [nX] at h
def MO (n:Nat):SV->Option (SV×(Nat×Nat))
 | .d x=>match nX n x with
  |some (y,p)=>J (.d y,p)
  |none=>K
 | .own z x=>match nX n x with
  |some (y,p)=>J (.own z y,p)
  |none=>K
 | .q x=>match nX n x with
  |some (y,p)=>J (.q y,p)
  |none=>K
 |_=>K
def JT {C:Ctx}{vs:List Nat}{x y:SV}{p:Nat×Nat}{v:c8}(h:MO (O vs) x=J (y,p))(hg:x.g C vs v):∃m,p.1<=m/\m<=p.2/\y.g C (vs++[m]) v:=by
 cases x<;>simp [MO,reduceCtorEq] at h
 .grind [Option.some.injEq,Prod.mk.injEq,cw,BS,dJ]
 .grind [Option.some.injEq,Prod.mk.injEq,vt,BS,SV.g]
 grind [Option.some.injEq,Prod.mk.injEq,SV.g,BS]
def aa4 (s:SS)(k:Nat):SS:=match s.L[k]? with
 |some v=>match MO (O s.i7) v with
  |some (w,p)=>{ s with L:=s.L.set k w,i7:=s.i7++[p] }
  |none=>s
 |none=>s
def aa3 (s:SS)(id off:Nat):SS:=match s.H[id]? with
 |some (.cells p l)=>match l[off]? with
  |some v=>match MO (O s.i7) v with
   |some (w,q)=>{ s with H:=s.H.set id (.cells p (l.set off w)),i7:=s.i7++[q] }
   |none=>s
  |none=>s
 |_=>s
section
variable {C:Ctx} {vs:List Nat} {s:SS} {st:I9}
theorem Bg.add {i7:jU}(hB:Bg vs i7){p:Nat×Nat}{m:Nat}(h1:p.1<=m)(h2:m<=p.2):Bg (vs++[m]) (i7++[p]):=by
 refine ⟨by simp [hB.1],λi a b h=>?_⟩
 rcases A5 i (O i7) with hi|hi
 .rw [B9 hi] at h
  obtain ⟨q,e1,e2⟩:=hB.2 _ _ _ h
  grind
 .rw [y3 hi] at h
  cases e:i - O i7 with
  |zero =>
   rw [e] at h;simp at h;have hb:=hB.1;simp_all [y3]
  |succ q=>simp_all
theorem SS.mono {ws:List Nat}(hl:Le vs ws)(hs:s.g C vs st):z8.g C ws s.T st.T/\L4.g C ws s.H st.H/\z8.g C ws s.L st.L :=
 ⟨z8.S8 hl _ hs.1,L4.S8 hl _ hs.2.1,z8.S8 hl _ hs.2.2.1⟩
def aA1 (hs:s.g C vs st)(k:Nat):∃ws,Le vs ws/\(aa4 s k).g C ws st:=by
 unfold aa4;split
 next v e=>
  split
  next w p hn=>
   rw [<- hs.2.2.2.2.1] at hn;obtain ⟨a,h1,h2⟩:=z8.get hs.2.2.1 e;obtain ⟨m,h3,h4,h5⟩:=JT hn h2;obtain ⟨g1,g2,g3⟩:=SS.mono (Le.app vs [m]) hs;refine ⟨vs++[m],Le.app _ _,g1,g2,?_,hs.2.2.2.1,hs.2.2.2.2.add h3 h4⟩;have:=z8.set g3 k h5;simp_all [aV]
  grind [Le.refl]
 grind [Le.refl]
def aA0 (hs:s.g C vs st)(id off:Nat):∃ws,Le vs ws/\(aa3 s id off).g C ws st:=by
 unfold aa3;split
 next p l e=>
  split
  next v e2=>
   split
   next w q hn=>
    rw [<- hs.2.2.2.2.1] at hn;obtain ⟨o,h1,h2⟩:=L4.get hs.2.1 e;obtain ⟨cs,rfl,h3,h4⟩:=h2;obtain ⟨a,h5,h6⟩:=z8.get h3 e2;obtain ⟨m,h7,h8,h9⟩:=JT hn h6;obtain ⟨g1,g2,g3⟩:=SS.mono (Le.app vs [m]) hs;refine ⟨vs++[m],Le.app _ _,g1,?_,g3,hs.2.2.2.1,hs.2.2.2.2.add h7 h8⟩;have e3:SO.g C (vs++[m]) (.cells p (l.set off w)) (.cells cs):=by
     refine ⟨cs,rfl,?_,h4⟩;have:=z8.set (z8.S8 (Le.app vs [m]) _ h3) off h9;simp_all [aV]
    have:=L4.set g2 id e3;simp_all [aV]
   grind [Le.refl]
  grind [Le.refl]
 grind [Le.refl]
end
inductive Fk where
 |no
 |b (j:Nat)
 |i (j:Nat)
 |l (i:Nat)
def aM1 (i7:jU):SV->Fk
 | .d z=>match z.vi i7 with
  |some (J i,lo,hi)=>if Nat.blt lo hi then .l i else .no
  |_=> .no
 |_=> .no
def bs1 (s:SS):x9->Fk
 | .pick (.loc j) _ _=> .b j
 | .O4 sz x (.loc j)=>match dx s.T s.L x with
  | .B8 .. =>if u5 sz 7 then .no else .i j
  |_=> .no
 | .append _ _ ob x y=>if ob then aM1 s.i7 (dx s.T s.L y) else match dx s.T s.L x with
  | .B8 .. =>aM1 s.i7 (dx s.T s.L y)
  |_=> .no
 |_=> .no
def Zh (s:SS)(op:x9):List SS:=match bs1 s op with
 | .no=>[s]
 | .b j=>LW s j
 | .i j=>Zf s j
 | .l i=>Zg s i
def bb0 (s:SS):x9->SS
 | .load K x=>match dx s.T s.L x with
  | .ptr id off=>aa3 s id off
  |_=>s
 |_=>s
def KI (L:List SV):Option (Nat×Bool)->Option Bool
 |none=>J W
 |some (j,want)=>match L[j]? with
  |some (.d x)=>match x.bool? with
   |some (.t b)=>J (b==want)
   |_=>K
  |some (.tuple [])=>J F
  |_=>K
def ov (A4:Option Nat)(s:SS)(k:Nat):Option Nat->Option SS
 |none=>J s
 |some t=>match A4 with
  |none=>if Nat.blt t (O s.T) then J { (cU s (.loc k)).2 with T:=s.T.set t (cU s (.loc k)).1,o9:= .slot t::s.o9 } else K
  |some _=>if Nat.blt t (O s.T)&&Me s.o9 t then J { (cU s (.loc k)).2 with T:=s.T.set t (cU s (.loc k)).1 } else K
section
variable (A:Prog) (sem:Sem) (lim:I7) (entry:Nat) (l5:List p7) (A4:Option Nat) (k:Nat)
def RC (op:x9)(s:SS):Option (List (SS×List Nat)) :=
 if op.D6 then match bd0 A sem lim entry l5 A4 k s op with
  |some outs=>J (outs.map λo=>(o,[]))
  |none=>K
 else match op with
  | .Q5 x=>J [(rV (cU s x).2 k (cU s x).1,[])]
  |op=>match Ew (dx s.T s.L) s.H s.i7 op with
   |some (v,rs)=>J [(rV s k v,rs)]
   |none=>K
def bC0 (dst:Option Nat)(o:SS×List Nat):Option (List (SS×List Nat)):=match ov A4 (aa4 o.1 k) k dst with
 |some s' =>J [(s',o.2)]
 |none=>K
def sdo (i:p7)(s:SS):Option (List (SS×List Nat)):=match RC A sem lim entry l5 A4 k i.op (bb0 s i.op) with
 |some outs=>je (bC0 A4 k i.dst) outs
 |none=>K
def ai9 (i:p7)(s:SS):Option (List (SS×List Nat)):=match KI s.L i.guard with
 |some W=>je (sdo A sem lim entry l5 A4 k i) (Zh s i.op)
 |some F=>match ov A4 (rV s k (.tuple [])) k i.dst with
  |some s' =>J [(s',[])]
  |none=>K
 |none=>K
def ai8 (i:p7)(s:SS):Option (List (SS×List Nat)):=je (ai9 A sem lim entry l5 A4 k i) (match i.guard with
 |some (j,_)=>LW s j
 |none=>[s])
end
section
variable {C:Ctx} {vs:List Nat} {s:SS} {st:I9} {A:Prog} {sem:Sem}
def aw5 (hs:s.g C vs st)(op:x9):∃s',s'∈Zh s op/\s'.g C vs st:=by
 unfold Zh;split
 all_goals simp_all [q8,SI,aw3,aw4]
def bb1 (hs:s.g C vs st)(op:x9):∃ws,Le vs ws/\(bb0 s op).g C ws st:=by
 unfold bb0;split
 .split
  .exact aA0 hs _ _
  grind [Le.refl]
 grind [Le.refl]
def HV (hs:s.g C vs st){gd:Option (Nat×Bool)}{t:Bool}(h:KI s.L gd=J t):y8 st.L gd=J t:=by
 cases gd with
 |none=>exact h
 |some p =>
  simp [KI] at h;split at h
  next x e=>
   obtain ⟨a,h1,h2⟩:=z8.get hs.2.2.1 e
   grind [cw,SD.gw,y8]
  next e=>
   obtain ⟨a,h1,h2⟩:=z8.get hs.2.2.1 e;simp_all [SV.g,z8.g,y8]
  .cases h
def HU (hs:s.g C vs st){A4:Option Nat}{k:Nat}{dst:Option Nat}{s' :SS}(h:ov A4 s k dst=J s'):∃st',u9 A4 st k dst=J st' /\s'.g C vs st' :=by
 cases dst with
 |none=>simp [ov,Option.some.injEq] at h;subst h;exact ⟨st,by cases A4<;>rfl,hs⟩
 |some t =>
  have hlen:=z8.len hs.1;obtain ⟨hv,hT,hH,hL,ht,hB⟩:=Cj hs (.loc k);cases A4 with
  |none =>
   simp only [ov] at h;split at h
   .cases h
    refine ⟨{ (E7 st (.loc k)).2 with T:=st.T.set t (E7 st (.loc k)).1,o9:= .slot t::st.o9 },?_,z8.set hs.1 t hv,hH,hL,congrArg (Touch.slot t::·) hs.2.2.2.1,hB⟩;simp_all [u9,F2,if_pos]
   .cases h
  |some q =>
   simp only [ov] at h;split at h
   next hc=>
    simp [c7] at hc;have qn:=hc.2;unfold Me at qn;rw [<- hs.2.2.2.1] at qn;cases h;refine ⟨{ (E7 st (.loc k)).2 with T:=st.T.set t (E7 st (.loc k)).1 },?_,z8.set hs.1 t hv,hH,hL,ht,hB⟩;simp_all [u9,Y5,if_pos,Bool.and_true,decide_eq_true_eq]
   .cases h
variable (iD:ia C A sem)
include iD
def aj0 (hs:s.g C vs st){l:I7}{b:Nat}{l5:List p7}{A4:Option Nat}{k:Nat}{op:x9}{outs:List (SS×List Nat)}(h:RC A sem l b l5 A4 k op s=J outs) :
  ∃st' rs N,(∃o,o∈outs/\o.2=rs/\o.1.g C vs st')/\∀n,N<=n->E1 (M0 A n l b) l5 A4 k op st=J (st',rs):=by
 unfold RC at h;split at h
 .split at h
  next os hos=>
   cases h;obtain ⟨st',N,⟨o,h1,h2⟩,h3⟩:=bd1 iD (b:=b) hs hos;exact ⟨st',[],N,⟨_,J4.2 ⟨o,h1,rfl⟩,rfl,h2⟩,λn hn=>by simp_all [E1,if_true]⟩
  .cases h
 .have he:op.D6=F:=M
  split at h
  next x _=>
   cases h;obtain ⟨h1,h2⟩:=Cj hs x;exact ⟨_,[],0,⟨_,q8.2 rfl,rfl,ey h2 k h1⟩,λn _=>by rfl⟩
  .split at h
   next v rs hp=>
    cases h;obtain ⟨r,h1,h2⟩:=aF2 hs.2.2.2.2 (SS.K4 hs) hs.2.1 hp;refine ⟨_,rs,0,⟨_,q8.2 rfl,rfl,ey hs k h2⟩,λn _=>?_⟩;simp_all [E1,j4,if_false,absurd]
   .cases h
def bB7 (hs:s.g C vs st){l:I7}{b:Nat}{l5:List p7}{A4:Option Nat}{k:Nat}{i:p7}{outs:List (SS×List Nat)}(hw:y8 st.L i.guard=J W)(h:sdo A sem l b l5 A4 k i s=J outs) :
  ∃st' rs N,(∃o,o∈outs/\o.2=rs/\∃ws,Le vs ws/\o.1.g C ws st')/\∀n,N<=n->z6 (M0 A n l b) l5 A4 k i st=J (st',rs):=by
 unfold sdo at h;split at h
 next os hos=>
  obtain ⟨ws,l1,h1⟩:=bb1 hs i.op;obtain ⟨st1,rs,N,⟨o,o1,o2,o3⟩,h2⟩:=aj0 iD h1 hos;obtain ⟨x,hx,hm⟩:=Z9 h o o1;unfold bC0 at hx;split at hx
  next s' hs'=>
   cases hx;obtain ⟨ws2,l2,h3⟩:=aA1 o3 k;obtain ⟨st2,h4,h5⟩:=HU h3 hs';refine ⟨st2,rs,N,⟨_,hm _ (q8.2 rfl),o2,ws2,l1.trans l2,h5⟩,λn hn=>?_⟩;simp_all [z6]
  .cases hx
 .cases h
def TL (hs:s.g C vs st){l:I7}{b:Nat}{l5:List p7}{A4:Option Nat}{k:Nat}{i:p7}{outs:List (SS×List Nat)}(h:ai8 A sem l b l5 A4 k i s=J outs) :
  ∃st' rs N,(∃o,o∈outs/\o.2=rs/\∃ws,Le vs ws/\o.1.g C ws st')/\∀n,N<=n->z6 (M0 A n l b) l5 A4 k i st=J (st',rs):=by
 obtain ⟨s1,m1,g1⟩:∃s',s'∈(match i.guard with|some (j,_)=>LW s j|none=>[s])/\s'.g C vs st:=by
  split
  all_goals simp_all [SI,q8]
 obtain ⟨x,hx,hm⟩:=Z9 h s1 m1;unfold ai9 at hx;split at hx
 next hw=>
  have hw:=HV g1 hw;obtain ⟨s2,m2,g2⟩:=aw5 g1 i.op;obtain ⟨y,hy,hm2⟩:=Z9 hx s2 m2;obtain ⟨st',rs,N,⟨o,o1,o2,o3⟩,h3⟩:=bB7 iD g2 hw hy;exact ⟨st',rs,N,⟨o,hm _ (hm2 _ o1),o2,o3⟩,h3⟩
 next hw=>
  have hw:=HV g1 hw;split at hx
  next s' hs'=>
   cases hx;obtain ⟨st2,h4,h5⟩:=HU (ey g1 k (v:= .tuple []) (a:= .tuple []) (by simp_all [SV.g,z8.g])) hs';exact ⟨st2,[],0,⟨_,hm _ (q8.2 rfl),rfl,vs,Le.refl _,h5⟩,λn _=>by simp_all [z6]⟩
  .cases hx
 .cases hx
end
section
variable (A:Prog) (sem:Sem) (lim:I7) (entry:Nat) (l5:List p7)
def xy:List p7->Nat->SS->Option (List SS)
 |[],_,s=>J [s]
 |i::is,k,s=>match ai8 A sem lim entry l5 K k i s with
  |some outs=>je (λo=>xy is (k+1) o.1) outs
  |none=>K
def ai7 (s:SS):x9->Option Nat
 | .call f xs=>if A.prom f then J (O s.H) else match CE s.H,z8.aa (xs.map (dx s.T s.L)) with
  |some bs,J b0=>J (X3 bs lim.strict 8 b0)
  |_,_=>K
 | .bC _ _=>K
 |_=>J 0
def TH (s:SS):x9->Bool
 | .append _ _ _ x _=>match dx s.T s.L x with
  | .d _=>F
  | .P9=>F
  |_=>W
 |_=>F
def TE (s:SS)(op:x9)(a:p7):Bool:=match op,a.op with
 | .append _ _ _ x _,.Q5 (.slot t)=>a.dst.isNone&&a.guard.isNone&&(match dx s.T s.L x,s.T[t]? with
  | .B8 id _ _ _,J (.ptr j _)=> !u5 j id
  |_,_=>F)
 |_,_=>F
def NI:List p7->Nat->Nat->SS->Option (List (SS×List lQ))
 |[],_,_,s=>J [(s,[])]
 |i::is,k,na,s=>if TH s i.op&&l5.any (λa=>a.cB.contains k&& !TE s i.op a) then K else match ai7 A lim s i.op with
  |some Km=>match ai8 A sem lim entry l5 (if i.op.B0 then J na else K) k i s with
   |some outs=>je (λo=>match NI is (k+1) (if i.op.B0 then na+1 else na) o.1 with
    |some rs=>J (rs.map λr=>(r.1,⟨o.2,iI (if i.op.B0 then J na else K)++o.1.o9.take (O o.1.o9 - O s.o9),Km,(if i.op.B0 then J na else K).getD 0⟩::r.2))
    |none=>K) outs
   |none=>K
  |none=>K
def Ch (draw:Bool)(T:List SV)(H:List SO)(i7:jU):Option (List SS) :=
 if draw then match NI A sem lim entry l5 l5 0 (O H) ⟨T,H++(l5.filter (·.op.B0)).map (λ_=> .dead),c9 (O l5) .any,slotsOf l5,i7⟩ with
  |some outs=>if outs.all (λo=>ud l5 o.2) then J (outs.map (·.1)) else K
  |none=>K
 else xy A sem lim entry l5 l5 0 ⟨T,H,c9 (O l5) .any,[],i7⟩
end
section
variable {C:Ctx} {A:Prog} {sem:Sem} (iD:ia C A sem)
theorem Jf {vs:List Nat}:∀n,z8.g C vs (c9 n .any) (c9 n .any)
 |0=>by simp [z8.g]
 |n+1=>by exact ⟨_,_,rfl,rfl,Jf n⟩
theorem Sv {vs:List Nat}:∀l:List p7,L4.g C vs (l.map λ_=> .dead) (l.map λ_=> .dead)
 |[]=>by simp [L4.g]
 |_::l=>by exact ⟨_,_,rfl,rfl,Sv l⟩
include iD
theorem HQ {l:I7}{b:Nat}{l5:List p7}:∀(ops:List p7) (k:Nat) {vs:List Nat} {s:SS} {st:I9} {outs:List SS},s.g C vs st->xy A sem l b l5 ops k s=J outs ->
  ∃r N,(∃o,o∈outs/\∃ws,Le vs ws/\o.g C ws r)/\∀n,N<=n->gK (M0 A n l b) l5 ops k st=J r
 |[],k,vs,s,st,outs,hs,h=>by
  simp [xy,Option.some.injEq] at h;subst h;exact ⟨st,0,⟨s,q8.2 rfl,vs,Le.refl _,hs⟩,λ_ _=>rfl⟩
 |i::is,k,vs,s,st,outs,hs,h=>by
  simp [xy] at h;split at h
  next os hos=>
   obtain ⟨st',rs,N,⟨o,o1,o2,ws,l1,o3⟩,h1⟩:=TL iD hs hos;obtain ⟨x,hx,hm⟩:=Z9 h o o1;obtain ⟨r,N2,⟨o',p1,ws2,l2,p2⟩,h2⟩:=HQ is (k+1) o3 hx;refine ⟨r,max N N2,⟨o',hm _ p1,ws2,l1.trans l2,p2⟩,λn hn=>?_⟩
   grind [gK]
  .cases h
omit iD in
def aF4 {l:I7}{b n:Nat}{vs:List Nat}{s:SS}{st:I9}(hs:s.g C vs st){op:x9}{m:Nat}(h:ai7 A l s op=J m):M9 (M0 A n l b) st op=m:=by
 unfold ai7 at h;split at h
 next f xs=>
  have jG:(M0 A n l b).prom f=A.prom f:=rfl;have hlim:(M0 A n l b).lim=l:=rfl;split at h
  next hp=>
   cases h;simp [M9,jG,hp];exact L4.len hs.2.1
  next hp=>
   split at h
   next bs b0 WD hb0=>
    cases h;simp [M9,jG];rw [if_neg hp,hlim,yC,Jj WD hs.2.1,z8.dU hb0 (z8.aY9 (SS.K4 hs) xs)]
   .cases h
 .cases h
 .cases h
  cases op<;>first
   |rfl
   |simp_all
   |simp_all
omit iD in
def aE5 {vs:List Nat}{s:SS}{st:I9}(hs:s.g C vs st){op:x9}(h:¬ TH s op=W):I5 st op=F:=by
 unfold TH at h;split at h
 next sz bytes ob x y=>
  have hx:=SS.K4 hs x
  grind [cw,I5,SV.g,absurd]
 .cases op<;>first
   |rfl
   |grind
omit iD in
def aD9 {vs:List Nat}{s:SS}{st:I9}(hs:s.g C vs st){op:x9}{a:p7}(h:TE s op a=W):calm st op a=W:=by
 unfold TE at h;unfold calm;split at h
 next sz Ys ob x y t ho=>
  simp only [c7] at h;simp only [ho,h.1.1,h.1.2,Bool.true_and];have h3:=h.2;split at h3
  next id z lo n j o e1 e2=>
   have hx:=SS.K4 hs x;rw [e1] at hx;simp only [SV.g] at hx;obtain ⟨v,g1,g2⟩:=z8.get hs.1 e2;rw [di g2] at g1;simp only [hx,g1,h3]
  .cases h3
 .cases h
theorem TK {l:I7}{b:Nat}{l5:List p7}:∀(ops:List p7) (k na:Nat) {vs:List Nat} {s:SS} {st:I9} {outs:List (SS×List lQ)},s.g C vs st->NI A sem l b l5 ops k na s=J outs ->
  ∃r lg N,(∃o,o∈outs/\o.2=lg/\∃ws,Le vs ws/\o.1.g C ws r)/\∀n,N<=n->S6 (M0 A n l b) l5 ops k na st=J (r,lg)
 |[],k,na,vs,s,st,outs,hs,h=>by
  simp only [NI,Option.some.injEq] at h;subst h;exact ⟨st,[],0,⟨_,q8.2 rfl,rfl,vs,Le.refl _,hs⟩,λ_ _=>rfl⟩
 |i::is,k,na,vs,s,st,outs,hs,h=>by
  simp only [NI] at h;split at h
  .cases h
  next hk=>
   have hk:(I5 st i.op&&l5.any (λa=>a.cB.contains k&& !calm st i.op a))=F:=by
    cases hu:TH s i.op with
    |false=>rw [aE5 hs (by simp [hu])];rfl
    |true =>
     rw [hu,Bool.true_and] at hk;have h0:(l5.any λa=>a.cB.contains k&& !calm st i.op a)=F:=by
      rw [List.any_eq_false];intro a ha hc;simp only [c7,p6] at hc;refine hk (List.any_eq_true.2 ⟨a,ha,?_⟩);simp only [hc.1,Bool.true_and,p6];cases hs' :TE s i.op a with
      |false=>rfl
      |true=>rw [aD9 hs hs'] at hc;cases hc.2
     rw [h0,Bool.and_false]
   split at h
   next Km WJ=>
    split at h
    next os hos=>
     obtain ⟨st',rs,N,⟨o,o1,o2,ws,l1,o3⟩,h1⟩:=TL iD hs hos;obtain ⟨x,hx,hm⟩:=Z9 h o o1;split at hx
     next rr hrr=>
      cases hx;obtain ⟨r,lg,N2,⟨o',p1,p2,ws2,l2,p3⟩,h2⟩:=TK is (k+1) _ o3 hrr;refine ⟨r,_,max N N2,⟨_,hm _ (J4.2 ⟨o',p1,rfl⟩),rfl,ws2,l1.trans l2,p3⟩,λn hn=>?_⟩;have hg3:=o3.2.2.2.1;simp only [S6,lD,hk,j4,if_false,h1 n V,h2 n V,eO,aF4 hs WJ,o2,p2,hg3,hs.2.2.2.1]
     .cases hx
    .cases h
   .cases h
def HP {l:I7}{b:Nat}{l5:List p7}{draw:Bool}{vs:List Nat}{T:List SV}{H:List SO}{i7:jU}{T' :List c8}{H' :q6}{outs:List SS}(hT:z8.g C vs T T')(hH:L4.g C vs H H')(hB:Bg vs i7)(h:Ch A sem l b l5 draw T H i7=J outs) :
  Rn A l b l5 draw T' H' λT2 H2 L2=>∃o,o∈outs/\∃ws,Le vs ws/\z8.g C ws o.T T2/\L4.g C ws o.H H2/\z8.g C ws o.L L2/\Bg ws o.i7:=by
 unfold Ch at h;split at h
 .split at h
  next os hos=>
   split at h
   .cases h
    have hlen:=L4.len hH;obtain ⟨r,lg,N,⟨o,o1,o2,ws,l1,o3⟩,h1⟩:=TK iD l5 0 (O H) (st:=⟨T',H' ++aO l5,c9 (O l5) .any,slotsOf l5⟩) ⟨hT,L4.app hH (Sv _),Jf _,rfl,hB⟩ hos;refine ⟨r,N,⟨o.1,J4.2 ⟨o,o1,rfl⟩,ws,l1,o3.1,o3.2.1,o3.2.2.1,o3.2.2.2.2⟩,λn hn=>?_⟩
    grind [T5]
   .cases h
  .cases h
 .obtain ⟨r,N,⟨o,o1,ws,l1,o3⟩,h1⟩:=HQ iD l5 0 (st:=⟨T',H',c9 (O l5) .any,[]⟩) ⟨hT,hH,Jf _,rfl,hB⟩ h
  refine ⟨r,N,⟨o,o1,ws,l1,o3.1,o3.2.1,o3.2.2.1,o3.2.2.2.2⟩,λn hn=>?_⟩;simp_all [T5,if_neg]
end
structure CS where
 T:List SV
 H:List SO
 i7:jU
def CS.g (C:Ctx)(vs:List Nat)(s:CS)(st:St):Prop:=z8.g C vs s.T st.T/\L4.g C vs s.H st.H/\Bg vs s.i7
def ak4:Option Nat->Option Nat->Option Nat
 |some i,J j=>if u5 i j then J i else K
 |_,_=>K
def NU:Option Nat->Option Nat->Bool
 |some i,J j=>u5 i j
 |none,K=>W
 |_,_=>F
def SD.mark:SD->Option Nat
 | .pr k _=>J k
 |_=>K
mutual
def SV.join:SV->SV->Option SV
 | .any,y=>match y with
  | .any=>J .any
  |_=>J .top
 | .top,_=>J .top
 | .d x,y=>match y with
  | .d y=>if NU x.mark y.mark then J (.d (x.join y)) else K
  | .own _ y=>J (.q (x.join y))
  | .q y=>J (.q (x.join y))
  | .any=>J .top
  | .top=>J .top
  |_=>K
 | .own z x,y=>match y with
  | .own z' y=>if u5 z z' then J (.own z (x.join y)) else K
  | .d y=>J (.q (x.join y))
  | .q y=>J (.q (x.join y))
  | .any=>J .top
  | .top=>J .top
  |_=>K
 | .q x,y=>match y with
  | .own _ y=>J (.q (x.join y))
  | .d y=>J (.q (x.join y))
  | .q y=>J (.q (x.join y))
  | .any=>J .top
  | .top=>J .top
  |_=>K
 | .P9,y=>match y with
  | .P9=>J .P9
  | .any=>J .top
  | .top=>J .top
  |_=>K
 | .ptr i o,y=>match y with
  | .ptr i' o' =>if u5 i i' &&u5 o o' then J (.ptr i o) else K
  | .any=>J .top
  | .top=>J .top
  |_=>K
 | .U9 _,_=>J .top
 | .wp i l z c,y=>match y with
  | .wp i' l' z' c' =>if u5 i i' &&u5 l l' &&u5 z z' &&u5 c c' then J (.wp i l z c) else K
  | .any=>J .top
  | .top=>J .top
  |_=>K
 | .B8 i z l n,y=>match y with
  | .B8 i' z' l' n' =>if u5 i i' &&u5 z z' &&u5 l l' &&u5 n n' then J (.B8 i z l n) else K
  | .any=>J .top
  | .top=>J .top
  |_=>K
 | .agg p l,y=>match y with
  | .agg p' l' =>match z8.join l l' with
   |some r=>J (.agg (ak4 p p') r)
   |none=>K
  | .any=>J .top
  | .top=>J .top
  |_=>K
 | .tuple l,y=>match y with
  | .tuple l' =>match z8.join l l' with
   |some r=>J (.tuple r)
   |none=>K
  | .any=>J .top
  | .top=>J .top
  |_=>K
 | .bn k,y=>match y with
  | .bn k' =>if u5 k k' then J (.bn k) else K
  | .any=>J .top
  | .top=>J .top
  |_=>K
def z8.join:List SV->List SV->Option (List SV)
 |[],ys=>match ys with
  |[]=>J []
  |_=>K
 |x::xs,ys=>match ys with
  |y::ys=>match x.join y,z8.join xs ys with
   |some a,J r=>J (a::r)
   |_,_=>K
  |[]=>K
end
def SO.join:SO->SO->Option SO
 | .dead,.dead=>J .dead
 | .cells p l,.cells p' l' =>if NU p p' then match z8.join l l' with
   |some r=>J (.cells p r)
   |none=>K
  else K
 | .pr k,.pr k' =>if u5 k k' then J (.pr k) else K
 | .bn k,.bn k' =>if u5 k k' then J (.bn k) else K
 | .Ec k b,.Ec k' b' =>if u5 k k' &&u5 b b' then J (.Ec k b) else K
 |_,_=>K
def L4.join:List SO->List SO->Option (List SO)
 |[],[]=>J []
 |x::xs,y::ys=>match x.join y,L4.join xs ys with
  |some a,J r=>J (a::r)
  |_,_=>K
 |_,_=>K
def QG (a b:Nat×Nat):Nat×Nat:=(min a.1 b.1,max a.2 b.2)
def Yd (B1 B2:jU):Option jU:=if (B1.drop (O B2)++B2.drop (O B1)).all (λp=>F3 p.1 p.2) then J (List.zipWith QG B1 B2++(B1.drop (O B2)++B2.drop (O B1))) else K
def lz (kp:List Nat)(s t:CS):Bool:=kp.all λj=>match s.T[j]?,t.T[j]? with
 |some (.d (.lit (.int _ a))),J (.d (.lit (.int _ b)))=>decide (a=b)
 |_,_=>W
def CS.join (kp:List Nat)(s t:CS):Option CS:=if lz kp s t then match z8.join s.T t.T,L4.join s.H t.H,Yd s.i7 t.i7 with
 |some T,J H,J i7=>J ⟨T,H,i7⟩
 |_,_,_=>K
 else K
def ZA (kp:List Nat)(s:CS):List CS->List CS
 |[]=>[s]
 |t::r=>match CS.join kp t s with
  |some u=>u::r
  |none=>t::ZA kp s r
def rA (kp:List Nat):List CS->List CS
 |[]=>[]
 |s::r=>ZA kp s (rA kp r)
section
variable {C:Ctx} {vs:List Nat}
def Kf {x:SV}{v:c8}(h:x.g C vs v){y:SD}(hx:x.data? =J y:=by rfl):∃d,v.K7= .d d/\y.g C vs d:=by
 cases x<;>simp [SV.data?,reduceCtorEq,Option.some.injEq] at hx<;>subst hx<;>simp [SV.g] at h
 .obtain ⟨d,rfl,h2⟩:=h;exact ⟨d,rfl,h2⟩
 .obtain ⟨a,b,rfl,h2⟩:=h;exact ⟨_,rfl,h2⟩
 .subst h;exact ⟨_,rfl,by simp [SD.g]⟩
 .exact h
def Ke {x:SD}{v:c8}{d:Data}(h0:v.K7= .d d)(h:x.g C vs d):(SV.q x).g C vs v:=by simp_all [SV.g]
def be2 {p q:Option Nat}{k:Nat}(h:ak4 p q=J k):p=J k:=by
 simp_all [ak4]<;>grind
def be3 {p q:Option Nat}{k:Nat}(h:ak4 p q=J k):q=J k:=by
 simp_all [ak4]<;>grind
theorem NV {p q:Option Nat}(h:NU p q=W):p=q:=by
 unfold NU at h
 grind [j5]
mutual
theorem SV.W1:∀(x y:SV) {z:SV} {v:c8},x.join y=J z->x.g C vs v->z.g C vs v
 | .any,y,z,_,h,hg=>by
  cases y<;>simp only [SV.join,Option.some.injEq] at h<;>subst h<;>first|exact hg|simp [SV.g]
 | .top,y,z,_,h,hg=>by simp only [SV.join,Option.some.injEq] at h;subst h;exact hg
 | .d x,y,z,_,h,hg=>by
  cases y<;>simp only [SV.join,Option.some.injEq,reduceCtorEq] at h<;>(try split at h)<;>first
   |(cases h;simp [SV.g];done)
   |(cases h;obtain ⟨d,rfl,h1⟩:=cw hg;exact dJ (SD.W1 _ _ h1))
   |(cases h;obtain ⟨d,h0,h1⟩:=Kf hg;exact Ke h0 (SD.W1 _ _ h1))
   |(cases h;done)
 | .q x,y,z,_,h,hg=>by
  cases y<;>simp only [SV.join,Option.some.injEq,reduceCtorEq] at h<;>subst h<;>first
   |(simp [SV.g];done)
   |(obtain ⟨d,h0,h1⟩:=Kf hg;exact Ke h0 (SD.W1 _ _ h1))
 | .own w x,y,z,_,h,hg=>by
  cases y<;>simp only [SV.join,Option.some.injEq,reduceCtorEq] at h
  .subst h;simp [SV.g]
  .subst h;simp [SV.g]
  .subst h;obtain ⟨d,h0,h1⟩:=Kf hg;exact Ke h0 (SD.W1 _ _ h1)
  .split at h
   .cases h
    obtain ⟨len,cells,rfl,h1⟩:=vt hg;simp only [SV.g];exact ⟨_,_,rfl,SD.W1 _ _ h1⟩
   .cases h
  .subst h;obtain ⟨d,h0,h1⟩:=Kf hg;exact Ke h0 (SD.W1 _ _ h1)
 | .P9,y,z,_,h,hg=>by
  cases y<;>simp only [SV.join,Option.some.injEq,reduceCtorEq] at h<;>subst h<;>first|exact hg|simp [SV.g]
 | .ptr i o,y,z,_,h,hg=>by
  cases y<;>simp only [SV.join,Option.some.injEq,reduceCtorEq] at h
  .subst h;simp [SV.g]
  .subst h;simp [SV.g]
  .split at h
   .cases h;exact hg
   .cases h
 | .wp i l w c,y,z,_,h,hg=>by
  cases y<;>simp only [SV.join,Option.some.injEq,reduceCtorEq] at h
  .subst h;simp [SV.g]
  .subst h;simp [SV.g]
  .split at h
   .cases h;exact hg
   .cases h
 | .U9 _,y,z,_,h,hg=>by simp only [SV.join,Option.some.injEq] at h;subst h;simp [SV.g]
 | .B8 i w l n,y,z,_,h,hg=>by
  cases y<;>simp only [SV.join,Option.some.injEq,reduceCtorEq] at h
  .subst h;simp [SV.g]
  .subst h;simp [SV.g]
  .split at h
   .cases h;exact hg
   .cases h
 | .agg p l,y,z,_,h,hg=>by
  cases y<;>simp only [SV.join,Option.some.injEq,reduceCtorEq] at h
  .subst h;simp [SV.g]
  .subst h;simp [SV.g]
  .split at h
   next r hr=>
    cases h;simp only [SV.g] at hg ⊢;obtain ⟨cs,rfl,h1,h2⟩:=hg;exact ⟨cs,rfl,z8.W1 _ _ hr h1,λk hk=>h2 k (be2 hk)⟩
   .cases h
 | .tuple l,y,z,_,h,hg=>by
  cases y<;>simp only [SV.join,Option.some.injEq,reduceCtorEq] at h
  .subst h;simp [SV.g]
  .subst h;simp [SV.g]
  .split at h
   next r hr=>
    cases h;simp only [SV.g] at hg ⊢;obtain ⟨cs,rfl,h1⟩:=hg;exact ⟨cs,rfl,z8.W1 _ _ hr h1⟩
   .cases h
 | .bn k,y,z,_,h,hg=>by
  cases y<;>simp only [SV.join,Option.some.injEq,reduceCtorEq] at h
  .subst h;simp [SV.g]
  .subst h;simp [SV.g]
  .split at h
   next e=>
    have e:=j5 e;subst e;cases h;exact hg
   .cases h
theorem z8.W1:∀(x y:List SV) {z:List SV} {v:List c8},z8.join x y=J z->z8.g C vs x v->z8.g C vs z v
 |[],y,z,_,h,hg=>by cases y<;>simp only [z8.join,Option.some.injEq,reduceCtorEq] at h;subst h;exact hg
 |x::xs,y,z,_,h,hg=>by
  cases y<;>simp only [z8.join,reduceCtorEq] at h;split at h
  next a r ha hr=>
   cases h;simp only [z8.g] at hg ⊢;obtain ⟨d,ds,rfl,h1,h2⟩:=hg;exact ⟨d,ds,rfl,SV.W1 _ _ ha h1,z8.W1 _ _ hr h2⟩
  .cases h
end
mutual
theorem SV.W4:∀(x y:SV) {z:SV} {v:c8},x.join y=J z->y.g C vs v->z.g C vs v
 | .any,y,z,_,h,hg=>by
  cases y<;>simp only [SV.join,Option.some.injEq] at h<;>subst h<;>first|exact hg|simp [SV.g]
 | .top,y,z,_,h,hg=>by simp only [SV.join,Option.some.injEq] at h;subst h;simp [SV.g]
 | .d x,y,z,_,h,hg=>by
  cases y<;>simp only [SV.join,Option.some.injEq,reduceCtorEq] at h<;>(try split at h)<;>first
   |(cases h;simp [SV.g];done)
   |(cases h;obtain ⟨d,rfl,h1⟩:=cw hg;exact dJ (SD.W4 _ _ h1))
   |(cases h;obtain ⟨d,h0,h1⟩:=Kf hg;exact Ke h0 (SD.W4 _ _ h1))
   |(cases h;done)
 | .q x,y,z,_,h,hg=>by
  cases y<;>simp only [SV.join,Option.some.injEq,reduceCtorEq] at h<;>subst h<;>first
   |(simp [SV.g];done)
   |(obtain ⟨d,h0,h1⟩:=Kf hg;exact Ke h0 (SD.W4 _ _ h1))
 | .own w x,y,z,_,h,hg=>by
  cases y<;>simp only [SV.join,Option.some.injEq,reduceCtorEq] at h
  .subst h;simp [SV.g]
  .subst h;simp [SV.g]
  .subst h;obtain ⟨d,h0,h1⟩:=Kf hg;exact Ke h0 (SD.W4 _ _ h1)
  .split at h
   next e=>
    have e:=j5 e;subst e;cases h;obtain ⟨len,cells,rfl,h1⟩:=vt hg;simp only [SV.g];exact ⟨_,_,rfl,SD.W4 _ _ h1⟩
   .cases h
  .subst h;obtain ⟨d,h0,h1⟩:=Kf hg;exact Ke h0 (SD.W4 _ _ h1)
 | .P9,y,z,_,h,hg=>by
  cases y<;>simp only [SV.join,Option.some.injEq,reduceCtorEq] at h<;>subst h<;>first|exact hg|simp [SV.g]
 | .ptr i o,y,z,_,h,hg=>by
  cases y<;>simp only [SV.join,Option.some.injEq,reduceCtorEq] at h
  .subst h;simp [SV.g]
  .subst h;simp [SV.g]
  .split at h
   next e=>
    simp only [c7] at e;have e1:=j5 e.1;have e2:=j5 e.2;subst e1 e2;cases h;exact hg
   .cases h
 | .wp i l w c,y,z,_,h,hg=>by
  cases y<;>simp only [SV.join,Option.some.injEq,reduceCtorEq] at h
  .subst h;simp [SV.g]
  .subst h;simp [SV.g]
  .split at h
   next e=>
    simp only [c7] at e;have e1:=j5 e.1.1.1;have e2:=j5 e.1.1.2;have e3:=j5 e.1.2;have e4:=j5 e.2;subst e1 e2 e3 e4;cases h;exact hg
   .cases h
 | .U9 _,y,z,_,h,hg=>by simp only [SV.join,Option.some.injEq] at h;subst h;simp [SV.g]
 | .B8 i w l n,y,z,_,h,hg=>by
  cases y<;>simp only [SV.join,Option.some.injEq,reduceCtorEq] at h
  .subst h;simp [SV.g]
  .subst h;simp [SV.g]
  .split at h
   next e=>
    simp only [c7] at e;have e1:=j5 e.1.1.1;have e2:=j5 e.1.1.2;have e3:=j5 e.1.2;have e4:=j5 e.2;subst e1 e2 e3 e4;cases h;exact hg
   .cases h
 | .agg p l,y,z,_,h,hg=>by
  cases y<;>simp only [SV.join,Option.some.injEq,reduceCtorEq] at h
  .subst h;simp [SV.g]
  .subst h;simp [SV.g]
  .split at h
   next r hr=>
    cases h;simp only [SV.g] at hg ⊢;obtain ⟨cs,rfl,h1,h2⟩:=hg;exact ⟨cs,rfl,z8.W4 _ _ hr h1,λk hk=>h2 k (be3 hk)⟩
   .cases h
 | .tuple l,y,z,_,h,hg=>by
  cases y<;>simp only [SV.join,Option.some.injEq,reduceCtorEq] at h
  .subst h;simp [SV.g]
  .subst h;simp [SV.g]
  .split at h
   next r hr=>
    cases h;simp only [SV.g] at hg ⊢;obtain ⟨cs,rfl,h1⟩:=hg;exact ⟨cs,rfl,z8.W4 _ _ hr h1⟩
   .cases h
 | .bn k,y,z,_,h,hg=>by
  cases y<;>simp only [SV.join,Option.some.injEq,reduceCtorEq] at h
  .subst h;simp [SV.g]
  .subst h;simp [SV.g]
  .split at h
   next e=>
    have e:=j5 e;subst e;cases h;exact hg
   .cases h
theorem z8.W4:∀(x y:List SV) {z:List SV} {v:List c8},z8.join x y=J z->z8.g C vs y v->z8.g C vs z v
 |[],y,z,_,h,hg=>by cases y<;>simp only [z8.join,Option.some.injEq,reduceCtorEq] at h;subst h;exact hg
 |x::xs,y,z,_,h,hg=>by
  cases y<;>simp only [z8.join,reduceCtorEq] at h;split at h
  next a r ha hr=>
   cases h;simp only [z8.g] at hg ⊢;obtain ⟨d,ds,rfl,h1,h2⟩:=hg;exact ⟨d,ds,rfl,SV.W4 _ _ ha h1,z8.W4 _ _ hr h2⟩
  .cases h
end
def SO.mR {x y z:SO}{o:y6}(h:x.join y=J z):(x.g C vs o->z.g C vs o)/\(y.g C vs o->z.g C vs o):=by
 cases x<;>cases y<;>simp only [SO.join,Option.some.injEq,reduceCtorEq] at h
 .subst h;exact ⟨id,id⟩
 .split at h
  next hp=>
   have hp:=NV hp;subst hp;split at h
   next r hr=>
    cases h;exact ⟨λ⟨cs,h1,h2,h3⟩=>⟨cs,h1,z8.W1 _ _ hr h2,h3⟩,λ⟨cs,h1,h2,h3⟩=>⟨cs,h1,z8.W4 _ _ hr h2,h3⟩⟩
   .cases h
  .cases h
 .split at h
  next e=>
   have e:=j5 e;subst e;cases h;exact ⟨id,id⟩
  .cases h
 .split at h
  next e=>
   have e:=j5 e;subst e;cases h;exact ⟨id,id⟩
  .cases h
 .split at h
  next e=>
   simp only [c7] at e;have e1:=j5 e.1;have e2:=j5 e.2;subst e1 e2;cases h;exact ⟨id,id⟩
  .cases h
theorem L4.mR:∀{x y z:List SO} {o:q6},L4.join x y=J z->(L4.g C vs x o->L4.g C vs z o)/\(L4.g C vs y o->L4.g C vs z o)
 |[],[],z,o,h=>by simp_all [L4.join,Option.some.injEq]
 |[],_::_,z,o,h=>by simp [L4.join] at h
 |_::_,[],z,o,h=>by simp [L4.join] at h
 |x::xs,y::ys,z,o,h=>by
  simp [L4.join] at h;split at h
  next a r ha hr=>
   cases h;refine ⟨λhg=>?_,λhg=>?_⟩
   .obtain ⟨d,ds,rfl,h1,h2⟩:=hg
    exact ⟨d,ds,rfl,(SO.mR ha).1 h1,(L4.mR hr).1 h2⟩
   .obtain ⟨d,ds,rfl,h1,h2⟩:=hg
    exact ⟨d,ds,rfl,(SO.mR ha).2 h1,(L4.mR hr).2 h2⟩
  .cases h
theorem Bg.aR1:∀(R:jU) {vs:List Nat} {i7:jU},Bg vs i7->R.all (λp=>F3 p.1 p.2)=W->∃ws,Le vs ws/\Bg ws (i7++R)
 |[],vs,i7,h,_=>⟨vs,Le.refl _,by simpa using h⟩
 |p::R,vs,i7,h,hr=>by
  simp only [List.all_cons,c7,Nat.ble_eq] at hr;obtain ⟨ws,h1,h2⟩:=Bg.aR1 R (h.add (p:=p) (m:=p.1) (l6 _) hr.1) hr.2;exact ⟨ws,(Le.app _ _).trans h1,M⟩
def aG7 {B1 B2:jU}{i lo hi:Nat}(h:(List.zipWith QG B1 B2)[i]? =J (lo,hi)):∃a b,B1[i]? =J a/\B2[i]? =J b/\lo=min a.1 b.1/\hi=max a.2 b.2:=by
 grind [Option.some.injEq,QG,Prod.mk.injEq]
theorem Bg.bD3 {B1 B2:jU}(hB:Bg vs B1):Bg vs (List.zipWith QG B1 B2++B1.drop (O B2)):=by
 refine ⟨by simp [hB.1];omega,λi lo hi h=>?_⟩
 rcases A5 i (O (List.zipWith QG B1 B2)) with hl|hl
 .rw [B9 hl] at h
  obtain ⟨a,b,h1,h2,h3,h4⟩:=aG7 h;obtain ⟨m,e1,e2,e3⟩:=hB.2 i a.1 a.2 h1
  grind
 .rw [y3 hl,List.getElem?_drop] at h
  simp [List.length_zipWith] at h hl
  rcases Nat.le_total (O B1) (O B2) with hc|hc
  .grind
  .rw [show O B2+(i - min (O B1) (O B2))=i by omega] at h
   exact hB.2 _ _ _ h
def Bg.bD4 {B1 B2:jU}(hB:Bg vs B2):Bg vs (List.zipWith QG B1 B2++B2.drop (O B1)):=by
 grind [Bg.bD3,List.zipWith,QG,List.zipWith_comm,Nat.min_comm,Nat.max_comm]
def RU {B1 B2 i7:jU}(h:Yd B1 B2=J i7):(Bg vs B1->∃ws,Le vs ws/\Bg ws i7)/\(Bg vs B2->∃ws,Le vs ws/\Bg ws i7):=by
 unfold Yd at h;split at h
 next hall=>
  cases h;rw [List.all_append,c7] at hall;refine ⟨λhB=>?_,λhB=>?_⟩
  .rw [<- D3]
   exact Bg.aR1 _ hB.bD3 hall.2
  .rcases Nat.le_total (O B1) (O B2) with hc|hc
   .rw [show B1.drop (O B2)=[] from n9 hc,B3]
    exact ⟨vs,Le.refl _,hB.bD4⟩
   .have h2:B2.drop (O B1)=[]:=n9 hc
    have:=hB.bD4 (B1:=B1)
    grind [Bg.aR1]
 .cases h
theorem CS.mR {kp:List Nat}{s t u:CS}{st:St}(h:CS.join kp s t=J u):(s.g C vs st->∃ws,Le vs ws/\u.g C ws st)/\(t.g C vs st->∃ws,Le vs ws/\u.g C ws st):=by
 unfold CS.join at h;split at h
 .split at h
  next T H i7 hT hH hB=>
   cases h;refine ⟨λ⟨h1,h2,h3⟩=>?_,λ⟨h1,h2,h3⟩=>?_⟩
   .obtain ⟨ws,l1,h4⟩:=(RU hB).1 h3
    exact ⟨ws,l1,z8.S8 l1 _ (z8.W1 _ _ hT h1),L4.S8 l1 _ ((L4.mR hH).1 h2),h4⟩
   .obtain ⟨ws,l1,h4⟩:=(RU hB).2 h3
    exact ⟨ws,l1,z8.S8 l1 _ (z8.W4 _ _ hT h1),L4.S8 l1 _ ((L4.mR hH).2 h2),h4⟩
  .cases h
 .cases h
theorem QK {kp:List Nat}{st:St}:∀(s:CS) (l:List CS),(s.g C vs st->∃t,t∈ZA kp s l/\∃ws,Le vs ws/\t.g C ws st)/\∀t,t∈l->t.g C vs st->∃u,u∈ZA kp s l/\∃ws,Le vs ws/\u.g C ws st
 |s,[]=>⟨λh=>⟨s,q8.2 rfl,vs,Le.refl _,h⟩,λt h=>by cases h⟩
 |s,q::r=>by
  simp only [ZA];split
  next u hu=>
   refine ⟨λh=>?_,λt ht h=>?_⟩
   .obtain ⟨ws,l1,h1⟩:=(CS.mR hu).2 h
    grind
   .rcases B6.1 ht with rfl|ht
    .obtain ⟨ws,l1,h1⟩:=(CS.mR hu).1 h
     grind
    grind [List.mem_cons_of_mem,Le.refl]
  .obtain ⟨h1,h2⟩:=QK s r
   refine ⟨λh=>?_,λt ht h=>?_⟩
   .obtain ⟨t,m,h3⟩:=h1 h
    exact ⟨t,List.mem_cons_of_mem _ m,h3⟩
   grind [List.mem_cons_self,Le.refl,List.mem_cons_of_mem]
theorem rC {kp:List Nat}{st:St}:∀(l:List CS) {vs:List Nat} {s:CS},s∈l->s.g C vs st->∃t,t∈rA kp l/\∃ws,Le vs ws/\t.g C ws st
 |q::r,vs,s,hm,h=>by
  rcases B6.1 hm with rfl|hm
  .simp_all [QK,rA]
  .obtain ⟨t,m,ws,l1,h1⟩:=rC r hm h
   obtain ⟨u,m2,ws2,l2,h2⟩:=(QK q (rA kp r)).2 t m h1;exact ⟨u,m2,ws2,l1.trans l2,h2⟩
end
def AF:List Bool->List SV->List SV
 |true::m,v::vs=>v::AF m vs
 |false::m,_::vs=> .any::AF m vs
 |[],_::vs=> .any::AF [] vs
 |_,[]=>[]
def Rm (mask:List Bool)(strict n:Nat)(s:CS):Option CS:=match z8.aa (AF mask s.T),CE s.H with
 |some a,J bs=>if F3 a n&&F3 (CA ((bs.take n).drop strict)) n then J ⟨AF mask s.T,s.H.take n,s.i7⟩ else J ⟨AF mask s.T,s.H,s.i7⟩
 |_,_=>K
def Ey:List SV->Nat->Option (Nat×Nat×Nat×Nat×Nat)
 |[],_=>K
 | .B8 id sz lo len::_,i=>J (i,id,sz,lo,len)
 | .top::_,_=>K
 | .bn _::_,_=>K
 |_::r,i=>Ey r (i+1)
def sfz (lim:I7)(entry t:Nat)(s:CS):Option CS:=match s.T[t]? with
 |some (.ptr b o)=>if u5 o 0 then match s.H[b]? with
  |some (.cells _ cs)=>match Ey cs 0 with
   |some (i,id,sz,lo,len)=>match srd s.H id lo (len * sz) with
    |some l=>match mA l with
     |some xs=>if F3 lim.base id&&F3 entry id&&lim.may id&&F3 lim.base b&& !(u5 id b)&&u5 (O xs) (len * sz) then
       J ⟨z8.kill id s.T,((s.H.take lim.base++(s.H.drop lim.base).map (SO.kill id)).set id .dead).set b (.cells K ((z8.kill id cs).set i (.d (mkSlice sz len xs)))),s.i7⟩
      else K
     |none=>K
    |none=>K
   |none=>K
  |_=>K
  else K
 |_=>K
abbrev Lc:=List p7->Bool->y7->CS->Option (List CS×List CS)
def DU:List (I6×CS)->List CS
 |[]=>[]
 |(.normal,s)::r=>s::DU r
 |_::r=>DU r
def Dh:List (I6×CS)->List (I6×CS)
 |[]=>[]
 |(.normal,_)::r=>Dh r
 |x::r=>x::Dh r
def unB (id:Nat):List (I6×CS)->List (I6×CS)
 |[]=>[]
 |(.exit i,s)::r=>(if u5 i id then .normal else .exit i,s)::unB id r
 |x::r=>x::unB id r
def ND (kp:List Nat)(body:CS->Option (List (I6×CS)))(mask:List Bool)(strict n:Nat):Nat->List CS->Option (List (I6×CS))
 |0,l=>if l.isEmpty then J [] else K
 |k+1,l=>if l.isEmpty then J [] else
  match je (λs=>match Rm mask strict n s with
   |some s' =>body s'
   |none=>K) l with
  |some outs=>match ND kp body mask strict n k (rA kp (DU outs)) with
   |some r=>J (Dh outs++r)
   |none=>K
  |none=>K
def branch (v:SV)(s:CS):Option (List CS×List CS):=match v with
 | .d x=>match x.bool? with
  |some (.t b)=>J (if b then ([s],[]) else ([],[s]))
  |some (.u c)=>J (match wY s.i7 c W with|some B' =>[{ s with i7:=B' }]|none=>[],match wY s.i7 c F with|some B' =>[{ s with i7:=B' }]|none=>[])
  |none=>K
 |_=>K
def vX:List SS->y7->Option (List CS×List CS)
 |[],_=>J ([],[])
 |o::r,c=>match branch (dx o.T o.L c) ⟨o.T,o.H,o.i7⟩,vX r c with
  |some (p,q),J (p',q')=>J (p++p',q++q')
  |_,_=>K
section
variable (A:Prog) (sem:Sem) (hook:Lc) (kp:List Nat) (lim:I7) (entry fuel:Nat)
def dn:q7->CS->Option (List (I6×CS))
 | .skip,s=>J [(.normal,s)]
 | .region ops draw,s=>match Ch A sem lim entry ops draw s.T s.H s.i7 with
  |some outs=>J (outs.map λo=>(.normal,⟨o.T,o.H,o.i7⟩))
  |none=>K
 | .seq a b,s=>match dn a s with
  |some outs=>match je (dn b) (rA kp (DU outs)) with
   |some r=>J (Dh outs++r)
   |none=>K
  |none=>K
 | .cond c a b,s=>match branch (dx s.T [] c) s with
  |some (p,q)=>match je (dn a) p,je (dn b) q with
   |some x,J y=>J (x++y)
   |_,_=>K
  |none=>K
 | .test ops draw c a b,s=>match (match hook ops draw c s with
   |some pq=>J pq
   |none=>match Ch A sem lim entry ops draw s.T s.H s.i7 with
    |some outs=>vX outs c
    |none=>K) with
  |some (p,q)=>match je (dn a) (rA kp p),je (dn b) (rA kp q) with
   |some x,J y=>J (x++y)
   |_,_=>K
  |none=>K
 | .block id body,s=>match dn body s with
  |some outs=>J (unB id outs)
  |none=>K
 | .loop mask body,s=>ND kp (dn body) mask lim.strict (O s.H) fuel [s]
 | .exit id,s=>J [(.exit id,s)]
 | .ret,s=>J [(.ret,s)]
 | .fz t,s=>match sfz lim entry t s with
  |some s' =>J [(.normal,s')]
  |none=>K
 | .bad,_=>K
end
def ExL (A:Prog)(l:I7)(b:Nat)(mask:List Bool)(body:q7)(n0:Nat)(st:St)(Q:I6->St->Prop):Prop :=
 ∃x s N,Q x s/\∀n,N<=n->∀j,N<=j->jl (exec (M0 A n l b) n body) mask l.strict n0 j st=J (x,s)
section
variable {A:Prog} {l:I7} {b:Nat}
def ExL.step {mask:List Bool}{body:q7}{n0:Nat}{st:St}{Q:I6->St->Prop}(h:Ex A l b body (clean mask l.strict n0 st) (yM Q λs' =>ExL A l b mask body n0 s' Q)):ExL A l b mask body n0 st Q:=by
 obtain ⟨x,s1,N,hq,h1⟩:=h;cases x with
 |normal =>
  obtain ⟨x,s2,N2,hq2,h2⟩:=hq;refine ⟨x,s2,max N N2+1,hq2,λn hn j hj=>?_⟩;obtain ⟨j,rfl⟩:∃j',j=j' +1:=⟨j - 1,V⟩
  grind [jl]
 |exit i =>
  refine ⟨_,_,N+1,hq,λn hn j hj=>?_⟩;obtain ⟨j,rfl⟩:∃j',j=j' +1:=⟨j - 1,V⟩
  grind [jl]
 |ret =>
  refine ⟨_,_,N+1,hq,λn hn j hj=>?_⟩;obtain ⟨j,rfl⟩:∃j',j=j' +1:=⟨j - 1,V⟩
  grind [jl]
def Ex.ofL {mask:List Bool}{body:q7}{st:St}{Q:I6->St->Prop}(h:ExL A l b mask body (O st.H) st Q):Ex A l b (.loop mask body) st Q:=by
 obtain ⟨x,s,N,hq,h⟩:=h;exact ⟨x,s,N,hq,λn hn=>by exact h n hn n hn⟩
theorem ExL.mono {mask:List Bool}{body:q7}{n0:Nat}{st:St}{Q R:I6->St->Prop}(h:ExL A l b mask body n0 st Q)(k:∀x s,Q x s->R x s):ExL A l b mask body n0 st R:=by
 obtain ⟨x,s,N,hq,h⟩:=h;exact ⟨x,s,N,k x s hq,h⟩
def IY (C:Ctx)(A:Prog)(l:I7)(b:Nat)(hook:Lc):Prop:=∀ops dr c s p q,hook ops dr c s=J (p,q)->∀vs T H,CS.g C vs s ⟨T,H⟩ ->
 Rn A l b ops dr T H λT' H' L=>∃t,K4 T' L c= .d (.bool t)/\∃o,o∈(if t then p else q)/\∃ws,Le vs ws/\o.g C ws ⟨T',H'⟩
variable {C:Ctx}
def Post (C:Ctx)(vs:List Nat)(outs:List (I6×CS))(x:I6)(st:St):Prop:=∃o,o∈outs/\o.1=x/\∃ws,Le vs ws/\o.2.g C ws st
def Post.sub {vs ws:List Nat}{o1 o2:List (I6×CS)}{x:I6}{st:St}(h:Post C ws o1 x st)(hl:Le vs ws)(hs:∀o,o∈o1->o∈o2):Post C vs o2 x st:=by
 obtain ⟨o,h1,h2,us,l1,h3⟩:=h;exact ⟨o,hs o h1,h2,us,hl.trans l1,h3⟩
theorem yY:∀{l:List (I6×CS)} {o:I6×CS},o∈l->o.1= .normal->o.2∈DU l
 |(e,s)::r,o,hm,h=>by
  rcases B6.1 hm with rfl|hm
  .simp_all [DU]
  .have:=yY hm h
   cases e<;>simp [DU,this]
theorem nK:∀{l:List (I6×CS)} {o:I6×CS},o∈l->o.1≠ .normal->o∈Dh l
 |(e,s)::r,o,hm,h=>by
  rcases B6.1 hm with rfl|hm
  .simp_all [Dh]
  .have:=nK hm h
   cases e<;>simp [Dh,this]
theorem TU {id:Nat}:∀{l:List (I6×CS)} {o:I6×CS},o∈l->(match o.1 with| .exit i=>if i=id then (I6.normal,o.2) else (I6.exit i,o.2)|x=>(x,o.2))∈unB id l
 |(e,s)::r,o,hm=>by
  rcases B6.1 hm with rfl|hm
  .cases e with
   |exit i =>
    simp_all [unB]<;>grind
   |normal=>simp [unB]
   |ret=>simp [unB]
  .have:=TU (id:=id) hm
   cases e<;>simp [unB,B6]<;>exact .inr this
theorem Cf {vs:List Nat}:∀(m:List Bool) {x:List SV} {v:List c8},z8.g C vs x v->z8.g C vs (AF m x) (V4 m v)
 |m,[],_,h=>by simp_all [z8.g,AF,V4]
 |[],x::xs,_,h=>by
  obtain ⟨d,ds,rfl,h1,h2⟩:=h;exact ⟨_,_,rfl,rfl,Cf [] h2⟩
 |true::m,x::xs,_,h=>by
  obtain ⟨d,ds,rfl,h1,h2⟩:=h;exact ⟨_,_,rfl,h1,Cf m h2⟩
 |false::m,x::xs,_,h=>by
  obtain ⟨d,ds,rfl,h1,h2⟩:=h;exact ⟨_,_,rfl,rfl,Cf m h2⟩
def ag7 {vs:List Nat}{s s' :CS}{st:St}{mask:List Bool}{strict n:Nat}(hs:s.g C vs st)(h:Rm mask strict n s=J s'):s'.g C vs (clean mask strict n st):=by
 obtain ⟨hT,hH,hB⟩:=hs;have hm:=Cf mask hT;unfold Rm at h;split at h
 next a bs ha WD=>
  have e1:=z8.dU ha hm;have e2:=Jj WD hH;split at h
  next hc=>
   simp [c7,Nat.ble_eq] at hc;cases h;unfold clean;rw [if_pos ⟨V,by simp_all [sX]⟩];exact ⟨hm,L4.take hH n,hB⟩
  .cases h
   unfold clean;rw [if_neg (by simp_all [sX])];exact ⟨hm,hH,hB⟩
 .cases h
theorem dw {vs:List Nat}:∀{x:List SV} {v:List c8} {k:Nat} {r:Nat×Nat×Nat×Nat×Nat},z8.g C vs x v->Ey x k=J r->fN v k=J r
 |[],_,_,_,_,h=>by simp [Ey] at h
 |x::xs,_,k,r,hg,h=>by
  simp only [z8.g] at hg;obtain ⟨d,ds,rfl,h1,h2⟩:=hg;cases x<;>simp only [Ey,reduceCtorEq] at h<;>simp only [SV.g] at h1
  .subst h1;simp only [fN];exact dw h2 h
  .obtain ⟨_,rfl,_⟩:=h1;simp only [fN];exact dw h2 h
  .obtain ⟨_,_,rfl,_⟩:=h1;simp only [fN];exact dw h2 h
  .subst h1;simp only [fN];exact dw h2 h
  .subst h1;simp only [fN];exact dw h2 h
  .obtain ⟨_,_,rfl,_⟩:=h1;simp only [fN];exact dw h2 h
  .subst h1;simp only [fN];exact h
  .obtain ⟨_,rfl,_⟩:=h1;simp only [fN];exact dw h2 h
  .obtain ⟨_,rfl,_⟩:=h1;simp only [fN];exact dw h2 h
  .obtain ⟨_,h0,_⟩:=h1;cases d<;>simp only [c8.K7,reduceCtorEq] at h0<;>simp only [fN]<;>exact dw h2 h
  .obtain ⟨_,_,rfl⟩:=h1;simp only [fN];exact dw h2 h
def bC1 {vs:List Nat}{s s' :CS}{st:St}{entry t:Nat}(hs:s.g C vs st)(h:sfz l entry t s=J s'):∃st',pE l entry t st=J st' /\s'.g C vs st' :=by
 obtain ⟨hT,hH,hB⟩:=hs;unfold sfz at h;split at h
 next b' o e=>
  obtain ⟨a,h1,h2⟩:=z8.get hT e;have h2:=di h2;subst h2;split at h
  next ho=>
   have ho:=j5 ho;subst ho;split at h
   next p cs e2=>
    obtain ⟨o,h3,h4⟩:=L4.get hH e2;obtain ⟨ds,rfl,h5,_⟩:=h4;split at h
    next i id sz lo len hr=>
     have hr:=dw h5 hr;split at h
     next l' hl=>
      obtain ⟨us,h6,h7⟩:=HO hH hl;split at h
      next xs hxs=>
       obtain ⟨ys,h8,h9⟩:=rQ h7 hxs;split at h
       next hc=>
        simp only [c7,Nat.ble_eq,p6] at hc;obtain ⟨⟨⟨⟨⟨c1,c2⟩,c3⟩,c4⟩,c5⟩,c6⟩:=hc;have c6:=j5 c6;have c5:id≠b' :=λe=>by rw [e] at c5;simp at c5
        cases h;refine ⟨⟨K6 id st.T,((st.H.take l.base++(st.H.drop l.base).map (y6.kill id)).set id .dead).set b' (.cells ((K6 id ds).set i (.d (.slice len ys))))⟩,?_,z8.gE id hT,L4.set (L4.set (L4.app (L4.take hH _) (L4.map (λ_ _=>SO.gE id) (L4.drop hH _))) id (a:= .dead) (b:= .dead) rfl) b' (a:= .cells K ((z8.kill id cs).set i (.d (mkSlice sz len xs)))) (b:= .cells ((K6 id ds).set i (.d (.slice len ys)))) ⟨_,rfl,z8.set (z8.gE id h5) i (dJ (tv c6 h9)),λk h=>by cases h⟩,hB⟩;simp only [pE,wG,h1,h3,hr,h6,h8];rw [if_pos ⟨c1,c2,c3,c4,c5⟩]
       .cases h
      .cases h
     .cases h
    .cases h
   .cases h
  .cases h
 .cases h
def Lt {vs:List Nat}{v:SV}{a:c8}{s:CS}{st:St}{p q:List CS}(hv:v.g C vs a)(hs:s.g C vs st)(h:branch v s=J (p,q)):∃t,a= .d (.bool t)/\∃o,o∈(if t then p else q)/\o.g C vs st:=by
 unfold branch at h;split at h
 .obtain ⟨d,rfl,h1⟩:=cw hv
  split at h
  .grind [SD.gw,Option.some.injEq]
  next c hc=>
   obtain ⟨t,rfl,h2⟩:=SD.gw hc h1;obtain ⟨B',h3,h4⟩:=Hz hs.2.2 h2;refine ⟨t,rfl,{ s with i7:=B' },?_,hs.1,hs.2.1,h4⟩
   grind
  .cases h
 .cases h
theorem vY:∀{outs:List SS} {c:y7} {p q:List CS},vX outs c=J (p,q)->∀o,o∈outs->∃p' q',branch (dx o.T o.L c) ⟨o.T,o.H,o.i7⟩=J (p',q')/\(∀x,x∈p' ->x∈p)/\∀x,x∈q' ->x∈q
 |o::r,c,p,q,h,o',hm=>by
  simp [vX] at h;split at h
  next p1 q1 p2 q2 h1 h2=>
   rcases B6.1 hm with rfl|hm
   .grind
   .obtain ⟨p',q',h3,h4,h5⟩:=vY h2 o' hm
    grind
  .cases h
variable {sem:Sem} (iD:ia C A sem) {hook:Lc} (Md:IY C A l b hook) {kp:List Nat} {fuel:Nat}
omit iD Md in
theorem TI {body:q7}{sb:CS->Option (List (I6×CS))}(hb:∀{vs s st outs},CS.g C vs s st->sb s=J outs->Ex A l b body st (Post C vs outs)){mask:List Bool}{n0:Nat} :
  ∀(k:Nat) {L:List CS} {vs:List Nat} {s:CS} {st:St} {outs:List (I6×CS)},s∈L->s.g C vs st->ND kp sb mask l.strict n0 k L=J outs->ExL A l b mask body n0 st (Post C vs outs)
 |0,L,vs,s,st,outs,hm,hs,h=>by
  simp_all [ND]
 |k+1,L,vs,s,st,outs,hm,hs,h=>by
  have hne:L.isEmpty=F:=by grind
  simp [ND,hne,j4,if_false] at h;split at h
  next os hos=>
   split at h
   next r hr=>
    cases h;obtain ⟨x,hx,hmx⟩:=Z9 hos s hm;split at hx
    next s' hs'=>
     refine ExL.step ((hb (ag7 hs hs') hx).mono ?_);rintro e st' ⟨o,o1,rfl,ws,l1,o3⟩;cases he:o.1 with
     |normal =>
      obtain ⟨t,t1,us,l2,t2⟩:=rC _ (yY (hmx o o1) he) o3;exact (TI hb k t1 t2 hr).mono λe aj2 hp=>hp.sub (l1.trans l2) λo h=>List.mem_append_right _ h
     |exit i=>exact ⟨o,K8 _ (nK (hmx o o1) (by rw [he];simp)),he,ws,l1,o3⟩
     |ret=>exact ⟨o,K8 _ (nK (hmx o o1) (by rw [he];simp)),he,ws,l1,o3⟩
    .cases hx
   .cases h
  .cases h
include iD Md
theorem jb:∀(c:q7) {vs:List Nat} {s:CS} {st:St} {outs:List (I6×CS)},s.g C vs st->dn A sem hook kp l b fuel c s=J outs->Ex A l b c st (Post C vs outs)
 | .skip,vs,s,st,outs,hs,h=>by
  simp only [dn,Option.some.injEq] at h;subst h;exact Ex.skip ⟨_,q8.2 rfl,rfl,vs,Le.refl _,hs⟩
 | .exit id,vs,s,st,outs,hs,h=>by
  simp only [dn,Option.some.injEq] at h;subst h;exact Ex.exit ⟨_,q8.2 rfl,rfl,vs,Le.refl _,hs⟩
 | .ret,vs,s,st,outs,hs,h=>by
  simp only [dn,Option.some.injEq] at h;subst h;exact Ex.ret ⟨_,q8.2 rfl,rfl,vs,Le.refl _,hs⟩
 | .bad,vs,s,st,outs,hs,h=>by simp [dn] at h
 | .region ops draw,vs,s,st,outs,hs,h=>by
  simp only [dn] at h;split at h
  next os hos=>
   cases h;obtain ⟨r,N,⟨o,o1,ws,l1,g1,g2,g3,g4⟩,hr⟩:=HP iD hs.1 hs.2.1 hs.2.2 hos;exact Ex.region ⟨r,N,⟨_,J4.2 ⟨o,o1,rfl⟩,rfl,ws,l1,g1,g2,g4⟩,hr⟩
  .cases h
 | .seq a c,vs,s,st,outs,hs,h=>by
  simp only [dn] at h;split at h
  next os hos=>
   split at h
   next r hr=>
    cases h;refine Ex.seq ((jb a hs hos).mono ?_);rintro e st' ⟨o,o1,rfl,ws,l1,o3⟩;cases he:o.1 with
    |normal =>
     obtain ⟨t,t1,us,l2,t2⟩:=rC _ (yY o1 he) o3;obtain ⟨x,hx,hmx⟩:=Z9 hr t t1;exact (jb c t2 hx).mono λe aj2 hp=>hp.sub (l1.trans l2) λo h=>List.mem_append_right _ (hmx o h)
    |exit i=>exact ⟨o,K8 _ (nK o1 (by rw [he];simp)),he,ws,l1,o3⟩
    |ret=>exact ⟨o,K8 _ (nK o1 (by rw [he];simp)),he,ws,l1,o3⟩
   .cases h
  .cases h
 | .cond c a d,vs,s,st,outs,hs,h=>by
  simp only [dn] at h;split at h
  next p q hpq=>
   split at h
   next x y hx hy=>
    cases h;obtain ⟨t,h1,o,o1,o2⟩:=Lt (KA (L:=[]) (L' :=[]) hs.1 (by simp [z8.g]) c) hs hpq;refine Ex.cond h1 (λht=>?_) (λht=>?_)
    .obtain ⟨z,hz,hm⟩:=Z9 hx o M
     exact (jb a o2 hz).mono λe aj2 hp=>hp.sub (Le.refl _) λo h=>K8 _ (hm o h)
    .obtain ⟨z,hz,hm⟩:=Z9 hy o M
     exact (jb d o2 hz).mono λe aj2 hp=>hp.sub (Le.refl _) λo h=>List.mem_append_right _ (hm o h)
   .cases h
  .cases h
 | .test ops draw c a d,vs,s,⟨T,H⟩,outs,hs,h=>by
  simp only [dn] at h;split at h
  next p q hpq=>
   split at h
   next x y hx hy=>
    cases h;have hR:Rn A l b ops draw T H λT' H' L=>∃t,K4 T' L c= .d (.bool t)/\∃o,o∈(if t then p else q)/\∃ws,Le vs ws/\o.g C ws ⟨T',H'⟩:=by
     split at hpq
     next pq hh=>
      cases hpq;exact Md _ _ _ _ _ _ hh vs T H hs
     .split at hpq
      next os hos=>
       obtain ⟨r,N,⟨o,o1,ws,l1,g1,g2,g3,g4⟩,hr⟩:=HP iD hs.1 hs.2.1 hs.2.2 hos;obtain ⟨p',q',h1,h2,h3⟩:=vY hpq o o1;obtain ⟨t,h4,u,u1,u2⟩:=Lt (st:=⟨r.T,r.H⟩) (KA g1 g3 c) ⟨g1,g2,g4⟩ h1;refine ⟨r,N,⟨t,h4,u,?_,ws,l1,u2⟩,hr⟩
       grind
      .cases hpq
    obtain ⟨r,N,⟨t,h4,u,u1,ws,l1,u2⟩,hr⟩:=hR;refine Ex.test ⟨r,N,⟨t,h4,λht=>?_,λht=>?_⟩,hr⟩
    .subst ht
     obtain ⟨m,m1,us,l2,m2⟩:=rC _ V u2;obtain ⟨z,hz,hm⟩:=Z9 hx m m1;exact (jb a m2 hz).mono λe aj2 hp=>hp.sub (l1.trans l2) λo h=>K8 _ (hm o h)
    .subst ht
     obtain ⟨m,m1,us,l2,m2⟩:=rC _ V u2;obtain ⟨z,hz,hm⟩:=Z9 hy m m1;exact (jb d m2 hz).mono λe aj2 hp=>hp.sub (l1.trans l2) λo h=>List.mem_append_right _ (hm o h)
   .cases h
  .cases h
 | .block id body,vs,s,st,outs,hs,h=>by
  simp only [dn] at h;split at h
  next os hos=>
   cases h;refine Ex.block ((jb body hs hos).mono ?_);rintro e st' ⟨o,o1,rfl,ws,l1,o3⟩;have hm:=TU (id:=id) o1;cases he:o.1 with
   |normal=>rw [he] at hm;exact ⟨_,hm,rfl,ws,l1,o3⟩
   |ret=>rw [he] at hm;exact ⟨_,hm,rfl,ws,l1,o3⟩
   |exit i =>
    rw [he] at hm;simp only at hm;simp only [KL];split
    .rename_i hi;rw [if_pos hi] at hm;exact ⟨_,hm,rfl,ws,l1,o3⟩
    .rename_i hi;rw [if_neg hi] at hm;exact ⟨_,hm,rfl,ws,l1,o3⟩
  .cases h
 | .loop mask body,vs,s,st,outs,hs,h=>by
  refine Ex.ofL ?_;rw [L4.len hs.2.1];exact TI (sb:=dn A sem hook kp l b fuel body) (λ{_ _ _ _} h1 h2=>jb body h1 h2) fuel (q8.2 rfl) hs h
 | .fz t,vs,s,st,outs,hs,h=>by
  simp only [dn] at h;split at h
  next s' hs'=>
   cases h;obtain ⟨st',h1,h2⟩:=bC1 hs hs';exact ⟨_,_,0,⟨_,q8.2 rfl,rfl,vs,Le.refl _,h2⟩,λn _=>by
    simp_all [pE,M0,exec]⟩
  .cases h
end
def Kz (T:List SV)(H:List SO):FR->Option SV
 | .slot t=>T[t]?
 | .cell t K=>match T[t]? with
  |some (.ptr id off)=>match srd H id off 1 with
   |some [v]=>J v.K7
   |_=>K
  |_=>K
 | .cell t (J n)=>match T[t]? with
  |some (.ptr id off)=>match H[id]? with
   |some (.cells p l)=>if F3 (off+n) (O l) then J (.agg (if u5 off 0&&u5 n (O l) then p else K) (((l.drop off).take n).map SV.K7)) else K
   |_=>K
  |_=>K
def ou (T:List SV)(H:List SO):List FR->Option (List SV)
 |[]=>J []
 |r::rs=>match Kz T H r,ou T H rs with
  |some v,J vs=>J (v::vs)
  |_,_=>K
def Kv:List SV->SV
 |[v]=>v
 |vs=> .tuple (vs.map SV.K7)
def Ko (H:List SO)(n:Nat):Nat->List SV->Option (List SV)
 |0,_=>K
 |fuel+1,l=>match l with
  |[]=>J []
  |v::vs=>match Ko H n fuel vs with
   |none=>K
   |some ws=>match v with
    | .B8 id sz lo len=>if Nat.blt id n then J (.B8 id sz lo len::ws) else match srd H id lo (len * sz) with
     |some us=>match Ko H n fuel us with
      |some us' =>match mA us' with
       |some xs=>if u5 (O xs) (len * sz) then J (.d (mkSlice sz len xs)::ws) else K
       |none=>K
      |none=>K
     |none=>K
    | .agg p l=>match Ko H n fuel l with
     |some l' =>J (.agg (match z8.aa l with|some 0=>p|_=>K) l' ::ws)
     |none=>K
    | .tuple l=>match Ko H n fuel l with
     |some l' =>J (.tuple l' ::ws)
     |none=>K
    | .top=>K
    | .bn k=>if u5 k 0 then J (.bn 0::ws) else K
    |v=>J (v::ws)
def Ce (bw:Bool)(n:Nat)(vs:List SV)(H:List SO):Option (SV×List SO) :=
 if bw then J (Kv vs,H) else match Ko H n 1000000 [Kv vs] with
  |some [v]=>match v.aa with
   |some b=>if F3 b n then J (v,H.take n) else K
   |none=>K
  |_=>K
section
variable {C:Ctx} {vs:List Nat}
theorem Si (cs:List c8):(cs.map c8.K7).map c8.K7=cs.map c8.K7:=by
 rw [List.map_map]
 congr 1
 funext v
 cases v<;>rfl
def XB {T:List SV}{H:List SO}{T' :List c8}{H' :q6}(hT:z8.g C vs T T')(hH:L4.g C vs H H'){r:FR}{v:SV}(h:Kz T H r=J v):∃a,kZ T' H' r=J a/\v.g C vs a:=by
 unfold Kz at h;split at h
 .exact z8.get hT h
 .split at h
  next id off e=>
   obtain ⟨a,h1,h2⟩:=z8.get hT e;rw [di h2] at h1
   grind [HO,z8.g,kZ,SV.tV]
  .cases h
 next t n=>
  split at h
  next id off e=>
   obtain ⟨a,h1,h2⟩:=z8.get hT e;rw [di h2] at h1;split at h
   next p l hl=>
    split at h
    .cases h
     obtain ⟨o,h3,h4⟩:=L4.get hH hl;obtain ⟨cs,rfl,h5,h6⟩:=h4;have hlen:=z8.len h5;refine ⟨.agg (((cs.drop off).take n).map c8.K7),?_,?_⟩
     .simp_all [kZ,rd,if_pos]
     .refine ⟨_,rfl,z8.map (λ_ _=>SV.tV) (z8.take (z8.drop h5 off) n),λk hk=>?_⟩
      split at hk
      .grind [j5,z7,Si]
      .cases hk
    .cases h
   .cases h
  .cases h
theorem Ez {T:List SV}{H:List SO}{T' :List c8}{H' :q6}(hT:z8.g C vs T T')(hH:L4.g C vs H H'):∀{rs:List FR} {l:List SV},ou T H rs=J l->∃as,bz T' H' rs=J as/\z8.g C vs l as
 |[],l,h=>by simp [ou,Option.some.injEq] at h;subst h;exact ⟨[],rfl,by simp [z8.g]⟩
 |r::rs,l,h=>by
  simp [ou] at h;split at h
  next v ws hv hws=>
   obtain ⟨a,h1,h2⟩:=XB hT hH hv;obtain ⟨as,h3,h4⟩:=Ez hT hH hws
   grind [bz,z8.g]
  .cases h
def NG {l:List SV}{as:List c8}(h:z8.g C vs l as):(Kv l).g C vs (j3 as):=by
 have key:∀{l:List SV} {as:List c8},z8.g C vs l as->(SV.tuple (l.map SV.K7)).g C vs (.tuple (as.map c8.K7)):=λh=>by
  simp_all [SV.g,z8.map,SV.tV]
 match l,h with
 |[],h=>have:=key h;subst h;exact this
 |[v],h=>obtain ⟨d,_,rfl,h1,rfl⟩:=h;exact h1
 |v::w::l,h=>have:=key h;obtain ⟨d,_,rfl,h1,e,es,rfl,h2,h3⟩:=h;exact this
theorem aw6 {H:q6}{n:Nat}:∀(fuel:Nat) {l ws:List c8},C5 l=0->cV H n fuel l=J ws->ws=l
 |0,l,ws,_,h=>by simp [cV] at h
 |fuel+1,[],ws,_,h=>by simp_all [cV,Option.some.injEq]
 |fuel+1,v::l,ws,hb,h=>by
  simp [C5] at hb;simp [cV] at h;split at h
  .cases h
  next us hus=>
   have e1:=aw6 fuel V hus;split at h
   .simp [c8.L7] at hb
   next l0=>
    simp [c8.L7] at hb;split at h
    next l' hl'=>
     have e2:=aw6 fuel (l:=l0) V hl';simp_all
    .cases h
   next l0=>
    simp [c8.L7] at hb;split at h
    next l' hl'=>
     have e2:=aw6 fuel (l:=l0) V hl';simp_all
    .cases h
   simp_all
theorem En {H:List SO}{H' :q6}{n:Nat}(hH:L4.g C vs H H'):∀(fuel:Nat) {l ws:List SV} {as:List c8},z8.g C vs l as->Ko H n fuel l=J ws->∃bs,cV H' n fuel as=J bs/\z8.g C vs ws bs
 |0,l,ws,as,_,h=>by simp [Ko] at h
 |fuel+1,[],ws,as,hg,h=>by
  simp only [z8.g] at hg;subst hg;simp only [Ko,Option.some.injEq] at h;subst h;exact ⟨[],by simp [cV],by simp [z8.g]⟩
 |fuel+1,v::l,ws,as,hg,h=>by
  simp only [z8.g] at hg;obtain ⟨a,as,rfl,ha,hl⟩:=hg;simp only [Ko] at h;split at h
  .cases h
  next us hus=>
   obtain ⟨bs,h1,h2⟩:=En hH fuel hl hus;have fin:∀{v:SV} {a:c8},v.g C vs a->z8.g C vs (v::us) (a::bs):=λh=>by simp only [z8.g];exact ⟨_,_,rfl,h,h2⟩
   split at h
   next id sz lo len=>
    rw [pZ ha];split at h
    next hc=>
     have hc:id<n:=j9 hc;cases h;exact ⟨.B8 id sz lo len::bs,by simp only [cV,h1];rw [if_pos hc],fin (by simp only [SV.g])⟩
    next hc=>
     have hc:¬ id<n:=λe=>hc (by rw [Nat.blt_eq];exact e)
     split at h
     next q hq=>
      split at h
      next q' hq'=>
       split at h
       next xs hxs=>
        split at h
        next hlen=>
         have hlen:=j5 hlen;cases h;obtain ⟨cs,h3,h4⟩:=HO hH hq;obtain ⟨ds,h5,h6⟩:=En hH fuel h4 hq';obtain ⟨es,h7,h8⟩:=rQ h6 hxs;exact ⟨.d (.slice len es)::bs,by simp only [cV,h1];rw [if_neg hc];simp only [h3,h5,h7],fin (dJ (tv hlen h8))⟩
        .cases h
       .cases h
      .cases h
     .cases h
   next p l'=>
    simp only [SV.g] at ha;obtain ⟨cs,rfl,h3,h4⟩:=ha;split at h
    next l2 pH=>
     cases h;obtain ⟨ds,h5,h6⟩:=En hH fuel h3 pH;refine ⟨.agg ds::bs,by simp only [cV,h1,h5],fin ?_⟩;simp only [SV.g];refine ⟨ds,rfl,h6,λk hk=>?_⟩;split at hk
     next hb=>
      rw [aw6 fuel (z8.dU hb h3) h5];exact h4 k hk
     .cases hk
    .cases h
   next l'=>
    simp only [SV.g] at ha;obtain ⟨cs,rfl,h3⟩:=ha;split at h
    next l2 pH=>
     cases h;obtain ⟨ds,h5,h6⟩:=En hH fuel h3 pH;exact ⟨.tuple ds::bs,by simp only [cV,h1,h5],fin (by simp only [SV.g];exact ⟨_,rfl,h6⟩)⟩
    .cases h
   .cases h
   next k=>
    split at h
    next hk=>
     have hk:=j5 hk;subst hk;cases h;simp only [SV.g] at ha;refine ⟨a::bs,?_,fin (by simp only [SV.g];exact ha)⟩;obtain ⟨a1,a2⟩:=ha;cases a<;>simp only [c8.L7,c8.one,j4,reduceCtorEq] at a1 a2<;>first
      |(simp only [cV,h1];done)
      |omega
    .cases h
   next w1 w2 w3 w4 w5=>
    cases h;refine ⟨a::bs,?_,fin ha⟩;cases v<;>simp only [SV.g] at ha
    .exact absurd rfl w4
    .subst ha;simp only [cV,h1]
    .obtain ⟨_,rfl,_⟩:=ha;simp only [cV,h1]
    .obtain ⟨_,_,rfl,_⟩:=ha;simp only [cV,h1]
    .subst ha;simp only [cV,h1]
    .subst ha;simp only [cV,h1]
    .obtain ⟨_,_,rfl,_⟩:=ha;simp only [cV,h1]
    .exact absurd rfl (w1 _ _ _ _)
    .exact absurd rfl (w2 _ _)
    .exact absurd rfl (w3 _)
    .exact absurd rfl (w5 _)
    .obtain ⟨_,h0,_⟩:=ha;cases a<;>simp only [c8.K7,reduceCtorEq] at h0<;>simp only [cV,h1]
    .obtain ⟨_,_,rfl⟩:=ha;simp only [cV,h1]
def Xv {H H1:List SO}{H' :q6}{bw:Bool}{n:Nat}{l:List SV}{as:List c8}{v:SV}(hH:L4.g C vs H H')(hl:z8.g C vs l as)(h:Ce bw n l H=J (v,H1)) :
  ∃a H2,finish bw n as H' =J (a,H2)/\v.g C vs a/\L4.g C vs H1 H2:=by
 unfold Ce at h;split at h
 next hp=>
  cases h;exact ⟨_,_,by simp only [finish,hp,if_true],NG hl,hH⟩
 next hp=>
  split at h
  next w hw=>
   split at h
   next b hb=>
    split at h
    next hc=>
     have hc:=j9 hc;cases h;obtain ⟨bs,h1,h2⟩:=En hH 1000000 (l:=[Kv l]) (as:=[j3 as]) (by simp only [z8.g];exact ⟨_,_,rfl,NG hl,rfl⟩) hw;simp only [z8.g] at h2;obtain ⟨a,_,rfl,h3,rfl⟩:=h2;have e:=SV.dU hb h3;refine ⟨a,H'.take n,?_,h3,L4.take hH n⟩;simp only [finish];rw [if_neg hp,h1];simp only;rw [if_pos V]
    .cases h
   .cases h
  .cases h
end
def SB.cl:SB->Bool
 | .vQ=>W
 |_=>F
def Rel.cl:Rel->Bool
 | .no=>W
 |_=>F
mutual
def SD.cl:SD->Bool
 | .bool c=>c.cl
 | .int _ _ _ r=>r.cl
 | .slice v _ _ row=>v.isNone&&L0.cl row
 | .pr _ x=>x.cl
 |_=>W
def L0.cl:List SD->Bool
 |[]=>W
 |x::xs=>x.cl&&L0.cl xs
end
mutual
def SV.cl:SV->Bool
 | .d x=>x.cl
 | .own _ x=>x.cl
 | .q x=>x.cl
 | .U9 r=>L0.cl r
 | .agg _ l=>z8.cl l
 | .tuple l=>z8.cl l
 |_=>W
def z8.cl:List SV->Bool
 |[]=>W
 |x::xs=>x.cl&&z8.cl xs
end
def SO.cl:SO->Bool
 | .cells _ l=>z8.cl l
 |_=>W
def L4.cl:List SO->Bool
 |[]=>W
 |x::xs=>x.cl&&L4.cl xs
section
variable {C:Ctx} {vs ws:List Nat}
mutual
theorem SD.dG:∀(x:SD) {d:Data},x.cl=W->x.g C vs d->x.g C ws d
 | .top,_,_,_=>by simp [SD.g]
 | .lit _,_,_,h=>by simp_all [SD.g]
 | .bool c,_,hc,h=>by
  cases c with
  |vQ=>obtain ⟨b,h1,_⟩:=h;exact ⟨b,h1,trivial⟩
  |cmp=>simp [SD.cl,SB.cl] at hc
 | .int k lo hi r,_,hc,h=>by
  cases r with
  |no=>obtain ⟨b,h1,h2,h3,_⟩:=h;exact ⟨b,h1,h2,h3,trivial⟩
  |eq=>simp [SD.cl,Rel.cl] at hc
  |lt=>simp [SD.cl,Rel.cl] at hc
 | .anyI _,_,_,h=>by simp_all [SD.g]
 | .str _,_,_,h=>by simp_all [SD.g]
 | .slice v lo hi row,_,hc,h=>by
  cases v with
  |some i=>simp [SD.cl] at hc
  |none =>
   obtain ⟨rows,h1,h2,h3,_,h5⟩:=h;exact ⟨rows,h1,h2,h3,(λi e=>by cases e),λr hr=>L0.dG row hc (h5 r hr)⟩
 | .pr _ x,_,hc,h=>by exact ⟨h.1,SD.dG x hc h.2⟩
theorem L0.dG:∀(x:List SD) {d:List Data},L0.cl x=W->L0.g C vs x d->L0.g C ws x d
 |[],_,_,h=>by simp_all [L0.g]
 |x::xs,_,hc,h=>by
  simp [L0.cl,c7] at hc;obtain ⟨d,ds,h1,h2,h3⟩:=h;exact ⟨d,ds,h1,SD.dG x hc.1 h2,L0.dG xs hc.2 h3⟩
end
mutual
theorem SV.dG:∀(x:SV) {d:c8},x.cl=W->x.g C vs d->x.g C ws d
 | .top,_,_,_=>by simp [SV.g]
 | .any,_,_,h=>by simpa only [SV.g] using h
 | .d x,_,hc,h=>by simp only [SV.cl] at hc;simp only [SV.g] at h ⊢;obtain ⟨y,h1,h2⟩:=h;exact ⟨y,h1,SD.dG x hc h2⟩
 | .own _ x,_,hc,h=>by simp only [SV.cl] at hc;simp only [SV.g] at h ⊢;obtain ⟨a,b,h1,h2⟩:=h;exact ⟨a,b,h1,SD.dG x hc h2⟩
 | .P9,_,_,h=>by simpa only [SV.g] using h
 | .ptr ..,_,_,h=>by simpa only [SV.g] using h
 | .U9 row,_,hc,h=>by simp only [SV.cl] at hc;simp only [SV.g] at h ⊢;obtain ⟨a,b,h1,h2⟩:=h;exact ⟨a,b,h1,L0.dG row hc h2⟩
 | .B8 ..,_,_,h=>by simpa only [SV.g] using h
 | .wp ..,_,_,h=>by simpa only [SV.g] using h
 | .agg p l,_,hc,h=>by simp only [SV.cl] at hc;simp only [SV.g] at h ⊢;obtain ⟨cs,h1,h2,h3⟩:=h;exact ⟨cs,h1,z8.dG l hc h2,h3⟩
 | .tuple l,_,hc,h=>by simp only [SV.cl] at hc;simp only [SV.g] at h ⊢;obtain ⟨cs,h1,h2⟩:=h;exact ⟨cs,h1,z8.dG l hc h2⟩
 | .bn _,_,_,h=>by simpa only [SV.g] using h
 | .q x,_,hc,h=>by simp only [SV.cl] at hc;simp only [SV.g] at h ⊢;obtain ⟨y,h1,h2⟩:=h;exact ⟨y,h1,SD.dG x hc h2⟩
theorem z8.dG:∀(x:List SV) {d:List c8},z8.cl x=W->z8.g C vs x d->z8.g C ws x d
 |[],_,_,h=>by simpa only [z8.g] using h
 |x::xs,_,hc,h=>by
  simp only [z8.cl,c7] at hc;simp only [z8.g] at h ⊢;obtain ⟨d,ds,h1,h2,h3⟩:=h;exact ⟨d,ds,h1,SV.dG x hc.1 h2,z8.dG xs hc.2 h3⟩
end
theorem SO.dG (x:SO){o:y6}(hc:x.cl=W)(h:x.g C vs o):x.g C ws o:=by
 cases x with
 |dead=>exact h
 |cells p l=>obtain ⟨cs,h1,h2,h3⟩:=h;exact ⟨cs,h1,z8.dG l hc h2,h3⟩
 |pr k=>exact h
 |bn k=>exact h
 |top=>trivial
 |Ec k b=>exact h
theorem L4.dG:∀(x:List SO) {o:q6},L4.cl x=W->L4.g C vs x o->L4.g C ws x o
 |[],_,_,h=>by simp_all [L4.g]
 |x::xs,_,hc,h=>by
  simp [L4.cl,c7] at hc;obtain ⟨d,ds,h1,h2,h3⟩:=h;exact ⟨d,ds,h1,SO.dG x hc.1 h2,L4.dG xs hc.2 h3⟩
end
def MA:List SV->Option (List Data)
 |[]=>J []
 | .d (.lit x)::r=>match MA r with
  |some xs=>J (x::xs)
  |none=>K
 |_=>K
abbrev Fact:=Nat->List Data->Bool
def Cq (C:Ctx)(fact:Fact):Prop:=∀k ds,fact k ds=W->C.Θ k (ds.map .d)
def TQ (fact:Fact)(p:Option Nat)(l:List SV):Option Nat->Bool
 |none=>W
 |some k=>NU p (J k)||(match MA l with
  |some ds=>fact k ds
  |none=>F)
mutual
def SV.le (fact:Fact)(i7:jU)(x:SV):SV->Bool
 | .top=>W
 | .any=>match x with
  | .any=>W
  |_=>F
 | .d y=>match x with
  | .d x=>SD.le i7 x y
  |_=>F
 | .own z y=>match x with
  | .own z' x=>u5 z z' &&SD.le i7 x y
  |_=>F
 | .P9=>match x with
  | .P9=>W
  |_=>F
 | .ptr i o=>match x with
  | .ptr i' o' =>u5 i i' &&u5 o o'
  |_=>F
 | .U9 _=>F
 | .wp .. =>F
 | .B8 i z l n=>match x with
  | .B8 i' z' l' n' =>u5 i i' &&u5 z z' &&u5 l l' &&u5 n n'
  |_=>F
 | .agg p l=>match x with
  | .agg p' l' =>TQ fact p' l' p&&z8.le fact i7 l' l
  |_=>F
 | .tuple l=>match x with
  | .tuple l' =>z8.le fact i7 l' l
  |_=>F
 | .q y=>match x.data? with
  |some x=>SD.le i7 x y
  |none=>F
 | .bn k=>x.one&&(match x.aa with
  |some b=>u5 b k
  |none=>F)
def z8.le (fact:Fact)(i7:jU)(xs:List SV):List SV->Bool
 |[]=>xs.isEmpty
 |y::ys=>match xs with
  |x::xs=>SV.le fact i7 x y&&z8.le fact i7 xs ys
  |[]=>F
end
def SO.le (fact:Fact)(i7:jU):SO->SO->Bool
 | .dead,.dead=>W
 | .cells p l,.cells p' l' =>TQ fact p l p' &&z8.le fact i7 l l'
 | .pr k,.pr k' =>u5 k k'
 | .Ec k b,.Ec k' b' =>u5 k k' &&u5 b b'
 |x,.bn k=>(match x.aa with
  |some b=>u5 b k
  |none=>F)
 |_,.top=>W
 |_,_=>F
def L4.le (fact:Fact)(i7:jU):List SO->List SO->Bool
 |[],[]=>W
 |x::xs,y::ys=>x.le fact i7 y&&L4.le fact i7 xs ys
 |_,_=>F
section
variable {C:Ctx} {vs:List Nat} {i7:jU} {fact:Fact} (hB:Bg vs i7) (hf:Cq C fact)
theorem Tm:∀{l:List SV} {ds:List Data} {cs:List c8},MA l=J ds->z8.g C vs l cs->cs=ds.map .d
 |[],_,_,h,hg=>by simp_all [MA,Option.some.injEq,z8.g]
 |x::xs,_,_,h,hg=>by
  obtain ⟨d,ds',rfl,h1,h2⟩:=hg;unfold MA at h;split at h
  .simp_all
  next y r e=>
   cases e;split at h
   next ys hys=>
    cases h;obtain ⟨q,rfl,h3⟩:=cw h1;subst h3;rw [Tm hys h2];rfl
   .cases h
  .cases h
include hf in
def TR {p q:Option Nat}{l:List SV}{cs:List c8}(h:TQ fact p l q=W)(hl:z8.g C vs l cs)(hp:∀k,p=J k->C.Θ k (cs.map c8.K7)):∀k,q=J k->C.Θ k (cs.map c8.K7):=by
 rintro k rfl;simp [TQ,Bool.or_eq_true] at h
 rcases h with h|h
 .grind [NV]
 .split at h
  next ds hds=>
   rw [Tm hds hl];have e:(ds.map c8.d).map c8.K7=ds.map c8.d:=by rw [List.map_map];rfl
   rw [e];exact hf k ds h
  .cases h
include hB hf
mutual
theorem SV.dM:∀(y:SV) {x:SV} {v:c8},SV.le fact i7 x y=W->x.g C vs v->y.g C vs v
 | .top,_,_,_,_=>by simp [SV.g]
 | .any,x,_,h,hg=>by cases x<;>simp only [SV.le,j4] at h;exact hg
 | .d y,x,_,h,hg=>by
  cases x<;>simp only [SV.le,j4] at h;obtain ⟨d,rfl,h1⟩:=cw hg;exact dJ (SD.dM hB y h h1)
 | .own z y,x,_,h,hg=>by
  cases x<;>simp only [SV.le,j4,c7] at h;have e:=j5 h.1;subst e;obtain ⟨len,cells,rfl,h1⟩:=vt hg;simp only [SV.g];exact ⟨_,_,rfl,SD.dM hB y h.2 h1⟩
 | .P9,x,_,h,hg=>by cases x<;>simp only [SV.le,j4] at h;exact hg
 | .ptr i o,x,_,h,hg=>by
  cases x<;>simp only [SV.le,j4,c7] at h;have e:=j5 h.1;have e2:=j5 h.2;subst e e2;exact hg
 | .U9 _,x,_,h,hg=>by simp [SV.le] at h
 | .wp ..,x,_,h,hg=>by simp [SV.le] at h
 | .B8 i z l n,x,_,h,hg=>by
  cases x<;>simp only [SV.le,j4,c7] at h;have e1:=j5 h.1.1.1;have e2:=j5 h.1.1.2;have e3:=j5 h.1.2;have e4:=j5 h.2;subst e1 e2 e3 e4;exact hg
 | .agg p l,x,_,h,hg=>by
  cases x<;>simp only [SV.le,j4,c7] at h;simp only [SV.g] at hg ⊢;obtain ⟨cs,rfl,h1,h2⟩:=hg;exact ⟨cs,rfl,z8.dM l h.2 h1,TR hf h.1 h1 h2⟩
 | .tuple l,x,_,h,hg=>by
  cases x<;>simp only [SV.le,j4] at h;simp only [SV.g] at hg ⊢;obtain ⟨cs,rfl,h1⟩:=hg;exact ⟨cs,rfl,z8.dM l h h1⟩
 | .q y,x,_,h,hg=>by
  simp only [SV.le] at h;split at h
  next z hz=>
   obtain ⟨d,h0,h1⟩:=Kf hg hz;exact Ke h0 (SD.dM hB y h h1)
  .cases h
 | .bn k,x,_,h,hg=>by
  simp only [SV.le,c7] at h;split at h
  next b hb=>
   have e:=j5 h.2;subst e;simp only [SV.g];exact ⟨SV.dU hb hg,SV.DY hg h.1⟩
  .exact absurd h.2 U
theorem z8.dM:∀(y:List SV) {x:List SV} {v:List c8},z8.le fact i7 x y=W->z8.g C vs x v->z8.g C vs y v
 |[],x,_,h,hg=>by
  cases x with
  |nil=>exact hg
  |cons=>simp [z8.le] at h
 |y::ys,x,_,h,hg=>by
  cases x<;>simp only [z8.le,j4,c7] at h;simp only [z8.g] at hg ⊢;obtain ⟨d,ds,rfl,h1,h2⟩:=hg;exact ⟨d,ds,rfl,SV.dM y h.1 h1,z8.dM ys h.2 h2⟩
end
theorem SO.dM {x y:SO}{o:y6}(h:x.le fact i7 y=W)(hg:x.g C vs o):y.g C vs o:=by
 have key:∀k,(match x.aa with|some b=>u5 b k|none=>F)=W->o.L7=k:=λk hk=>by
  split at hk
  next b hb=>
   rw [SO.dU hb hg];exact j5 hk
  .cases hk
 cases y
 case top=>trivial
 case bn k=>exact key k (by cases x<;>simpa only [SO.le] using h)
 all_goals cases x<;>simp only [SO.le,j4,c7] at h
 .exact hg
 .obtain ⟨cs,rfl,h1,h2⟩:=hg
  exact ⟨cs,rfl,z8.dM hB hf _ h.2 h1,TR hf h.1 h1 h2⟩
 .have e:=j5 h
  subst e;exact hg
 .have e1:=j5 h.1
  have e2:=j5 h.2;subst e1 e2;exact hg
theorem L4.dM:∀{x y:List SO} {o:q6},L4.le fact i7 x y=W->L4.g C vs x o->L4.g C vs y o
 |[],[],_,_,hg=>hg
 |[],_::_,_,h,_=>by simp [L4.le] at h
 |_::_,[],_,h,_=>by simp [L4.le] at h
 |x::xs,y::ys,_,h,hg=>by
  simp [L4.le,c7] at h;obtain ⟨d,ds,rfl,h1,h2⟩:=hg;exact ⟨d,ds,rfl,SO.dM hB hf h.1 h1,L4.dM h.2 h2⟩
end
structure Spec where
 f:FuncId
 args:List SV
 H:List SO
 lim:I7
 outs:List (SV×List SO)
def Spec.cl (s:Spec):Bool:=z8.cl s.args&&L4.cl s.H&&s.outs.all λo=>o.1.cl&&L4.cl o.2
def Spec.ok (C:Ctx)(A:Prog)(s:Spec):Prop:=s.cl=W/\∀as Hc,z8.g C [] s.args as->L4.g C [] s.H Hc->Pq A s.f as Hc s.lim λv H1=>∃o,o∈s.outs/\o.1.g C [] v/\L4.g C [] o.2 H1
def qp (a b:I7):Bool:=u5 a.XU b.XU&&u5 a.XT b.XT&&u5 a.base b.base&&u5 a.strict b.strict
def ah2 (fact:Fact)(specs:List Spec):Sem:=λi7 f args H l=>match specs.find? (λs=>u5 s.f f&&z8.le fact i7 args s.args&&L4.le fact i7 H s.H&&qp s.lim l) with
 |some s=>J s.outs
 |none=>K
def ah3 {C:Ctx}{A:Prog}{fact:Fact}(hf:Cq C fact){specs:List Spec}(hs:∀s,s∈specs->s.ok C A):ia C A (ah2 fact specs):=by
 intro i7 f args H l outs h vs hB as Hc ha hH;unfold ah2 at h;split at h
 next s hfind=>
  cases h;have hm:=List.mem_of_find?_eq_some hfind;have hc:=List.find?_some hfind;simp only [c7,qp] at hc;obtain ⟨⟨⟨c1,c2⟩,c3⟩,c4⟩:=hc;obtain ⟨k1,k2⟩:=hs s hm;have e:s.f=f:=j5 c1;have el:s.lim=l:=by
   cases vN:s.lim;simp_all
  simp only [Spec.cl,c7] at k1;obtain ⟨v,H1,⟨o,o1,o2,o3⟩,h1⟩:=k2 as Hc (z8.dG _ k1.1.1 (z8.dM hB hf _ c2 ha)) (L4.dG _ k1.1.2 (L4.dM hB hf c3 hH));rw [e,el] at h1;have k3:=M1.1 k1.2 o o1;simp [c7] at k3;exact ⟨v,H1,⟨o,o1,SV.dG _ k3.1 o2,L4.dG _ k3.2 o3⟩,h1⟩
 .cases h
def dm (a b:Sem):Sem:=λi7 f args H l=>match a i7 f args H l with
 |some r=>J r
 |none=>b i7 f args H l
def oo {C:Ctx}{A:Prog}{a b:Sem}(ha:ia C A a)(hb:ia C A b):ia C A (dm a b):=by
 intro i7 f args H l outs h;unfold dm at h;split at h
 .rename_i r hr;cases h;exact ha _ _ _ _ _ _ hr
 .exact hb _ _ _ _ _ _ h
def aa5 (s:CS)(k:Nat):CS:=match s.T[k]? with
 |some v=>match MO (O s.i7) v with
  |some (w,p)=>{ s with T:=s.T.set k w,i7:=s.i7++[p] }
  |none=>s
 |none=>s
def JS (s:CS):Nat->CS
 |0=>s
 |n+1=>JS (aa5 s n) n
def aA2 {C:Ctx}{vs:List Nat}{s:CS}{st:St}(hs:s.g C vs st)(k:Nat):∃ws,Le vs ws/\(aa5 s k).g C ws st:=by
 unfold aa5;split
 next v e=>
  split
  next w p hn=>
   rw [<- hs.2.2.1] at hn;obtain ⟨a,h1,h2⟩:=z8.get hs.1 e;obtain ⟨m,h3,h4,h5⟩:=JT hn h2;refine ⟨vs++[m],Le.app _ _,?_,L4.S8 (Le.app _ _) _ hs.2.1,hs.2.2.add h3 h4⟩;have:=z8.set (z8.S8 (Le.app vs [m]) _ hs.1) k h5;simp_all [aV]
  grind [Le.refl]
 grind [Le.refl]
theorem MN {C:Ctx}:∀(n:Nat) {vs:List Nat} {s:CS} {st:St},s.g C vs st->∃ws,Le vs ws/\(JS s n).g C ws st
 |0,vs,s,st,hs=>⟨vs,Le.refl _,hs⟩
 |n+1,vs,s,st,hs=>by
  obtain ⟨ws,l1,h1⟩:=aA2 hs n;obtain ⟨us,l2,h2⟩:=MN n h1;exact ⟨us,l1.trans l2,h2⟩
def RB (s:CS)(j:Nat):List CS:=match s.T[j]? with
 |some (.d x)=>match x.int? s.i7 with
  |some (k,lo,hi,_)=>(qY k lo (hi - lo+1).toNat).map λv=>{ s with T:=s.T.set j v }
  |none=>[s]
 |_=>[s]
def Cg:List Nat->List CS->List CS
 |[],l=>l
 |j::r,l=>Cg r (l.flatMap λs=>RB s j)
def ai1 {C:Ctx}{vs:List Nat}{s:CS}{st:St}(hs:s.g C vs st)(j:Nat):∃s',s'∈RB s j/\s'.g C vs st:=by
 have hs' :=hs;obtain ⟨hT,hH,hB⟩:=hs;unfold RB;split
 next x e=>
  split
  next k lo hi r hc=>
   obtain ⟨a,h1,h2⟩:=z8.get hT e;obtain ⟨d,rfl,h3⟩:=cw h2;obtain ⟨m,rfl,h4,h5,_⟩:=SD.kR hB hc h3;refine ⟨_,J4.2 ⟨_,pJ _ lo m h4 V,rfl⟩,?_,hH,hB⟩;have:=z8.set hT j (a:= .d (.lit (.int k m))) (b:= .d (.int k m)) (dJ (by rfl));simp_all [aV]
  simp_all
 simp_all
theorem HN {C:Ctx}{vs:List Nat}{st:St}:∀(js:List Nat) {l:List CS} {s:CS},s∈l->s.g C vs st->∃s',s'∈Cg js l/\s'.g C vs st
 |[],l,s,hm,hs=>⟨s,hm,hs⟩
 |j::js,l,s,hm,hs=>by
  obtain ⟨s1,h1,h2⟩:=ai1 hs j;exact HN js (List.mem_flatMap.2 ⟨s,hm,h1⟩) h2
def aL0:I6->Bool
 | .exit _=>F
 |_=>W
def gm (A:Prog)(sem:Sem)(hook:Lc)(fact:Fact)(kp js:List Nat)(fuel:Nat)(af:q9)(s:Spec):Bool :=
 s.cl&&u5 (O s.args) af.nparams&&match je (dn A sem hook kp s.lim (O s.H) fuel af.body) (Cg js [JS ⟨s.args++c9 (O af.names - O s.args) .any,s.H,[]⟩ (O s.args)]) with
  |some outs=>outs.all λo=>aL0 o.1&&match ou o.2.T o.2.H af.results with
   |some l=>match Ce af.bw (O s.H) l o.2.H with
    |some (v,H1)=>s.outs.any λp=>SV.le fact o.2.i7 v p.1&&L4.le fact o.2.i7 H1 p.2
    |none=>F
   |none=>F
  |none=>F
def xl {C:Ctx}{A:Prog}{sem:Sem}{hook:Lc}{fact:Fact}{kp js:List Nat}{fuel:Nat}{s:Spec}{af:q9}(iD:ia C A sem)(hf:Cq C fact)(Md:IY C A s.lim (O s.H) hook)(hp:A.cM s.f=K)(ha:A.fn s.f=J af)
  (h:gm A sem hook fact kp js fuel af s=W):s.ok C A:=by
 unfold gm at h;simp only [c7] at h;obtain ⟨⟨c1,c2⟩,c3⟩:=h;have c2:=j5 c2;refine ⟨c1,λas Hc hA hH=>?_⟩;split at c3
 next outs hx=>
  have vM:=z8.len hA;have hHl:=L4.len hH;obtain ⟨ws,_,h0⟩:=MN (O s.args) (C:=C) (vs:=[]) (s:=⟨s.args++c9 (O af.names - O s.args) .any,s.H,[]⟩) (st:=⟨as++c9 (O af.names - O as) .any,Hc⟩) ⟨by simp_all [z8.app,Jf],hH,rfl,λi lo hi h=>by simp at h⟩;obtain ⟨s0,m0,h0⟩:=HN js (q8.2 rfl) h0;obtain ⟨z,hz,hmz⟩:=Z9 hx s0 m0;have h1:=jb iD Md af.body h0 hz;refine Pq.run (b:=O s.H) _ hp ha V hHl rfl (h1.mono ?_);rintro x st' ⟨o,o1,rfl,us,l1,g1,g2,g3⟩;have c4:=M1.1 c3 o (hmz o o1);simp [c7] at c4;obtain ⟨c5,c6⟩:=c4;split at c6
  next l hl=>
   obtain ⟨bs,h2,h3⟩:=Ez g1 g2 hl;split at c6
   next v H1 uX=>
    obtain ⟨a,H2,h4,h5,h6⟩:=Xv g2 h3 uX;obtain ⟨p,p1,p2⟩:=List.any_eq_true.1 c6;simp [c7] at p2;refine ⟨a,H2,?_,p,p1,?_,?_⟩
    .cases he:o.1 with
     |exit i=>rw [he] at c5;cases c5
     |normal=>simp_all [ep]
     |ret=>simp_all [ep]
    .simp only [Spec.cl,c7] at c1
     have k3:=M1.1 c1.2 p p1;simp [c7] at k3;exact SV.dG _ k3.1 (SV.dM g3 hf _ p2.1 h5)
    .simp only [Spec.cl,c7] at c1
     have k3:=M1.1 c1.2 p p1;simp [c7] at k3;exact L4.dG _ k3.2 (L4.dM g3 hf p2.2 h6)
   .cases c6
  .cases c6
 .cases c3
mutual
def SD.mb (i7:jU):SD->SD
 | .bool _=> .bool .vQ
 | .int k lo hi _=> .int k lo hi .no
 | .slice v lo hi row=> .slice K (bdV i7 v lo hi).1 (bdV i7 v lo hi).2 (L0.mb i7 row)
 | .pr k x=> .pr k (x.mb i7)
 |x=>x
def L0.mb (i7:jU):List SD->List SD
 |[]=>[]
 |x::xs=>x.mb i7::L0.mb i7 xs
end
mutual
def SV.mb (i7:jU):SV->SV
 | .d x=> .d (x.mb i7)
 | .own z x=> .own z (x.mb i7)
 | .q x=> .q (x.mb i7)
 | .U9 r=> .U9 (L0.mb i7 r)
 | .agg p l=> .agg p (z8.mb i7 l)
 | .tuple l=> .tuple (z8.mb i7 l)
 |x=>x
def z8.mb (i7:jU):List SV->List SV
 |[]=>[]
 |x::xs=>x.mb i7::z8.mb i7 xs
end
def SO.mb (i7:jU):SO->SO
 | .cells p l=> .cells p (z8.mb i7 l)
 |x=>x
section
variable {C:Ctx} {vs ws:List Nat} {i7:jU} (hB:Bg vs i7)
include hB
end
def bZ7 (af:q9)(n:Nat)(o:I6×CS):Option (List (SV×List SO)):=if aL0 o.1 then match ou o.2.T o.2.H af.results with
  |some l=>match Ce af.bw n l o.2.H with
   |some (v,H1)=>J [(v.mb o.2.i7,H1.map (SO.mb o.2.i7))]
   |none=>K
  |none=>K
 else K
def inl (A:Prog)(sem:Sem)(hook:Lc)(kp js:List Nat)(fuel:Nat)(fs:List (FuncId×q9)):Sem:=λi7 f args H l=>match fs.find? (λp=>u5 p.1 f) with
 |some p=>if u5 (O args) p.2.nparams then match je (dn A sem hook kp l (O H) fuel p.2.body) (Cg js [JS ⟨args++c9 (O p.2.names - O args) .any,H,i7⟩ (O args)]) with
   |some outs=>je (bZ7 p.2 (O H)) outs
   |none=>K
  else K
 |none=>K
section
variable {C i6:Ctx} (hΦ:C.Φ=i6.Φ) (hΘ:C.Θ=i6.Θ) {vs:List Nat}
include hΦ
mutual
theorem SD.nN:∀(x:SD) {d:Data},x.g C vs d->x.g i6 vs d
 | .top,_,h| .lit _,_,h| .bool _,_,h| .int ..,_,h| .anyI _,_,h| .str _,_,h=>by simp only [SD.g] at h ⊢<;>exact h
 | .slice v lo hi row,_,h=>by
  simp only [SD.g] at h ⊢;obtain ⟨rows,h1,h2,h3,h4,h5⟩:=h;exact ⟨rows,h1,h2,h3,h4,λr hr=>L0.nN row (h5 r hr)⟩
 | .pr _ x,_,h=>by simp only [SD.g] at h ⊢;exact ⟨hΦ ▸ h.1,SD.nN x h.2⟩
theorem L0.nN:∀(x:List SD) {d:List Data},L0.g C vs x d->L0.g i6 vs x d
 |[],_,h=>by simpa only [L0.g] using h
 |x::xs,_,h=>by
  simp only [L0.g] at h ⊢;obtain ⟨d,ds,h1,h2,h3⟩:=h;exact ⟨d,ds,h1,SD.nN x h2,L0.nN xs h3⟩
end
include hΘ
mutual
theorem SV.nN:∀(x:SV) {d:c8},x.g C vs d->x.g i6 vs d
 | .top,_,h| .any,_,h| .P9,_,h| .ptr ..,_,h| .B8 ..,_,h| .wp ..,_,h| .bn _,_,h=>by simp only [SV.g] at h ⊢<;>exact h
 | .d x,_,h=>by simp only [SV.g] at h ⊢;obtain ⟨y,h1,h2⟩:=h;exact ⟨y,h1,SD.nN hΦ x h2⟩
 | .q x,_,h=>by simp only [SV.g] at h ⊢;obtain ⟨y,h1,h2⟩:=h;exact ⟨y,h1,SD.nN hΦ x h2⟩
 | .own _ x,_,h=>by simp only [SV.g] at h ⊢;obtain ⟨a,b,h1,h2⟩:=h;exact ⟨a,b,h1,SD.nN hΦ x h2⟩
 | .U9 r,_,h=>by simp only [SV.g] at h ⊢;obtain ⟨a,b,h1,h2⟩:=h;exact ⟨a,b,h1,L0.nN hΦ r h2⟩
 | .agg p l,_,h=>by simp only [SV.g] at h ⊢;obtain ⟨cs,h1,h2,h3⟩:=h;exact ⟨cs,h1,z8.nN l h2,λk e=>hΘ ▸ h3 k e⟩
 | .tuple l,_,h=>by simp only [SV.g] at h ⊢;obtain ⟨cs,h1,h2⟩:=h;exact ⟨cs,h1,z8.nN l h2⟩
theorem z8.nN:∀(x:List SV) {d:List c8},z8.g C vs x d->z8.g i6 vs x d
 |[],_,h=>by simpa only [z8.g] using h
 |x::xs,_,h=>by
  simp only [z8.g] at h ⊢;obtain ⟨d,ds,h1,h2,h3⟩:=h;exact ⟨d,ds,h1,SV.nN x h2,z8.nN xs h3⟩
end
def SO.plain:SO->Bool
 | .pr _=>F
 | .Ec _ _=>F
 |_=>W
theorem SO.nN {x:SO}{o:y6}(hp:x.plain=W)(h:x.g C vs o):x.g i6 vs o:=by
 cases x with
 |cells p l=>obtain ⟨cs,h1,h2,h3⟩:=h;exact ⟨cs,h1,z8.nN hΦ hΘ l h2,λk e=>hΘ ▸ h3 k e⟩
 |pr k=>cases hp
 |Ec k b=>cases hp
 |_=>exact h
end
end Go.A1.Sh

