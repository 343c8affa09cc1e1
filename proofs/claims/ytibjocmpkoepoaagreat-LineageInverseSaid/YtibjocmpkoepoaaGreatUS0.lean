import Derived.Test.YtibjocmpkoepoaaGreatUB6
set_option linter.all false
open Bool renaming and_eq_true → c7, false_eq_true → j3, not_eq_true' → n5
open List renaming all_eq_true → L9, append_assoc → E8, cons_append → A5, drop_of_length_le → l5, getElem?_append_left → A7, getElem?_append_right → s5, length_append → o8, length_cons → p7, length_map → B0, map_cons → F4, mem_append → M4, mem_append_left → E0, mem_append_right → E7, mem_cons → B4, mem_map → F5, mem_singleton → q6, nil_append → D8, replicate → c9, take_of_length_le → B5
open Nat renaming beq → s7, ble → E3, eq_of_beq_eq_true → j4, le_of_ble_eq_true → j5, le_refl → o5, le_trans → B6, lt_or_ge → y4
namespace Go.x9.Sh
open Go.x9
inductive Rel where
 |no
 |eq (i:Nat)
 |lt (i:Nat)
inductive SB where
 |uy
 |cmp (i n:Nat) (pol:Bool)
inductive SD where
 |top
 |lit (x:Data)
 |bool (c:SB)
 |int (k:IntKind) (lo hi:Int) (r:Rel)
 |anyI (k:IntKind)
 |str (n:Nat)
 |slice (v:Option Nat) (lo hi:Nat) (row:List SD)
 |pr (k:Nat) (x:SD)
inductive SV where
 |top
 |any
 |d (x:SD)
 |own (sz:Nat) (x:SD)
 |N7
 |ptr (id off:Nat)
 |S7 (row:List SD)
 |A8 (id sz lo len:Nat)
 |agg (p:Option Nat) (l:List SV)
 |tuple (l:List SV)
 |bn (k:Nat)  
 |q (x:SD)    
 |wp (id lo sz cnt:Nat)  
instance:Inhabited SV:=⟨.any⟩
instance:Inhabited SD:=⟨.top⟩
inductive SO where
 |dead
 |cells (p:Option Nat) (l:List SV)
 |pr (k:Nat)
 |bn (k:Nat)
 |top
 |Rl (k b:Nat)  
instance:Inhabited SO:=⟨.dead⟩
structure Ctx where
 Φ:Nat->Data->Prop
 Θ:Nat->List c8->Prop
 Ψ:Nat->u0->Prop
 K5:∀ k o,Ψ k o->o.K5=0
 Ω:Nat->u0->Prop:=fun _ _=>False
def Rel.g (vs:List Nat):Rel->Int->Prop
 | .no,_=>True
 | .eq i,n=>∃ m,vs[i]? =some m/\n=(m:Int)
 | .lt i,n=>∃ m,vs[i]? =some m/\0<=n/\n<(m:Int)
def SB.g (vs:List Nat):SB->Bool->Prop
 | .uy,_=>True
 | .cmp i n pol,b=>∃ m,vs[i]? =some m/\b=(decide (n<m)==pol)
section
variable (C:Ctx)
mutual
def SD.g (vs:List Nat):SD->Data->Prop
 | .top,_=>True
 | .lit x,d=>d=x
 | .bool c,d=>∃ b,d= .bool b/\c.g vs b
 | .int k lo hi r,d=>∃ n,d= .int k n/\lo<=n/\n<=hi/\r.g vs n
 | .anyI k,d=>∃ n,d= .int k n
 | .str m,d=>∃ s,d= .str s/\s.length<=m
 | .slice v lo hi row,d=>∃ rows:List (List Data),d= .slice rows.length rows.flatten/\lo<=rows.length/\rows.length<=hi/\(∀ i,v=some i->vs[i]? =some rows.length)/\∀ r,r ∈ rows->L1.g vs row r
 | .pr k x,d=>C.Φ k d/\SD.g vs x d
def L1.g (vs:List Nat):List SD->List Data->Prop
 |[],ds=>ds=[]
 |x::xs,ds=>∃ d ds',ds=d::ds' /\SD.g vs x d/\L1.g vs xs ds'
end
mutual
def SV.g (vs:List Nat):SV->c8->Prop
 | .top,_=>True
 | .any,v=>v= .any
 | .d x,v=>∃ y,v= .d y/\SD.g C vs x y
 | .own sz x,v=>∃ len cells,v= .own sz len cells/\SD.g C vs x (.slice len cells)
 | .N7,v=>v= .N7
 | .ptr id off,v=>v= .ptr id off
 | .S7 row,v=>∃ cells rest,v= .S7 (cells++rest)/\L1.g C vs row cells
 | .A8 id sz lo len,v=>v= .A8 id sz lo len
 | .agg p l,v=>∃ cs,v= .agg cs/\y8.g vs l cs/\∀ k,p=some k->C.Θ k (cs.map c8.J2)
 | .tuple l,v=>∃ cs,v= .tuple cs/\y8.g vs l cs
 | .bn k,v=>v.K5=k/\v.one=true
 | .q x,v=>∃ y,v.J2= .d y/\SD.g C vs x y
 | .wp id lo sz cnt,v=>∃ j,j<cnt/\v= .ptr id (lo+j * sz)
def y8.g (vs:List Nat):List SV->List c8->Prop
 |[],as=>as=[]
 |x::xs,as=>∃ a as',as=a::as' /\SV.g vs x a/\y8.g vs xs as'
end
def SO.g (vs:List Nat):SO->u0->Prop
 | .dead,o=>o= .dead
 | .cells p l,o=>∃ cs,o= .cells cs/\y8.g C vs l cs/\∀ k,p=some k->C.Θ k (cs.map c8.J2)
 | .pr k,o=>C.Ψ k o
 | .bn k,o=>o.K5=k
 | .top,_=>True
 | .Rl k b,o=>C.Ω k o/\o.K5=b
def K4.g (vs:List Nat):List SO->o9->Prop
 |[],os=>os=[]
 |x::xs,os=>∃ o os',os=o::os' /\SO.g C vs x o/\K4.g vs xs os'
end
def Le (vs ws:List Nat):Prop:=∀ (i m:Nat),vs[i]? =some m->ws[i]? =some m
theorem Le.refl (vs:List Nat):Le vs vs:=fun _ _ h=>h
theorem Le.trans {a b c:List Nat}(h:Le a b)(k:Le b c):Le a c:=fun i m e=>k i m (h i m e)
theorem Le.app (vs ws:List Nat):Le vs (vs++ws):=fun i m h=>by
 grind
section
variable {C:Ctx} {vs ws:List Nat}
theorem Rel.P7 (hl:Le vs ws){r:Rel}{n:Int}(h:r.g vs n):r.g ws n:=by
 cases r with
 |no=>trivial
 |eq i=>obtain ⟨m,h1,h2⟩:=h;exact ⟨m,hl _ _ h1,h2⟩
 |lt i=>obtain ⟨m,h1,h2⟩:=h;exact ⟨m,hl _ _ h1,h2⟩
theorem SB.P7 (hl:Le vs ws){r:SB}{n:Bool}(h:r.g vs n):r.g ws n:=by
 cases r with
 |uy=>trivial
 |cmp i n pol=>obtain ⟨m,h1,h2⟩:=h;exact ⟨m,hl _ _ h1,h2⟩
mutual
theorem SD.P7 (hl:Le vs ws):∀ (x:SD) {d:Data},x.g C vs d->x.g C ws d
 | .top,_,h=>by simp [SD.g]
 | .lit _,_,h=>by simp_all [SD.g]
 | .bool c,_,h=>by grind [SD.g,SB.P7]
 | .int k lo hi r,_,h=>by grind [SD.g,Rel.P7]
 | .anyI _,_,h=>by simp_all [SD.g]
 | .str _,_,h=>by simp_all [SD.g]
 | .slice v lo hi row,_,h=>by
  obtain ⟨rows,h1,h2,h3,h4,h5⟩:=h;exact ⟨rows,h1,h2,h3,fun i e=>hl _ _ (h4 i e),fun r hr=>L1.P7 hl row (h5 r hr)⟩
 | .pr _ x,_,h=>by exact ⟨h.1,SD.P7 hl x h.2⟩
theorem L1.P7 (hl:Le vs ws):∀ (x:List SD) {d:List Data},L1.g C vs x d->L1.g C ws x d
 |[],_,h=>by simp_all [L1.g]
 |x::xs,_,h=>by obtain ⟨d,ds,h1,h2,h3⟩:=h;exact ⟨d,ds,h1,SD.P7 hl x h2,L1.P7 hl xs h3⟩
end
mutual
theorem SV.P7 (hl:Le vs ws):∀ (x:SV) {d:c8},x.g C vs d->x.g C ws d
 | .top,_,h=>by simp only [SV.g]
 | .any,_,h=>by simpa only [SV.g] using h
 | .d x,_,h=>by simp only [SV.g] at h ⊢;obtain ⟨y,h1,h2⟩:=h;exact ⟨y,h1,SD.P7 hl x h2⟩
 | .own _ x,_,h=>by simp only [SV.g] at h ⊢;obtain ⟨a,b,h1,h2⟩:=h;exact ⟨a,b,h1,SD.P7 hl x h2⟩
 | .N7,_,h=>by simpa only [SV.g] using h
 | .ptr ..,_,h=>by simpa only [SV.g] using h
 | .S7 row,_,h=>by simp only [SV.g] at h ⊢;obtain ⟨a,b,h1,h2⟩:=h;exact ⟨a,b,h1,L1.P7 hl row h2⟩
 | .A8 ..,_,h=>by simpa only [SV.g] using h
 | .wp ..,_,h=>by simpa only [SV.g] using h
 | .agg p l,_,h=>by simp only [SV.g] at h ⊢;obtain ⟨cs,h1,h2,h3⟩:=h;exact ⟨cs,h1,y8.P7 hl l h2,h3⟩
 | .tuple l,_,h=>by simp only [SV.g] at h ⊢;obtain ⟨cs,h1,h2⟩:=h;exact ⟨cs,h1,y8.P7 hl l h2⟩
 | .bn _,_,h=>by simpa only [SV.g] using h
 | .q x,_,h=>by simp only [SV.g] at h ⊢;obtain ⟨y,h1,h2⟩:=h;exact ⟨y,h1,SD.P7 hl x h2⟩
theorem y8.P7 (hl:Le vs ws):∀ (x:List SV) {d:List c8},y8.g C vs x d->y8.g C ws x d
 |[],_,h=>by simpa only [y8.g] using h
 |x::xs,_,h=>by simp only [y8.g] at h ⊢;obtain ⟨d,ds,h1,h2,h3⟩:=h;exact ⟨d,ds,h1,SV.P7 hl x h2,y8.P7 hl xs h3⟩
end
theorem SO.P7 (hl:Le vs ws)(x:SO){o:u0}(h:x.g C vs o):x.g C ws o:=by
 cases x with
 |dead=>exact h
 |cells p l=>obtain ⟨cs,h1,h2,h3⟩:=h;exact ⟨cs,h1,y8.P7 hl l h2,h3⟩
 |pr k=>exact h
 |bn k=>exact h
 |top=>trivial
 |Rl k b=>exact h
theorem K4.P7 (hl:Le vs ws):∀ (x:List SO) {o:o9},K4.g C vs x o->K4.g C ws x o
 |[],_,h=>by simp_all [K4.g]
 |x::xs,_,h=>by obtain ⟨d,ds,h1,h2,h3⟩:=h;exact ⟨d,ds,h1,SO.P7 hl x h2,K4.P7 hl xs h3⟩
end
section
variable {C:Ctx} {vs:List Nat}
theorem L1.len:∀ {x:List SD} {d:List Data},L1.g C vs x d->d.length=x.length
 |[],_,h=>by simp_all [L1.g]
 |x::xs,_,h=>by obtain ⟨d,ds,rfl,_,h3⟩:=h;simp [L1.len h3]
theorem y8.len:∀ {x:List SV} {d:List c8},y8.g C vs x d->d.length=x.length
 |[],_,h=>by simp_all [y8.g]
 |x::xs,_,h=>by obtain ⟨d,ds,rfl,_,h3⟩:=h;simp [y8.len h3]
theorem K4.len:∀ {x:List SO} {d:o9},K4.g C vs x d->d.length=x.length
 |[],_,h=>by simp_all [K4.g]
 |x::xs,_,h=>by obtain ⟨d,ds,rfl,_,h3⟩:=h;simp [K4.len h3]
theorem y8.app:∀ {x y:List SV} {d e:List c8},y8.g C vs x d->y8.g C vs y e->y8.g C vs (x++y) (d++e)
 |[],_,_,_,h,k=>by simp_all [y8.g]
 |x::xs,_,_,_,h,k=>by obtain ⟨d,ds,rfl,h2,h3⟩:=h;exact ⟨d,_,rfl,h2,y8.app h3 k⟩
theorem K4.app:∀ {x y:List SO} {d e:o9},K4.g C vs x d->K4.g C vs y e->K4.g C vs (x++y) (d++e)
 |[],_,_,_,h,k=>by simp_all [K4.g]
 |x::xs,_,_,_,h,k=>by obtain ⟨d,ds,rfl,h2,h3⟩:=h;exact ⟨d,_,rfl,h2,K4.app h3 k⟩
theorem y8.get:∀ {x:List SV} {d:List c8},y8.g C vs x d->∀ {i:Nat} {a:SV},x[i]? =some a->∃ b,d[i]? =some b/\a.g C vs b
 |[],_,_,_,_,e=>by simp at e
 |x::xs,_,h,i,a,e=>by
  obtain ⟨d,ds,rfl,h2,h3⟩:=h;cases i with
  |zero=>simp at e;subst e;exact ⟨d,rfl,h2⟩
  |succ i=>simpa using y8.get h3 (by simpa using e)
theorem y8.none:∀ {x:List SV} {d:List c8},y8.g C vs x d->∀ {i:Nat},x[i]? =none->d[i]? =none:=fun h i e=>by
 grind [List.getElem?_eq_none_iff,y8.len]
theorem K4.get:∀ {x:List SO} {d:o9},K4.g C vs x d->∀ {i:Nat} {a:SO},x[i]? =some a->∃ b,d[i]? =some b/\a.g C vs b
 |[],_,_,_,_,e=>by simp at e
 |x::xs,_,h,i,a,e=>by
  obtain ⟨d,ds,rfl,h2,h3⟩:=h;cases i with
  |zero=>simp at e;subst e;exact ⟨d,rfl,h2⟩
  |succ i=>simpa using K4.get h3 (by simpa using e)
theorem y8.set:∀ {x:List SV} {d:List c8},y8.g C vs x d->∀ (i:Nat) {a:SV} {b:c8},a.g C vs b->y8.g C vs (x.set i a) (d.set i b)
 |[],_,h,_,_,_,_=>by simp_all [y8.g]
 |x::xs,_,h,i,a,b,e=>by
  obtain ⟨d,ds,rfl,h2,h3⟩:=h;cases i with
  |zero=>exact ⟨_,_,rfl,e,h3⟩
  |succ i=>exact ⟨_,_,rfl,h2,y8.set h3 i e⟩
theorem K4.set:∀ {x:List SO} {d:o9},K4.g C vs x d->∀ (i:Nat) {a:SO} {b:u0},a.g C vs b->K4.g C vs (x.set i a) (d.set i b)
 |[],_,h,_,_,_,_=>by simp_all [K4.g]
 |x::xs,_,h,i,a,b,e=>by
  obtain ⟨d,ds,rfl,h2,h3⟩:=h;cases i with
  |zero=>exact ⟨_,_,rfl,e,h3⟩
  |succ i=>exact ⟨_,_,rfl,h2,K4.set h3 i e⟩
theorem y8.take:∀ {x:List SV} {d:List c8},y8.g C vs x d->∀ (n:Nat),y8.g C vs (x.take n) (d.take n)
 |[],_,h,n=>by simp_all [y8.g]
 |x::xs,_,h,n=>by
  obtain ⟨d,ds,rfl,h2,h3⟩:=h;cases n with
  |zero=>simp [y8.g]
  |succ n=>exact ⟨_,_,rfl,h2,y8.take h3 n⟩
theorem y8.drop:∀ {x:List SV} {d:List c8},y8.g C vs x d->∀ (n:Nat),y8.g C vs (x.drop n) (d.drop n)
 |[],_,h,n=>by simp_all [y8.g]
 |x::xs,_,h,n=>by
  have h' :=h;obtain ⟨d,ds,rfl,h2,h3⟩:=h;cases n with
  |zero=>exact h'
  |succ n=>simpa using y8.drop h3 n
theorem K4.take:∀ {x:List SO} {d:o9},K4.g C vs x d->∀ (n:Nat),K4.g C vs (x.take n) (d.take n)
 |[],_,h,n=>by simp_all [K4.g]
 |x::xs,_,h,n=>by
  obtain ⟨d,ds,rfl,h2,h3⟩:=h;cases n with
  |zero=>simp [K4.g]
  |succ n=>exact ⟨_,_,rfl,h2,K4.take h3 n⟩
theorem K4.drop:∀ {x:List SO} {d:o9},K4.g C vs x d->∀ (n:Nat),K4.g C vs (x.drop n) (d.drop n)
 |[],_,h,n=>by simp_all [K4.g]
 |x::xs,_,h,n=>by
  have h' :=h;obtain ⟨d,ds,rfl,h2,h3⟩:=h;cases n with
  |zero=>exact h'
  |succ n=>simpa using K4.drop h3 n
theorem y8.map {f:SV->SV}{f' :c8->c8}(hf:∀ x a,SV.g C vs x a->SV.g C vs (f x) (f' a)):∀ {x:List SV} {d:List c8},y8.g C vs x d->y8.g C vs (x.map f) (d.map f')
 |[],_,h=>by simp_all [y8.g]
 |x::xs,_,h=>by
  obtain ⟨d,ds,rfl,h2,h3⟩:=h;exact ⟨_,_,rfl,hf _ _ h2,y8.map hf h3⟩
end
def Sb:IntKind->IntKind->Bool:=fun a b=>decide (a=b)
mutual
def Fe:Data->Data->Bool
 | .bool a,.bool b=>a==b
 | .int k n,.int k' n' =>decide (k=k')&&decide (n=n')
 | .str s,.str t=>s==t
 | .slice n l,.slice m r=>s7 n m&&uO l r
 | .br,.br=>true
 | .N9,.N9=>true
 | .cu,.cu=>true
 | .nilIface,.nilIface=>true
 |_,_=>false
def uO:List Data->List Data->Bool
 |[],[]=>true
 |a::l,b::r=>Fe a b&&uO l r
 |_,_=>false
end
mutual
theorem Ff:∀ (a b:Data),Fe a b=true->a=b
 | .bool a,b,h=>by cases b<;>simp_all [Fe]
 | .int k n,b,h=>by cases b<;>simp_all [Fe]
 | .str s,b,h=>by cases b<;>simp_all [Fe]
 | .slice n l,b,h=>by
  cases b<;>simp only [Fe,c7,j3] at h;rename_i m r;rw [j4 h.1,Fg l r h.2]
 | .br,b,h=>by grind [Fe]
 | .N9,b,h=>by grind [Fe]
 | .cu,b,h=>by grind [Fe]
 | .nilIface,b,h=>by grind [Fe]
theorem Fg:∀ (a b:List Data),uO a b=true->a=b
 |[],b,h=>by grind [uO]
 |x::a,b,h=>by
  cases b<;>simp [uO,c7,j3] at h;rw [Ff _ _ h.1,Fg _ _ h.2]
end
abbrev jg:=List (Nat×Nat)
def Bg (vs:List Nat)(B:jg):Prop:=vs.length=B.length/\∀ (i lo hi:Nat),B[i]? =some (lo,hi)->∃ m,vs[i]? =some m/\lo<=m/\m<=hi
def bdV (B:jg)(v:Option Nat)(lo hi:Nat):Nat×Nat:=match v with
 |none=>(lo,hi)
 |some i=>match B[i]? with
  |some (a,b)=>(max lo a,min hi b)
  |none=>(lo,hi)
def ZZ {vs:List Nat}{B:jg}(hB:Bg vs B){v:Option Nat}{lo hi m:Nat}(h1:lo<=m)(h2:m<=hi)(h3:∀ i,v=some i->vs[i]? =some m):(bdV B v lo hi).1<=m/\m<=(bdV B v lo hi).2:=by
 unfold bdV;split
 .omega
 .split
  .rename_i a b hb
   obtain ⟨m',e1,e2,e3⟩:=hB.2 _ _ _ hb
   grind
  omega
def SD.int? (B:jg):SD->Option (IntKind×Int×Int×Rel)
 | .lit (.int k n)=>some (k,n,n,.no)
 | .int k lo hi r=>match r with
  | .eq i=>match B[i]? with
   |some (a,b)=>some (k,max lo a,min hi b,.eq i)
   |none=>some (k,lo,hi,.eq i)
  |_=>some (k,lo,hi,r)
 | .pr _ x=>x.int? B
 |_=>none
def SD.tO :SD->Option (Nat×Option (List UInt8))
 | .lit (.str s)=>some (s.length,some s)
 | .str m=>some (m,none)
 | .pr _ x=>x.tO
 |_=>none
inductive BK where
 |t (b:Bool)
 |u (c:SB)
def SD.bool? :SD->Option BK
 | .lit (.bool b)=>some (.t b)
 | .bool c=>some (.u c)
 | .pr _ x=>x.bool?
 |_=>none
def SD.kind? :SD->Option IntKind
 | .lit (.int k _)=>some k
 | .int k _ _ _=>some k
 | .anyI k=>some k
 | .pr _ x=>x.kind?
 |_=>none
def nY:List Data->Option (IntKind×Int×Int)
 |[]=>none
 | .int k n::r=>match r with
  |[]=>some (k,n,n)
  |_=>match nY r with
   |some (k',lo,hi)=>if Sb k k' then some (k,min lo n,max hi n) else none
   |none=>none
 |_=>none
def Ij:Data->Data->SD
 | .int k n,.int k' n' =>if Sb k k' then .int k (min n n') (max n n') .no else .top
 | .str s,.str t=> .str (max s.length t.length)
 | .bool _,.bool _=> .bool .uy
 | .slice n cs,.slice m ds=>if s7 cs.length n&&s7 ds.length m then match nY (cs++ds) with
   |some (k,lo,hi)=> .slice none (min n m) (max n m) [.int k lo hi .no]
   |none=> .top
  else .top
 |_,_=> .top
def Rel.join:Rel->Rel->Rel
 | .eq i,.eq j=>if s7 i j then .eq i else .no
 | .lt i,.lt j=>if s7 i j then .lt i else .no
 |_,_=> .no
def RA:SD->Data->SD
 | .lit a,b=>if Fe a b then .lit a else Ij a b
 | .int k lo hi _,.int k' n=>if Sb k k' then .int k (min lo n) (max hi n) .no else .top
 | .str m,.str t=> .str (max m t.length)
 | .bool _,.bool _=> .bool .uy
 |_,_=> .top
def vA:List SD->List Data->List SD
 |x::xs,d::ds=>RA x d::vA xs ds
 |_,_=>[]
def rowsOf (sz:Nat):Nat->List Data->List (List Data)
 |0,_=>[]
 |n+1,cs=>cs.take sz::rowsOf sz n (cs.drop sz)
def Jo (sz:Nat):List (List Data)->List SD
 |[]=>c9 sz .top
 |r::rs=>rs.foldl vA (r.map .lit)
def SD.rM (B:jg):SD->Option (Option Nat×Nat×Nat)
 | .lit (.slice n _)=>some (none,n,n)
 | .slice v lo hi _=>some (v,bdV B v lo hi)
 | .pr _ x=>x.rM B
 |_=>none
def SD.slice? (B:jg)(sz:Nat):SD->Option (Option Nat×Nat×Nat×List SD)
 | .lit (.slice n cells)=>if s7 cells.length (n * sz) then some (none,n,n,Jo sz (rowsOf sz n cells)) else none
 | .slice v lo hi row=>if s7 row.length sz then some (v,(bdV B v lo hi).1,(bdV B v lo hi).2,row) else none
 | .pr _ x=>x.slice? B sz
 |_=>none
section
variable {C:Ctx} {vs:List Nat} {B:jg}
theorem SD.iN (hB:Bg vs B):∀ {x:SD} {d:Data} {k:IntKind} {lo hi:Int} {r:Rel},x.int? B=some (k,lo,hi,r)->x.g C vs d->∃ n,d= .int k n/\lo<=n/\n<=hi/\r.g vs n
 | .lit (.int k' n'),_,_,_,_,_,h,hg=>by
  obtain ⟨rfl,rfl,rfl,rfl⟩:=h;exact ⟨_,hg,Int.le_refl _,Int.le_refl _,trivial⟩
 | .int k' lo' hi' r',_,_,_,_,_,h,hg=>by
  obtain ⟨n,rfl,h1,h2,h3⟩:=hg;simp [SD.int?] at h;split at h
  .split at h
   .rename_i a b hb
    obtain ⟨rfl,rfl,rfl,rfl⟩:=h;obtain ⟨m,e1,e2⟩:=h3;obtain ⟨m',e3,e4,e5⟩:=hB.2 _ _ _ hb;rw [e1] at e3;cases e3;exact ⟨n,rfl,by omega,by omega,m,e1,e2⟩
   simp_all
  simp_all
 | .pr k' x,_,_,_,_,_,h,hg=>by
  simp [SD.int?] at h;exact SD.iN hB h hg.2
 | .lit (.bool _),_,_,_,_,_,h,_=>by simp [SD.int?] at h
 | .lit (.str _),_,_,_,_,_,h,_=>by simp [SD.int?] at h
 | .lit (.slice _ _),_,_,_,_,_,h,_=>by simp [SD.int?] at h
 | .lit .br,_,_,_,_,_,h,_=>by simp [SD.int?] at h
 | .lit .N9,_,_,_,_,_,h,_=>by simp [SD.int?] at h
 | .lit .cu,_,_,_,_,_,h,_=>by simp [SD.int?] at h
 | .lit .nilIface,_,_,_,_,_,h,_=>by simp [SD.int?] at h
 | .top,_,_,_,_,_,h,_=>by simp [SD.int?] at h
 | .bool _,_,_,_,_,_,h,_=>by simp [SD.int?] at h
 | .anyI _,_,_,_,_,_,h,_=>by simp [SD.int?] at h
 | .str _,_,_,_,_,_,h,_=>by simp [SD.int?] at h
 | .slice ..,_,_,_,_,_,h,_=>by simp [SD.int?] at h
theorem SD.vO:∀ {x:SD} {d:Data} {m:Nat} {e:Option (List UInt8)},x.tO =some (m,e)->x.g C vs d->∃ s,d= .str s/\s.length<=m/\∀ t,e=some t->s=t
 | .lit x,_,_,_,h,hg=>by
  cases x<;>simp [SD.tO,reduceCtorEq] at h
  grind [SD.g]
 | .str m',_,_,_,h,hg=>by
  grind [SD.tO,Option.some.injEq,Prod.mk.injEq,SD.g]
 | .pr _ x,_,_,_,h,hg=>by
  simp [SD.tO] at h;exact SD.vO h hg.2
 | .top,_,_,_,h,_=>by simp [SD.tO] at h
 | .bool _,_,_,_,h,_=>by simp [SD.tO] at h
 | .anyI _,_,_,_,h,_=>by simp [SD.tO] at h
 | .int ..,_,_,_,h,_=>by simp [SD.tO] at h
 | .slice ..,_,_,_,h,_=>by simp [SD.tO] at h
theorem SD.dY:∀ {x:SD} {d:Data} {c:BK},x.bool? =some c->x.g C vs d->∃ b,d= .bool b/\match c with| .t b' =>b=b' | .u c=>c.g vs b
 | .lit x,_,_,h,hg=>by
  cases x<;>simp [SD.bool?,reduceCtorEq] at h
  grind [SD.g]
 | .bool c,_,_,h,hg=>by
  grind [SD.bool?,Option.some.injEq,SD.g]
 | .pr _ x,_,_,h,hg=>by
  simp [SD.bool?] at h;exact SD.dY h hg.2
 | .top,_,_,h,_=>by simp [SD.bool?] at h
 | .str _,_,_,h,_=>by simp [SD.bool?] at h
 | .anyI _,_,_,h,_=>by simp [SD.bool?] at h
 | .int ..,_,_,h,_=>by simp [SD.bool?] at h
 | .slice ..,_,_,h,_=>by simp [SD.bool?] at h
theorem SD.yl:∀ {x:SD} {d:Data} {k:IntKind},x.kind? =some k->x.g C vs d->∃ n,d= .int k n
 | .lit x,_,_,h,hg=>by
  cases x<;>simp [SD.kind?,reduceCtorEq] at h;simp_all [SD.g]
 | .int ..,_,_,h,hg=>by
  grind [SD.kind?,Option.some.injEq,SD.g]
 | .anyI _,_,_,h,hg=>by
  simp_all [SD.kind?,Option.some.injEq,SD.g]
 | .pr _ x,_,_,h,hg=>by
  simp [SD.kind?] at h;exact SD.yl h hg.2
 | .top,_,_,h,_=>by simp [SD.kind?] at h
 | .str _,_,_,h,_=>by simp [SD.kind?] at h
 | .bool _,_,_,h,_=>by simp [SD.kind?] at h
 | .slice ..,_,_,h,_=>by simp [SD.kind?] at h
theorem SD.Mi (hB:Bg vs B):∀ {x:SD} {d:Data} {v:Option Nat} {lo hi:Nat},x.rM B=some (v,lo,hi)->x.g C vs d->∃ n cells,d= .slice n cells/\lo<=n/\n<=hi/\∀ i,v=some i->vs[i]? =some n
 | .lit x,_,_,_,_,h,hg=>by
  cases x<;>simp [SD.rM,reduceCtorEq] at h
  grind [SD.g]
 | .slice v' lo' hi' row,_,_,_,_,h,hg=>by
  simp [SD.rM,Option.some.injEq,Prod.mk.injEq] at h;obtain ⟨rfl,h⟩:=h;obtain ⟨rows,rfl,h1,h2,h3,_⟩:=hg;have:=ZZ hB h1 h2 h3;simp_all
 | .pr _ x,_,_,_,_,h,hg=>by
  simp [SD.rM] at h;exact SD.Mi hB h hg.2
 | .top,_,_,_,_,h,_=>by simp [SD.rM] at h
 | .str _,_,_,_,_,h,_=>by simp [SD.rM] at h
 | .bool _,_,_,_,_,h,_=>by simp [SD.rM] at h
 | .anyI _,_,_,_,_,h,_=>by simp [SD.rM] at h
 | .int ..,_,_,_,_,h,_=>by simp [SD.rM] at h
theorem NK:∀ {l:List Data} {k:IntKind} {lo hi:Int},nY l=some (k,lo,hi)->∀ d,d ∈ l->∃ n,d= .int k n/\lo<=n/\n<=hi
 |[],_,_,_,h,_,_=>by simp_all
 | .int k n::r,_,_,_,h,d,hd=>by
  simp [nY] at h;split at h
  .grind
  .split at h
   .rename_i k' lo' hi' e
    split at h
    .rename_i hk
     have hk:k=k' :=of_decide_eq_true hk
     rcases B4.1 hd with rfl|hd
     .grind
     .obtain ⟨m,rfl,h1,h2⟩:=NK e d hd
      grind
    .cases h
   .cases h
 | .bool _::_,_,_,_,h,_,_=>by simp [nY] at h
 | .str _::_,_,_,_,h,_,_=>by simp [nY] at h
 | .slice _ _::_,_,_,_,h,_,_=>by simp [nY] at h
 | .br::_,_,_,_,h,_,_=>by simp [nY] at h
 | .N9::_,_,_,_,h,_,_=>by simp [nY] at h
 | .cu::_,_,_,_,h,_,_=>by simp [nY] at h
 | .nilIface::_,_,_,_,h,_,_=>by simp [nY] at h
theorem Tl:∀ l:List Data,(l.map fun d=>[d]).flatten=l
 |[]=>rfl
 |d::l=>by simp [Tl l]
theorem FC (a b:Data):(Ij a b).g C vs a/\(Ij a b).g C vs b:=by
 unfold Ij;split
 .rename_i k n k' n'
  split
  .rename_i hk
   have hk:k=k' :=of_decide_eq_true hk;subst hk;exact ⟨⟨_,rfl,by omega,by omega,trivial⟩,⟨_,rfl,by omega,by omega,trivial⟩⟩
  .simp [SD.g]
 .grind [SD.g]
 .exact ⟨⟨_,rfl,trivial⟩,⟨_,rfl,trivial⟩⟩
 .rename_i n cs m ds
  split
  .rename_i hc
   simp only [c7] at hc;have c1:=j4 hc.1;have c2:=j4 hc.2;split
   .rename_i k lo hi e
    have key:∀ l:List Data,(∀ d,d ∈ l->d ∈ cs++ds)->∀ r,r ∈ l.map (fun d=>[d])->L1.g C vs [.int k lo hi .no] r:=by
     intro l hl r hr;obtain ⟨d,hd,rfl⟩:=F5.1 hr;obtain ⟨q,rfl,h1,h2⟩:=NK e d (hl d hd);exact ⟨_,_,rfl,⟨q,rfl,h1,h2,trivial⟩,rfl⟩
    exact ⟨⟨cs.map fun d=>[d],by rw [Tl,B0,c1],by grind,by grind,(fun i h=>by cases h),key cs fun d h=>E0 _ h⟩,
     ⟨ds.map fun d=>[d],by rw [Tl,B0,c2],by grind,by grind,(fun i h=>by cases h),key ds fun d h=>E7 _ h⟩⟩
   .simp [SD.g]
  .simp [SD.g]
 .simp [SD.g]
theorem Vp {x:SD}{a:Data}(b:Data)(h:x.g C vs a):(RA x b).g C vs a:=by
 unfold RA;split
 .grind [SD.g,FC]
 .split
  .obtain ⟨m,rfl,h1,h2,_⟩:=h
   exact ⟨_,rfl,by omega,by omega,trivial⟩
  .simp [SD.g]
 .grind [SD.g]
 .obtain ⟨m,rfl,h1⟩:=h
  exact ⟨_,rfl,trivial⟩
 .simp [SD.g]
def Vq (x:SD)(b:Data):(RA x b).g C vs b:=by
 unfold RA;split
 .split
  .grind [SD.g,Ff]
  .exact (FC _ _).2
 .rename_i k lo hi r k' n
  split
  .rename_i hk
   have hk:k=k' :=of_decide_eq_true hk;subst hk;exact ⟨_,rfl,by omega,by omega,trivial⟩
  .simp [SD.g]
 .grind [SD.g]
 .exact ⟨_,rfl,trivial⟩
 .simp [SD.g]
theorem Vi:∀ {x:List SD} {a b:List Data},L1.g C vs x a->a.length=b.length->L1.g C vs (vA x b) a
 |[],_,_,h,hl=>by simp_all [L1.g,vA]
 |x::xs,_,b,h,hl=>by
  obtain ⟨d,ds,rfl,h1,h2⟩:=h;cases b with
  |nil=>simp at hl
  |cons b bs=>exact ⟨_,_,rfl,Vp b h1,Vi h2 (by simp_all)⟩
theorem Vj:∀ {x:List SD} {b:List Data},x.length=b.length->L1.g C vs (vA x b) b
 |[],[],_=>by rfl
 |[],_::_,h=>by simp at h
 |_::_,[],h=>by simp at h
 |x::xs,b::bs,h=>by exact ⟨_,_,rfl,Vq x b,Vj (by simpa using h)⟩
theorem Jm:∀ (x:List SD) (b:List Data),x.length=b.length->(vA x b).length=x.length
 |[],[],_=>rfl
 |[],_::_,h=>by simp at h
 |_::_,[],h=>by simp at h
 |x::xs,b::bs,h=>by simp [vA,p7];rw [Jm xs bs (by simpa using h)]
theorem Ug:∀ (r:List Data),L1.g C vs (r.map .lit) r
 |[]=>by simp [L1.g]
 |d::r=>by exact ⟨_,_,rfl,rfl,Ug r⟩
theorem yg {sz:Nat}:∀ (rs:List (List Data)) (x:List SD),x.length=sz->(∀ r,r ∈ rs->r.length=sz)->(∀ a,a.length=sz->L1.g C vs x a->L1.g C vs (rs.foldl vA x) a)/\(∀ r,r ∈ rs->L1.g C vs (rs.foldl vA x) r)/\(rs.foldl vA x).length=sz
 |[],x,hx,_=>⟨fun a _ h=>h,by simp,hx⟩
 |r::rs,x,hx,hr=>by
  have hl:(vA x r).length=sz:=by simp_all [Jm]
  obtain ⟨h1,h2,h3⟩:=yg rs (vA x r) hl (fun r' h=>hr r' (by simp [h]));simp_all [Vi,B4,Vj]
theorem dG {sz:Nat}:∀ (n:Nat) (cs:List Data),cs.length=n * sz->(rowsOf sz n cs).flatten=cs/\(rowsOf sz n cs).length=n/\∀ r,r ∈ rowsOf sz n cs->r.length=sz
 |0,cs,h=>by simp_all [rowsOf]
 |n+1,cs,h=>by
  rw [Nat.succ_mul] at h;obtain ⟨h1,h2,h3⟩:=dG (sz:=sz) n (cs.drop sz) (by simp;omega);simp_all [rowsOf,B4]
def Oi {sz:Nat}{rs:List (List Data)}(hr:∀ r,r ∈ rs->r.length=sz):(∀ r,r ∈ rs->L1.g C vs (Jo sz rs) r)/\(Jo sz rs).length=sz:=by
 cases rs with
 |nil=>simp_all [Jo]
 |cons r rs =>
  obtain ⟨h1,h2,h3⟩:=yg (C:=C) (vs:=vs) rs (r.map .lit) (by simp_all) (fun r' h=>hr r' (by simp [h]));refine ⟨fun r' h=> ?_,h3⟩
  rcases B4.1 h with rfl|h
  .exact h1 _ (hr _ (by simp)) (Ug _)
  .exact h2 _ h
theorem SD.eB (hB:Bg vs B){sz:Nat}:∀ {x:SD} {d:Data} {v:Option Nat} {lo hi:Nat} {row:List SD},x.slice? B sz=some (v,lo,hi,row)->x.g C vs d ->
  row.length=sz/\∃ rows:List (List Data),d= .slice rows.length rows.flatten/\lo<=rows.length/\rows.length<=hi/\(∀ i,v=some i->vs[i]? =some rows.length)/\∀ r,r ∈ rows->L1.g C vs row r
 | .lit x,_,_,_,_,_,h,hg=>by
  cases x<;>simp only [SD.slice?,reduceCtorEq] at h;rename_i n cells;split at h
  .rename_i hc
   have hc:=j4 hc;simp [Option.some.injEq] at h;subst hg;obtain ⟨h1,h2,h3⟩:=dG n cells hc;obtain ⟨h4,h5⟩:=Oi (C:=C) (vs:=vs) h3
   grind
  .cases h
 | .slice v' lo' hi' row',_,_,_,_,_,h,hg=>by
  simp only [SD.slice?] at h;split at h
  .rename_i hc
   have hc:=j4 hc;obtain ⟨rows,rfl,h1,h2,h3,h4⟩:=hg;have:=ZZ hB h1 h2 h3
   grind
  .cases h
 | .pr _ x,_,_,_,_,_,h,hg=>by
  simp [SD.slice?] at h;exact SD.eB hB h hg.2
 | .top,_,_,_,_,_,h,_=>by simp [SD.slice?] at h
 | .str _,_,_,_,_,_,h,_=>by simp [SD.slice?] at h
 | .bool _,_,_,_,_,_,h,_=>by simp [SD.slice?] at h
 | .anyI _,_,_,_,_,_,h,_=>by simp [SD.slice?] at h
 | .int ..,_,_,_,_,_,h,_=>by simp [SD.slice?] at h
end
def Rel.le:Rel->Rel->Bool
 |_,.no=>true
 | .eq i,.eq j=>s7 i j
 | .lt i,.lt j=>s7 i j
 |_,_=>false
theorem Rel.ct {vs:List Nat}{r s:Rel}{n:Int}(h:r.le s=true)(hr:r.g vs n):s.g vs n:=by
 cases r<;>cases s<;>simp [Rel.le] at h<;>first
  |trivial
  |simp_all
def iLe (a b:Int):Bool:=decide (a<=b)
mutual
def SD.le (B:jg)(x:SD):SD->Bool
 | .top=>true
 | .lit b=>match x with
  | .lit a=>Fe a b
  |_=>false
 | .bool .uy=>match x.bool? with
  |some _=>true
  |none=>false
 | .bool _=>false
 | .int k lo hi r=>match x.int? B with
  |some (k',a,b,s)=>Sb k' k&&iLe lo a&&iLe b hi&&s.le r
  |none=>false
 | .anyI k=>match x.kind? with
  |some k' =>Sb k' k
  |none=>false
 | .str m=>match x.tO with
  |some (m',_)=>E3 m' m
  |none=>false
 | .slice none lo hi row=>match x.slice? B row.length with
  |some (_,a,b,row')=>E3 lo a&&E3 b hi&&(s7 b 0||L1.le B row' row)
  |none=>false
 | .slice (some i) lo hi row=>match x with
  | .slice (some j) lo' hi' row' =>s7 i j&&E3 lo lo' &&E3 hi' hi&&L1.le B row' row
  |_=>false
 | .pr k y=>match x with
  | .pr k' _=>s7 k k' &&SD.le B x y
  |_=>false
def L1.le (B:jg)(xs:List SD):List SD->Bool
 |[]=>xs.isEmpty
 |y::ys=>match xs with
  |x::xs=>SD.le B x y&&L1.le B xs ys
  |[]=>false
end
section
variable {C:Ctx} {vs:List Nat} {B:jg} (hB:Bg vs B)
include hB
mutual
theorem SD.ct:∀ (y:SD) {x:SD} {d:Data},SD.le B x y=true->x.g C vs d->y.g C vs d
 | .top,_,_,_,_=>by simp [SD.g]
 | .lit b,x,_,h,hx=>by
  simp [SD.le] at h
  grind [SD.g,Ff]
 | .bool c,x,_,h,hx=>by
  cases c with
  |cmp i n pol=>simp [SD.le] at h
  |uy =>
   simp [SD.le] at h;split at h
   .rename_i c hc
    obtain ⟨b,h1,_⟩:=SD.dY hc hx;exact ⟨b,h1,trivial⟩
   .cases h
 | .int k lo hi r,x,_,h,hx=>by
  simp [SD.le] at h;split at h
  .rename_i k' a b s hc
   simp [c7,iLe] at h;obtain ⟨n,h1,h2,h3,h4⟩:=SD.iN hB hc hx;have hk:k' =k:=of_decide_eq_true h.1.1.1
   grind [SD.g,Rel.ct]
  .cases h
 | .anyI k,x,_,h,hx=>by
  simp [SD.le] at h;split at h
  .rename_i k' hc
   have hk:k' =k:=of_decide_eq_true h
   grind [SD.g,SD.yl]
  .cases h
 | .str m,x,_,h,hx=>by
  simp [SD.le] at h;split at h
  .rename_i m' e hc
   obtain ⟨s,h1,h2,_⟩:=SD.vO hc hx;simp_all [SD.g]<;>omega
  .cases h
 | .slice none lo hi row,x,_,h,hx=>by
  simp [SD.le] at h;split at h
  .rename_i v a b row' hc
   simp only [c7,Bool.or_eq_true] at h;obtain ⟨e,rows,h1,h2,h3,h4,h5⟩:=SD.eB hB hc hx;have l1:=j5 h.1.1;have l2:=j5 h.1.2;refine ⟨rows,h1,by omega,by omega,(fun i e=>by cases e),fun r hr=> ?_⟩
   rcases h.2 with h0|h0
   .simp_all
   .exact L1.ct row h0 (h5 r hr)
  .cases h
 | .slice (some i) lo hi row,x,_,h,hx=>by
  simp [SD.le] at h;split at h
  .simp only [c7] at h
   have l0:=j4 h.1.1.1;have l1:=j5 h.1.1.2;have l2:=j5 h.1.2;subst l0;obtain ⟨rows,h1,h2,h3,h4,h5⟩:=hx;exact ⟨rows,h1,by omega,by omega,h4,fun r hr=>L1.ct row h.2 (h5 r hr)⟩
  .cases h
 | .pr k y,x,_,h,hx=>by
  simp [SD.le] at h;split at h
  .simp only [c7] at h
   have l0:=j4 h.1;have h6:=SD.ct y h.2 hx;simp_all [SD.g]
  .cases h
theorem L1.ct:∀ (y:List SD) {x:List SD} {d:List Data},L1.le B x y=true->L1.g C vs x d->L1.g C vs y d
 |[],x,_,h,hx=>by
  simp_all [L1.le]
 |y::ys,x,_,h,hx=>by
  simp [L1.le] at h;cases x with
  |nil=>cases h
  |cons x xs =>
   simp [c7] at h;obtain ⟨d,ds,rfl,h1,h2⟩:=hx;exact ⟨d,ds,rfl,SD.ct y h.1 h1,L1.ct ys h.2 h2⟩
end
end
def SV.J2:SV->SV
 | .own _ x=> .d x
 | .N7=> .d (.lit (.slice 0 []))
 | .q x=> .d x
 |v=>v
def SV.one:SV->Bool
 | .top=>false
 | .any=>false
 | .agg _ _=>false
 | .tuple _=>false
 |_=>true
def SV.cells? :SV->Option (List SV)
 | .agg _ l=>if l.all SV.one then some l else none
 |v=>if v.one then some [v] else none
def SV.tag:SV->Option Nat
 | .agg p _=>p
 |_=>none
def SV.data? :SV->Option SD
 | .d x=>some x
 | .own _ x=>some x
 | .N7=>some (.lit (.slice 0 []))
 | .q x=>some x
 |_=>none
def jF :List SV->Option (List SD)
 |[]=>some []
 |v::vs=>match v.data? with
  |some x=>match jF vs with
   |some xs=>some (x::xs)
   |none=>none
  |none=>none
def Xt:c8->SV
 | .any=> .any
 | .d x=> .d (.lit x)
 | .own z len cells=> .own z (.lit (.slice len cells))
 | .N7=> .N7
 | .ptr a b=> .ptr a b
 | .A8 a b c e=> .A8 a b c e
 |_=> .top
def bJ (T L:List SV):y6->SV
 | .loc j=>(L.getD j .any).J2
 | .slot s=>(T.getD s .any).J2
 | .const v=>Xt v.Qq
section
variable {C:Ctx} {vs:List Nat}
theorem SV.qt {x:SV}{v:c8}(h:x.g C vs v):x.J2.g C vs v.J2:=by
 cases x with
 |own sz x=>simp only [SV.g] at h;obtain ⟨len,cells,rfl,h1⟩:=h;simp only [SV.J2,c8.J2,SV.g];exact ⟨_,rfl,h1⟩
 |N7=>simp only [SV.g] at h;subst h;simp only [SV.J2,c8.J2,SV.g,SD.g];exact ⟨_,rfl,rfl⟩
 |top=>simp [SV.J2,SV.g]
 |any=>simp only [SV.g] at h;subst h;simp [SV.J2,c8.J2,SV.g]
 |d x=>have h' :=h;simp only [SV.g] at h;obtain ⟨y,rfl,h1⟩:=h;exact h'
 |ptr a b=>have h' :=h;simp only [SV.g] at h;subst h;exact h'
 |S7 a=>have h' :=h;simp only [SV.g] at h;obtain ⟨a,b,rfl,_⟩:=h;exact h'
 |A8 a b c e=>have h' :=h;simp only [SV.g] at h;subst h;exact h'
 |wp a b c e=>have h' :=h;simp only [SV.g] at h;obtain ⟨_,_,rfl⟩:=h;exact h'
 |agg p l=>have h' :=h;simp only [SV.g] at h;obtain ⟨cs,rfl,_⟩:=h;exact h'
 |tuple l=>have h' :=h;simp only [SV.g] at h;obtain ⟨cs,rfl,_⟩:=h;exact h'
 |bn k =>
  simp only [SV.g] at h;simp only [SV.J2,SV.g];cases v<;>simp_all [c8.J2,c8.K5,c8.one]
 |q x =>
  simp only [SV.g] at h;obtain ⟨y,h1,h2⟩:=h;simp only [SV.J2,h1,SV.g];exact ⟨_,rfl,h2⟩
def SV.AD {x:SV}{v:c8}(h:x.g C vs v)(h1:x.one=true):v.one=true:=by
 cases x<;>simp only [SV.one,j3] at h1<;>simp only [SV.g] at h
 .obtain ⟨y,rfl,_⟩:=h;rfl
 .obtain ⟨a,b,rfl,_⟩:=h;rfl
 .subst h;rfl
 .subst h;rfl
 .obtain ⟨a,b,rfl,_⟩:=h;rfl
 .subst h;rfl
 .exact h.2
 .obtain ⟨y,h1,_⟩:=h;cases v<;>simp only [c8.J2,reduceCtorEq] at h1<;>rfl
 .obtain ⟨_,_,rfl⟩:=h;rfl
theorem y8.AD:∀ {x:List SV} {v:List c8},y8.g C vs x v->x.all SV.one=true->v.all c8.one=true
 |[],_,h,_=>by simp_all [y8.g]
 |x::xs,_,h,h1=>by
  obtain ⟨d,ds,rfl,h2,h3⟩:=h;simp only [List.all_cons,c7] at h1 ⊢;exact ⟨SV.AD h2 h1.1,y8.AD h3 h1.2⟩
def SV.yc {x:SV}{v:c8}{l:List SV}(h:x.g C vs v)(h1:x.cells? =some l):∃ cs,v.cells? =some cs/\y8.g C vs l cs/\∀ k,x.tag=some k->C.Θ k (cs.map c8.J2):=by
 cases x with
 |agg p l' =>
  simp only [SV.cells?] at h1;split at h1
  .rename_i h2
   cases h1;obtain ⟨cs,rfl,h3,h4⟩:=h;exact ⟨cs,by simp [c8.cells?,y8.AD h3 h2],h3,h4⟩
  .cases h1
 |_ =>
  simp only [SV.cells?] at h1;split at h1
  .rename_i h2
   cases h1;have h3:=SV.AD h h2;refine ⟨[v],?_,by simp_all [y8.g],fun k h=>by cases h⟩;simp_all [c8.one,c8.cells?]<;>grind
  .cases h1
def SV.LK {x:SV}{v:c8}{y:SD}(h:x.g C vs v)(h1:x.data? =some y):∃ d,v.data? =some d/\y.g C vs d:=by
 cases x<;>simp [SV.data?,reduceCtorEq,Option.some.injEq] at h1<;>subst h1<;>simp [SV.g] at h
 .obtain ⟨d,rfl,h2⟩:=h;exact ⟨d,rfl,h2⟩
 .obtain ⟨a,b,rfl,h2⟩:=h;exact ⟨_,rfl,h2⟩
 .subst h;exact ⟨_,rfl,by simp [SD.g]⟩
 .obtain ⟨d,h1,h2⟩:=h
  cases v<;>simp [c8.J2,reduceCtorEq,c8.d.injEq] at h1<;>subst h1<;>exact ⟨_,rfl,h2⟩
theorem oC:∀ {x:List SV} {v:List c8} {y:List SD},y8.g C vs x v->jF x=some y->∃ d,M6 v=some d/\L1.g C vs y d
 |[],_,_,h,h1=>by subst h;simp [jF,Option.some.injEq] at h1;subst h1;exact ⟨[],rfl,by simp [L1.g]⟩
 |x::xs,_,_,h,h1=>by
  obtain ⟨d,ds,rfl,h2,h3⟩:=h;simp [jF] at h1;split at h1
  .rename_i a ha
   split at h1
   .rename_i as has
    simp [Option.some.injEq] at h1;obtain ⟨e,e1,e2⟩:=SV.LK h2 ha;obtain ⟨es,e3,e4⟩:=oC h3 has
    grind [M6,L1.g]
   .cases h1
  .cases h1
def Ux (v:c8):(Xt v).g C vs v:=by
 cases v<;>simp [Xt,SV.g,SD.g]
def Tw {x:List SV}{v:List c8}(h:y8.g C vs x v)(j:Nat):(x.getD j .any).g C vs (v.getD j .any):=by
 grind [y8.none,SV.g,y8.get]
def Gj {T L:List SV}{T' L' :List c8}(hT:y8.g C vs T T')(hL:y8.g C vs L L')(x:y6):(bJ T L x).g C vs (I5 T' L' x):=by
 cases x with
 |loc j=>exact SV.qt (Tw hL j)
 |slot j=>exact SV.qt (Tw hT j)
 |const v=>exact Ux _
end
def ZA (H:List SO)(id off n:Nat):Option (List SV):=match H[id]? with
 |some (.cells _ l)=>if E3 (off+n) l.length then some ((l.drop off).take n) else none
 |_=>none
def yF (l:List SV)(off:Nat)(vs:List SV):List SV:=l.take off++vs++l.drop (off+vs.length)
def swr (H:List SO)(id off:Nat)(p:Option Nat)(vs:List SV):Option (List SO):=match H[id]? with
 |some (.cells _ l)=>if E3 (off+vs.length) l.length then some (H.set id (.cells (if s7 off 0&&s7 vs.length l.length then p else none) (yF l off vs))) else none
 |_=>none
section
variable {C:Ctx} {vs:List Nat}
theorem DL {H:List SO}{H' :o9}{id off n:Nat}{l:List SV}(h:K4.g C vs H H')(h1:ZA H id off n=some l):∃ cs,rd H' id off n=some cs/\y8.g C vs l cs:=by
 unfold ZA at h1;split at h1
 .rename_i p l' hl
  split at h1
  .cases h1
   obtain ⟨o,h2,h3⟩:=K4.get h hl;obtain ⟨cs,rfl,h4,_⟩:=h3;refine ⟨(cs.drop off).take n,?_,y8.take (y8.drop h4 off) n⟩;have:=y8.len h4;simp_all [rd,if_pos]
  .cases h1
 .cases h1
def DO {l vl:List SV}{l' vl' :List c8}(off:Nat)(h:y8.g C vs l l')(h1:y8.g C vs vl vl'):y8.g C vs (yF l off vl) (splice l' off vl'):=by
 grind [yF,splice,y8.len,y8.app,y8.take,y8.drop]
def aM6 {H H2:List SO}{H' :o9}{id off:Nat}{p:Option Nat}{vl:List SV}{cs:List c8}(h:K4.g C vs H H')(hv:y8.g C vs vl cs)(hp:∀ k,p=some k->C.Θ k (cs.map c8.J2))(h1:swr H id off p vl=some H2) :
  ∃ H3,wr H' id off cs=some H3/\K4.g C vs H2 H3:=by
 unfold swr at h1;split at h1
 .rename_i p' l hl
  split at h1
  .cases h1
   obtain ⟨o,h2,h3⟩:=K4.get h hl;obtain ⟨cs',rfl,h4,_⟩:=h3;have e1:=y8.len h4;have e2:=y8.len hv;refine ⟨H'.set id (.cells (splice cs' off cs)),?_,K4.set h id ⟨_,rfl,DO off h4 hv,?_⟩⟩
   .simp_all [wr,if_pos]
   simp_all [c7,j4,splice,l5]
  .cases h1
 .cases h1
end
def AQ (cells:List SV):List (Nat×Nat×SV)->Option (List SV)
 |[]=>some cells
 |(off,sz,v)::rest=>match v.cells? with
  |some l=>if s7 l.length sz&&E3 (off+sz) cells.length then AQ (yF cells off l) rest else none
  |none=>none
inductive Sq (C:Ctx) (vs:List Nat):List (Nat×Nat×SV)->List (Nat×Nat×c8)->Prop where
 |nil:Sq C vs [] []
 |cons {o s:Nat} {x:SV} {a:c8} {r r'}:x.g C vs a->Sq C vs r r' ->Sq C vs ((o,s,x)::r) ((o,s,a)::r')
theorem yC {C:Ctx}{vs:List Nat}:∀ {ps:List (Nat×Nat×SV)} {qs:List (Nat×Nat×c8)} {cells l:List SV} {cs:List c8},Sq C vs ps qs->y8.g C vs cells cs->AQ cells ps=some l->∃ ds,bA cs qs=some ds/\y8.g C vs l ds
 |[],_,_,_,cs,hp,hc,h=>by
  cases hp;simp [AQ,Option.some.injEq] at h;subst h;exact ⟨cs,rfl,hc⟩
 |(o,s,x)::r,_,_,_,cs,hp,hc,h=>by
  cases hp with
  |cons hx hr =>
   simp [AQ] at h;split at h
   .rename_i l' hl
    split at h
    .obtain ⟨ds,h1,h2,_⟩:=SV.yc hx hl
     have e1:=y8.len h2;have e2:=y8.len hc;obtain ⟨es,h3,h4⟩:=yC hr (DO o hc h2) h;simp_all [bA,if_pos]
    .cases h
   .cases h
theorem tA {C:Ctx}{vs:List Nat}{σ:y6->SV}{ρ:y6->c8}(hρ:∀ x,(σ x).g C vs (ρ x)):∀ (parts:List (Nat×Nat×y6)),Sq C vs (parts.map fun (o,s,x)=>(o,s,σ x)) (parts.map fun (o,s,x)=>(o,s,ρ x))
 |[]=> .nil
 |(_,_,x)::r=> .cons (hρ x) (tA hρ r)
theorem AA {C:Ctx}{vs:List Nat}:∀ l:List c8,y8.g C vs (l.map Xt) l
 |[]=>by simp [y8.g]
 |a::l=>by exact ⟨_,_,rfl,Ux a,AA l⟩
def mn:Int:= -9223372036854775808
def mx:Int:=9223372036854775807
def isI (k:IntKind):Bool:=Sb k .i64
def SB.not:SB->SB
 | .uy=> .uy
 | .cmp i n p=> .cmp i n (!p)
def sLt:Int×Int×Rel->Int×Int×Rel->SD
 |(l1,h1,r1),(l2,h2,r2) =>
  if decide (h1<l2) then .lit (.bool true) else if decide (h2<=l1) then .lit (.bool false) else
  match r2,r1 with
  | .eq i,_=>if decide (l1=h1)&&decide (0<=l1) then .bool (.cmp i l1.toNat true) else .bool .uy
  |_,.eq i=>if decide (l2=h2)&&decide (1<=l2) then .bool (.cmp i (l2 - 1).toNat false) else .bool .uy
  |_,_=> .bool .uy
def SD.neg:SD->SD
 | .lit (.bool b)=> .lit (.bool (!b))
 | .bool c=> .bool c.not
 |_=> .top
def sEq:Int×Int×Rel->Int×Int×Rel->SD
 |(l1,h1,r1),(l2,h2,r2) =>
  if decide (h1<l2)||decide (h2<l1) then .lit (.bool false) else if decide (l1=h1)&&decide (l2=h2)&&decide (l1=l2) then .lit (.bool true) else
  match r1,r2 with
  | .eq i,_=>if decide (l2=h2)&&decide (l2=0) then .bool (.cmp i 0 false) else .bool .uy
  |_,.eq i=>if decide (l1=h1)&&decide (l1=0) then .bool (.cmp i 0 false) else .bool .uy
  |_,_=> .bool .uy
def rng (k:IntKind)(lo hi:Int)(r:Rel):Option SD:=if isI k&&decide (mn<=lo)&&decide (hi<=mx) then some (if decide (lo=hi) then .lit (.int k lo) else .int k lo hi r) else none
def Ol (op:BinOp)(k:IntKind)(a b:Int×Int×Rel):Option SD :=
 match op with
 | .add=>rng k (a.1+b.1) (a.2.1+b.2.1) .no
 | .sub=>rng k (a.1 - b.2.1) (a.2.1 - b.1) .no
 | .mul=>if decide (0<=a.1)&&decide (0<=b.1) then rng k 0 (a.2.1 * b.2.1) .no else none
 | .quo=>if decide (0<=a.1)&&decide (b.1=b.2.1)&&decide (1<=b.1) then rng k (a.1.tdiv b.1) (a.2.1.tdiv b.1) .no else none
 | .rem=>if decide (1<=b.1) then (if decide (0<=a.1) then rng k 0 (min a.2.1 (b.2.1 - 1)) (match b.2.2 with| .eq i=> .lt i|_=> .no) else rng k (1 - b.2.1) (b.2.1 - 1) .no) else none
 | .eql=>some (sEq a b)
 | .neq=>some (sEq a b).neg
 | .lss=>some (sLt a b)
 | .gtr=>some (sLt b a)
 | .leq=>some (sLt b a).neg
 | .geq=>some (sLt a b).neg
 |_=>none
def Vk (op:BinOp)(a b:Nat×Option (List UInt8)):Option SD :=
 match op with
 | .add=>if E3 (a.1+b.1) 4000000000 then (match a.2,b.2 with
  |some s,some t=>some (.lit (.str (s++t)))
  |_,_=>some (.str (a.1+b.1))) else none
 | .eql=>match a.2,b.2 with
  |some s,some t=>some (.lit (.bool (s==t)))
  |_,_=>some (.bool .uy)
 | .neq=>match a.2,b.2 with
  |some s,some t=>some (.lit (.bool (!(s==t))))
  |_,_=>some (.bool .uy)
 |_=>none
def ar9 (B:jg)(op:BinOp)(x y:SD):Option SD :=
 match x.int? B,y.int? B with
 |some (k,a),some (k',b)=>if Sb k k' then Ol op k a b else none
 |_,_=>match x.tO,y.tO with
  |some a,some b=>Vk op a b
  |_,_=>none
section
variable {C:Ctx} {vs:List Nat} {B:jg}
def DB {k:IntKind}{lo hi:Int}{r:Rel}{x:SD}{n:Int}(h:rng k lo hi r=some x)(h1:lo<=n)(h2:n<=hi)(h3:r.g vs n):x.g C vs (.int k (k.wrap n))/\k.wrap n=n:=by
 unfold rng at h;split at h
 .rename_i hc
  simp [c7,decide_eq_true_eq] at hc;have e1:mn= -9223372036854775808:=rfl;have e2:mx=9223372036854775807:=rfl;have hk:k= .i64:=of_decide_eq_true hc.1.1;have e:IntKind.wrap .i64 n=n:=wrap_small (by omega) (by omega)
  grind [SD.g]
 .cases h
theorem NU {x:SD}{b:Bool}(h:x.g C vs (.bool b)):x.neg.g C vs (.bool (!b)):=by
 unfold SD.neg;split
 .simp_all [SD.g,Data.bool.injEq]
 .rename_i c
  obtain ⟨b',h1,h2⟩:=h;refine ⟨_,rfl,?_⟩;cases c with
  |uy=>trivial
  |cmp i n p =>
   obtain ⟨m,e1,e2⟩:=h2;refine ⟨m,e1,?_⟩
   grind
 .simp [SD.g]
theorem Om {a b:Int×Int×Rel}{n m:Int}(h1:a.1<=n)(h2:n<=a.2.1)(h3:a.2.2.g vs n)(k1:b.1<=m)(k2:m<=b.2.1)(k3:b.2.2.g vs m):(sLt a b).g C vs (.bool (decide (n<m))):=by
 obtain ⟨l1,u1,r1⟩:=a;obtain ⟨l2,u2,r2⟩:=b;simp [sLt];split
 .grind [SD.g]
 .split
  .grind [SD.g]
  .split
   .split
    .obtain ⟨q,e1,e2⟩:=k3
     refine ⟨_,rfl,q,e1,?_⟩
     grind
    .exact ⟨_,rfl,trivial⟩
   .split
    .obtain ⟨q,e1,e2⟩:=h3
     refine ⟨_,rfl,q,e1,?_⟩
     grind
    .exact ⟨_,rfl,trivial⟩
   .exact ⟨_,rfl,trivial⟩
theorem af5 {a b:Int×Int×Rel}{n m:Int}(h1:a.1<=n)(h2:n<=a.2.1)(h3:a.2.2.g vs n)(k1:b.1<=m)(k2:m<=b.2.1)(k3:b.2.2.g vs m):(sEq a b).g C vs (.bool (n==m)):=by
 obtain ⟨l1,u1,r1⟩:=a;obtain ⟨l2,u2,r2⟩:=b;simp [sEq];split
 .simp_all [SD.g]<;>omega
 .split
  .grind [SD.g]
  .split
   .split
    .obtain ⟨q,e1,e2⟩:=h3
     refine ⟨_,rfl,q,e1,?_⟩
     grind
    .exact ⟨_,rfl,trivial⟩
   .split
    .obtain ⟨q,e1,e2⟩:=k3
     refine ⟨_,rfl,q,e1,?_⟩
     grind
    .exact ⟨_,rfl,trivial⟩
   .exact ⟨_,rfl,trivial⟩
def DU {a b c:Int}(h0:0<=a)(h:a<=b)(hc:1<=c):a.tdiv c<=b.tdiv c:=by
 rw [Int.tdiv_eq_ediv_of_nonneg h0,Int.tdiv_eq_ediv_of_nonneg (by omega)];exact Int.ediv_le_ediv (by omega) h
def Zj {op:BinOp}{k:IntKind}{a b:Int×Int×Rel}{n m:Int}{x:SD}(h1:a.1<=n)(h2:n<=a.2.1)(h3:a.2.2.g vs n)(k1:b.1<=m)(k2:m<=b.2.1)(k3:b.2.2.g vs m)(h:Ol op k a b=some x) :
  ∃ d,ak op k n m=some d/\x.g C vs d:=by
 cases op<;>simp only [Ol,reduceCtorEq,Option.some.injEq] at h<;>simp only [ak]
 case add=>exact ⟨_,rfl,(DB h (by omega) (by omega) trivial).1⟩
 case sub=>exact ⟨_,rfl,(DB h (by omega) (by omega) trivial).1⟩
 case mul =>
  split at h
  .rename_i hc
   simp [c7,decide_eq_true_eq] at hc;exact ⟨_,rfl,(DB h (Int.mul_nonneg (by omega) (by omega)) (Int.mul_le_mul (by omega) (by omega) (by omega) (by omega)) trivial).1⟩
  .cases h
 case quo =>
  split at h
  .rename_i hc
   simp [c7,decide_eq_true_eq] at hc;have hm:m=b.1:=by omega
   subst hm;rw [if_neg (by omega)];exact ⟨_,rfl,(DB h (DU (by omega) (by omega) (by omega)) (DU (by omega) (by omega) (by omega)) trivial).1⟩
  .cases h
 case rem =>
  split at h
  .rename_i hc
   simp [decide_eq_true_eq] at hc;have hm:0<m:=by omega
   have hlt:=Int.tmod_lt_of_pos n hm;split at h
   .rename_i mQ
    simp [decide_eq_true_eq] at mQ;have h0:=Int.tmod_nonneg (a:=n) m (by omega);have hle:n.tmod m<=n:=by
     by_cases hl:n<m
     .rw [Int.tmod_eq_of_lt (by omega) hl]
      omega
     .omega
    have:=(DB (C:=C) (vs:=vs) (n:=n.tmod m) h h0 (by omega) (by
     split
     .rename_i i hi
      rw [hi] at k3;obtain ⟨q,e1,e2⟩:=k3;exact ⟨q,e1,h0,by omega⟩
     .trivial))
    grind
   .have hge: -m<n.tmod m:=by
     by_cases hn:n<0
     .have e:n.tmod m= -((-n).tmod m):=by simp_all
      have:=Int.tmod_lt_of_pos (-n) hm;omega
     .have:=Int.tmod_nonneg (a:=n) m (by omega)
      omega
    have:=(DB (C:=C) (vs:=vs) (n:=n.tmod m) h (by omega) (by omega) trivial)
    grind
  .cases h
 case eql=>grind [af5]
 case neq=>grind [NU,af5]
 case lss=>grind [Om]
 case gtr=>subst h;simp_all [Om]
 case leq =>
  have:=NU (Om (C:=C) k1 k2 k3 h1 h2 h3)
  grind [decide_not,decide]
 case geq =>
  have:=NU (Om (C:=C) h1 h2 h3 k1 k2 k3)
  grind [decide_not,decide]
def Zk {op:BinOp}{a b:Nat×Option (List UInt8)}{s t:List UInt8}{x:SD}(h1:s.length<=a.1)(h2:∀ u,a.2=some u->s=u)(k1:t.length<=b.1)(k2:∀ u,b.2=some u->t=u)(h:Vk op a b=some x) :
  ∃ d,uC op s t=some d/\x.g C vs d:=by
 cases op<;>simp only [Vk,reduceCtorEq] at h<;>simp only [uC]
 case add =>
  split at h
  .rename_i hc
   have hc:=j5 hc;rw [if_pos (by omega)]
   grind [SD.g]
  .cases h
 case eql =>
  refine ⟨_,rfl,?_⟩;split at h
  .grind [SD.g]
  .cases h
   exact ⟨_,rfl,trivial⟩
 case neq =>
  refine ⟨_,rfl,?_⟩;split at h
  .grind [SD.g]
  .cases h
   exact ⟨_,rfl,trivial⟩
def as0 (hB:Bg vs B){op:BinOp}{x y z:SD}{a b:Data}(hx:x.g C vs a)(hy:y.g C vs b)(h:ar9 B op x y=some z):∃ d,J8 op a b=some d/\z.g C vs d:=by
 unfold ar9 at h;split at h
 .rename_i k p k' q hp hq
  split at h
  .rename_i hk
   have hk:k=k' :=of_decide_eq_true hk;obtain ⟨n,rfl,h1,h2,h3⟩:=SD.iN hB hp hx;obtain ⟨m,rfl,k1,k2,k3⟩:=SD.iN hB hq hy;obtain ⟨d,e1,e2⟩:=Zj (C:=C) (vs:=vs) h1 h2 h3 k1 k2 k3 h;simp_all [U6,Ol,J8]<;>grind
  .cases h
 .split at h
  .rename_i p q hp hq
   obtain ⟨p1,p2⟩:=p;obtain ⟨q1,q2⟩:=q;obtain ⟨s,rfl,h1,h2⟩:=SD.vO hp hx;obtain ⟨t,rfl,k1,k2⟩:=SD.vO hq hy;obtain ⟨d,e1,e2⟩:=Zk (C:=C) (vs:=vs) (a:=(p1,p2)) (b:=(q1,q2)) h1 h2 k1 k2 h;simp_all [J8]
  .cases h
end
def SB.join:SB->SB->SB
 | .cmp i n p,.cmp j m q=>if s7 i j&&s7 n m&&(p==q) then .cmp i n p else .uy
 |_,_=> .uy
def JQ:Option Nat->Option Nat->Option Nat
 |some i,some j=>if s7 i j then some i else none
 |_,_=>none
def SD.strip:SD->SD
 | .pr _ x=>x.strip
 |x=>x
def NP (a b:Data):SD:=match a,b with
 | .slice n cs,.slice m ds =>
  if s7 cs.length (n * (if s7 n 0 then ds.length / m else cs.length / n))&&s7 ds.length (m * (if s7 n 0 then ds.length / m else cs.length / n)) then
   .slice none (min n m) (max n m) (Jo (if s7 n 0 then ds.length / m else cs.length / n) (rowsOf (if s7 n 0 then ds.length / m else cs.length / n) n cs++rowsOf (if s7 n 0 then ds.length / m else cs.length / n) m ds))
  else .top
 |a,b=>Ij a b
def Cw (x:SD)(b:Data):SD:=match x,b with
 | .slice _ lo hi row,.slice n cells=>if s7 cells.length (n * row.length) then .slice none (min lo n) (max hi n) ((rowsOf row.length n cells).foldl vA row) else .top
 | .anyI k,.int k' _=>if Sb k k' then .anyI k else .top
 |x,b=>RA x b
mutual
def SD.join:SD->SD->SD
 | .lit a,y=>match y with
  | .lit b=>if Fe a b then .lit a else NP a b
  |y=>Cw y.strip a
 | .pr k x,y=>match y with
  | .pr k' y' =>if s7 k k' then .pr k (x.join y') else x.join y'
  |y=>x.join y
 | .int k lo hi r,y=>match y.strip with
  | .lit b=>Cw (.int k lo hi r) b
  | .int k' lo' hi' r' =>if Sb k k' then .int k (min lo lo') (max hi hi') (r.join r') else .top
  | .anyI k' =>if Sb k k' then .anyI k else .top
  |_=> .top
 | .anyI k,y=>match y.strip with
  | .lit b=>Cw (.anyI k) b
  | .int k' _ _ _=>if Sb k k' then .anyI k else .top
  | .anyI k' =>if Sb k k' then .anyI k else .top
  |_=> .top
 | .str m,y=>match y.strip with
  | .lit b=>Cw (.str m) b
  | .str m' => .str (max m m')
  |_=> .top
 | .bool c,y=>match y.strip with
  | .lit b=>Cw (.bool c) b
  | .bool c' => .bool (c.join c')
  |_=> .top
 | .slice v lo hi row,y=>match y.strip with
  | .lit b=>Cw (.slice v lo hi row) b
  | .slice v' lo' hi' row' =>if s7 row.length row'.length then .slice (JQ v v') (min lo lo') (max hi hi') (L1.join row row') else .top
  |_=> .top
 | .top,_=> .top
def L1.join:List SD->List SD->List SD
 |x::xs,y::ys=>x.join y::L1.join xs ys
 |_,_=>[]
end
section
variable {C:Ctx} {vs:List Nat}
theorem SD.mF:∀ {x:SD} {d:Data},x.g C vs d->x.strip.g C vs d
 | .pr _ x,_,h=>by simp_all [SD.g,SD.strip,SD.mF]
 | .top,_,h=>h
 | .lit _,_,h=>h
 | .bool _,_,h=>h
 | .int ..,_,h=>h
 | .anyI _,_,h=>h
 | .str _,_,h=>h
 | .slice ..,_,h=>h
theorem NQ (a b:Data):(NP a b).g C vs a/\(NP a b).g C vs b:=by
 unfold NP;split
 .rename_i n cs m ds
  generalize (if s7 n 0 then ds.length / m else cs.length / n)=sz;split
  .rename_i hc
   simp only [c7] at hc;have c1:=j4 hc.1;have c2:=j4 hc.2;obtain ⟨e1,e2,e3⟩:=dG n cs c1;obtain ⟨f1,f2,f3⟩:=dG m ds c2;obtain ⟨g1,_⟩:=Oi (C:=C) (vs:=vs) (sz:=sz) (rs:=rowsOf sz n cs++rowsOf sz m ds) (fun r hr=>(M4.1 hr).elim (e3 r) (f3 r))
   grind [SD.g,E0,E7]
  .simp [SD.g]
 .exact FC a b
theorem vD {x:SD}{a:Data}(b:Data)(h:x.g C vs a):(Cw x b).g C vs a:=by
 unfold Cw;split
 .rename_i v lo hi row n cells
  split
  .rename_i hc
   have hc:=j4 hc;simp [SD.g] at h ⊢;obtain ⟨e1,e2,e3⟩:=dG n cells hc;obtain ⟨f1,_,_⟩:=yg (C:=C) (vs:=vs) (rowsOf row.length n cells) row rfl e3
   grind [L1.len]
  .simp [SD.g]
 all_goals grind [SD.g,Vp]
theorem vE (x:SD)(b:Data):(Cw x b).g C vs b:=by
 unfold Cw;split
 .rename_i v lo hi row n cells
  split
  .rename_i hc
   have hc:=j4 hc;simp [SD.g];obtain ⟨e1,e2,e3⟩:=dG n cells hc;obtain ⟨_,f2,_⟩:=yg (C:=C) (vs:=vs) (rowsOf row.length n cells) row rfl e3
   grind
  .simp [SD.g]
 .split
  .rename_i k k' n hk
   have hk:k=k' :=of_decide_eq_true hk;simp_all [SD.g]
  .simp [SD.g]
 .exact Vq _ b
theorem SB.T4 {a b:SB}{t:Bool}(h:a.g vs t):(a.join b).g vs t:=by
 unfold SB.join;split
 .split
  .exact h
  .trivial
 .trivial
theorem SB.T5 {a b:SB}{t:Bool}(h:b.g vs t):(a.join b).g vs t:=by
 unfold SB.join;split
 .split
  .simp_all
  .trivial
 .trivial
theorem Rel.T4 {a b:Rel}{t:Int}(h:a.g vs t):(a.join b).g vs t:=by
 unfold Rel.join;split
 .split
  .exact h
  .trivial
 .split
  .exact h
  .trivial
 .trivial
theorem Rel.T5 {a b:Rel}{t:Int}(h:b.g vs t):(a.join b).g vs t:=by
 unfold Rel.join;split
 .split
  .simp_all
  .trivial
 .split
  .simp_all
  .trivial
 .trivial
def ZI {v w:Option Nat}{m:Nat}(h:∀ i,v=some i->vs[i]? =some m):∀ i,JQ v w=some i->vs[i]? =some m:=by
 simp_all [JQ]<;>grind
def ZJ {v w:Option Nat}{m:Nat}(h:∀ i,w=some i->vs[i]? =some m):∀ i,JQ v w=some i->vs[i]? =some m:=by
 simp_all [JQ]<;>grind
mutual
theorem SD.T4:∀ (x y:SD) {d:Data},x.g C vs d->(x.join y).g C vs d
 | .lit a,y,_,h=>by
  simp [SD.join]
  grind [SD.g,NQ,vE]
 | .pr k x,y,_,h=>by
  simp [SD.join];split
  .split
   .exact ⟨h.1,SD.T4 x _ h.2⟩
   .exact SD.T4 x _ h.2
  .exact SD.T4 x _ h.2
 | .int k lo hi r,y,_,h=>by
  grind [SD.join,vD,SD.g,Rel.T4]
 | .anyI k,y,_,h=>by
  grind [SD.join,vD,SD.g]
 | .str m,y,_,h=>by
  grind [SD.join,vD,SD.g]
 | .bool c,y,_,h=>by
  grind [SD.join,vD,SD.g,SB.T4]
 | .slice v lo hi row,y,_,h=>by
  simp only [SD.join];split
  .exact vD _ h
  .split
   .rename_i hc
    have hc:=j4 hc;obtain ⟨rows,rfl,h1,h2,h3,h4⟩:=h;exact ⟨rows,rfl,by omega,by omega,ZI h3,fun r hr=>L1.T4 row _ hc (h4 r hr)⟩
   .simp [SD.g]
  .simp [SD.g]
 | .top,y,_,h=>by simp [SD.join,SD.g]
theorem L1.T4:∀ (x y:List SD) {d:List Data},x.length=y.length->L1.g C vs x d->L1.g C vs (L1.join x y) d
 |[],[],_,_,h=>by grind [L1.join]
 |[],_::_,_,hl,h=>by simp at hl
 |_::_,[],_,hl,h=>by simp at hl
 |x::xs,y::ys,_,hl,h=>by
  obtain ⟨d,ds,rfl,h1,h2⟩:=h;exact ⟨_,_,rfl,SD.T4 x y h1,L1.T4 xs ys (by simp_all) h2⟩
end
mutual
theorem SD.T5:∀ (x y:SD) {d:Data},y.g C vs d->(x.join y).g C vs d
 | .lit a,y,_,h=>by
  simp [SD.join];split
  .split
   .grind [Ff]
   simp_all [SD.g,NQ]
  .exact vD _ (SD.mF h)
 | .pr k x,y,_,h=>by
  simp only [SD.join];split
  .split
   .rename_i hc
    rw [j4 hc];exact ⟨h.1,SD.T5 x _ h.2⟩
   .exact SD.T5 x _ h.2
  .exact SD.T5 x _ h
 | .int k lo hi r,y,_,h=>by
  have h:=SD.mF h;simp [SD.join];split
  .simp_all [SD.g,vE]
  .split
   .rename_i hk
    have hk:=of_decide_eq_true hk
    grind [SD.g,Rel.T5]
   .simp [SD.g]
  .split
   .rename_i hk
    have hk:=of_decide_eq_true hk;simp_all
   .simp [SD.g]
  .simp [SD.g]
 | .anyI k,y,_,h=>by
  have h:=SD.mF h;simp [SD.join];split
  .simp_all [SD.g,vE]
  .split
   .rename_i hk
    have hk:=of_decide_eq_true hk
    grind [SD.g]
   .simp [SD.g]
  .split
   .rename_i hk
    have hk:=of_decide_eq_true hk;simp_all
   .simp [SD.g]
  .simp [SD.g]
 | .str m,y,_,h=>by
  have h:=SD.mF h
  grind [SD.join,SD.g,vE]
 | .bool c,y,_,h=>by
  have h:=SD.mF h
  grind [SD.join,SD.g,vE,SB.T5]
 | .slice v lo hi row,y,_,h=>by
  have h:=SD.mF h;simp only [SD.join];split
  .simp_all [SD.g,vE]
  .rename_i e
   rw [e] at h;split
   .rename_i hc
    have hc:=j4 hc;obtain ⟨rows,rfl,h1,h2,h3,h4⟩:=h;exact ⟨rows,rfl,by omega,by omega,ZJ h3,fun r hr=>L1.T5 row _ hc (h4 r hr)⟩
   .simp [SD.g]
  .simp [SD.g]
 | .top,y,_,h=>by simp [SD.join,SD.g]
theorem L1.T5:∀ (x y:List SD) {d:List Data},x.length=y.length->L1.g C vs y d->L1.g C vs (L1.join x y) d
 |[],[],_,_,h=>by grind [L1.join]
 |[],_::_,_,hl,h=>by simp at hl
 |_::_,[],_,hl,h=>by simp at hl
 |x::xs,y::ys,_,hl,h=>by
  obtain ⟨d,ds,rfl,h1,h2⟩:=h;exact ⟨_,_,rfl,SD.T5 x y h1,L1.T5 xs ys (by simp_all) h2⟩
end
theorem L1.Ig:∀ (x y:List SD),x.length=y.length->(L1.join x y).length=x.length
 |[],[],_=>rfl
 |[],_::_,h=>by simp at h
 |_::_,[],h=>by simp at h
 |x::xs,y::ys,h=>by simp_all [L1.join,p7,L1.Ig]
end
def xd (sz:Nat):Nat->List SD->List (List SD)
 |0,_=>[]
 |n+1,cs=>cs.take sz::xd sz n (cs.drop sz)
def Vl (sz:Nat):List (List SD)->List SD
 |[]=>c9 sz .top
 |r::rs=>rs.foldl L1.join r
def Ii :List SD->Option (List Data)
 |[]=>some []
 | .lit d::r=>match Ii r with
  |some ds=>some (d::ds)
  |none=>none
 |_=>none
def mkSlice (sz len:Nat)(xs:List SD):SD:=match Ii xs with
 |some ds=> .lit (.slice len ds)
 |none=> .slice none len len (Vl sz (xd sz len xs))
section
variable {C:Ctx} {vs:List Nat}
theorem Uf:∀ {xs:List SD} {ds es:List Data},Ii xs=some ds->L1.g C vs xs es->es=ds
 |[],_,_,h,hg=>by simp_all [Ii,Option.some.injEq,L1.g]
 |x::xs,_,_,h,hg=>by
  obtain ⟨d,ds',rfl,h1,h2⟩:=hg;cases x<;>simp [Ii,reduceCtorEq] at h;split at h
  .rename_i ds hds
   cases h;rw [h1,Uf hds h2]
  .cases h
theorem Js {sz:Nat}:∀ (rs:List (List SD)) (x:List SD),x.length=sz->(∀ r,r ∈ rs->r.length=sz)->(∀ a,L1.g C vs x a->L1.g C vs (rs.foldl L1.join x) a)/\(∀ r a,r ∈ rs->L1.g C vs r a->L1.g C vs (rs.foldl L1.join x) a)/\(rs.foldl L1.join x).length=sz
 |[],x,hx,_=>⟨fun a h=>h,by simp,hx⟩
 |r::rs,x,hx,hr=>by
  have hl:(L1.join x r).length=sz:=by simp_all [L1.Ig]
  obtain ⟨h1,h2,h3⟩:=Js rs (L1.join x r) hl (fun r' h=>hr r' (by simp [h]))
  grind [L1.T4,L1.T5]
theorem L1.take {x:List SD}:∀ {d:List Data},L1.g C vs x d->∀ n,L1.g C vs (x.take n) (d.take n):=by
 induction x with
 |nil=>simp_all [L1.g]
 |cons x xs ih =>
  intro d h n;cases n with
  |zero=>simp [L1.g]
  |succ n=>grind [L1.g]
theorem L1.drop {x:List SD}:∀ {d:List Data},L1.g C vs x d->∀ n,L1.g C vs (x.drop n) (d.drop n):=by
 induction x with
 |nil=>simp_all [L1.g]
 |cons x xs ih =>
  intro d h n;have h' :=h;obtain ⟨d,ds,rfl,h2,h3⟩:=h;cases n with
  |zero=>exact h'
  |succ n=>simp_all
theorem On {sz:Nat}:∀ (n:Nat) {xs:List SD} {ds:List Data},xs.length=n * sz->L1.g C vs xs ds ->
  ∃ rows:List (List Data),rows.flatten=ds/\rows.length=n/\(∀ r,r ∈ xd sz n xs->r.length=sz)/\∀ r,r ∈ rows->∃ s,s ∈ xd sz n xs/\L1.g C vs s r
 |0,xs,ds,hl,h=>by
  have:xs=[]:=List.eq_nil_of_length_eq_zero (by omega);subst this;simp only [L1.g] at h;subst h;exact ⟨[],rfl,rfl,by simp [xd],by simp⟩
 |n+1,xs,ds,hl,h=>by
  rw [Nat.succ_mul] at hl;obtain ⟨rows,h1,h2,h3,h4⟩:=On (sz:=sz) n (xs:=xs.drop sz) (by simp;omega) (L1.drop h sz);refine ⟨ds.take sz::rows,by simp [h1],by simp [h2],fun r hr=> ?_,fun r hr=> ?_⟩
  .grind [xd]
  .rcases B4.1 hr with rfl|hr
   all_goals simp_all [xd,L1.take]
def pU {sz len:Nat}{xs:List SD}{ds:List Data}(hl:xs.length=len * sz)(h:L1.g C vs xs ds):(mkSlice sz len xs).g C vs (.slice len ds):=by
 unfold mkSlice;split
 .grind [SD.g,Uf]
 .obtain ⟨rows,h1,h2,h3,h4⟩:=On len hl h
  refine ⟨rows,by rw [h1,h2],by omega,by omega,(fun i e=>by cases e),fun r hr=> ?_⟩;obtain ⟨s,h5,h6⟩:=h4 r hr;cases hs:xd sz len xs with
  |nil=>simp_all
  |cons q qs =>
   rw [hs] at h5 h3;obtain ⟨f1,f2,_⟩:=Js (C:=C) (vs:=vs) qs q (h3 q (by simp)) (fun r hr=>h3 r (by simp [hr]))
   grind [Vl]
end
def exact? (B:jg)(x:SD):Option Int:=match x.int? B with
 |some (_,a,b,_)=>if decide (a=b) then some a else none
 |none=>none
def DE (σ:y6->SV)(B:jg)(dl dh:Int):Option y6->Option (Int×Int)
 |none=>some (dl,dh)
 |some x=>match σ x with
  | .d y=>match y.int? B with
   |some (_,a,b,_)=>some (a,b)
   |none=>none
  |_=>none
def Ud (v:Option Nat)(lo hi:Nat):SD:=if s7 lo hi then .lit (.int .i64 lo) else .int .i64 lo hi (match v with|some i=> .eq i|none=> .no)
def inR:Rel->Option Nat->Bool
 | .lt p,some q=>s7 p q
 |_,_=>false
def AY (σ:y6->SV)(H:List SO)(B:jg):z6->Option (SV×List Nat)
 | .pick c a b=>match σ c with
  | .d x=>match x.bool? with
   |some (.t t)=>some (if t then σ a else σ b,[])
   |_=>none
  |_=>none
 | .build zero parts=>match AQ (zero.map Xt) (parts.map fun (o,s,x)=>(o,s,σ x)) with
  |some cs=>some (.agg none cs,[])
  |none=>none
 | .A2 sz len zero parts false=>match AQ (zero.map Xt) (parts.map fun (o,s,x)=>(o,s,σ x)) with
  |some cs=>match jF cs with
   |some xs=>if Nat.blt 0 sz&&s7 xs.length (len * sz) then some (.own sz (mkSlice sz len xs),[]) else none
   |none=>none
  |none=>none
 | .load none x=>match σ x with
  | .ptr id off=>match ZA H id off 1 with
   |some [v]=>some (v.J2,[id])
   |_=>none
  | .S7 (c::_)=>some (.d c,[])
  |_=>none
 | .load (some n) x=>match σ x with
  | .ptr id off=>match H[id]? with
   |some (.cells p l)=>if E3 (off+n) l.length then some (.agg (if s7 off 0&&s7 n l.length then p else none) (((l.drop off).take n).map SV.J2),[id]) else none
   |_=>none
  | .S7 row=>if E3 n row.length then some (.agg none ((row.take n).map .d),[]) else none
  |_=>none
 | .aU x=>match σ x with
  | .ptr id off=>some (.ptr id off,[])
  | .wp id lo z c=>some (.wp id lo z c,[])
  | .S7 row=>some (.S7 row,[])
  |_=>none
 | .bin op x y=>match σ x,σ y with
  | .d a,.d b=>match ar9 B op a b with
   |some z=>some (.d z,[])
   |none=>none
  |_,_=>none
 | .s8 _ x y=>match σ x,σ y with
  | .d a,.d b=>match a.bool?,b.bool? with
   |some _,some _=>some (.d (.bool .uy),[])
   |_,_=>none
  |_,_=>none
 | .un .not x=>match σ x with
  | .d a=>match a.bool? with
   |some (.t b)=>some (.d (.lit (.bool (!b))),[])
   |some (.u c)=>some (.d (.bool c.not),[])
   |none=>none
  |_=>none
 | .mP k x=>match σ x with
  | .d a=>match a.kind? with
   |some _=>some (.d (.anyI k),[])
   |none=>none
  |_=>none
 | .jP x=>match σ x with
  | .d a=>match a.slice? B 1 with
   |some (_,_,hi,[c])=>match c.kind? with
    |some .u8=>some (.d (.str hi),[])
    |_=>none
   |_=>none
  |_=>none
 | .Y8 sz x lo hi=>match σ x with
  | .d a=>match a.slice? B sz with
   |some (_,l1,l2,row)=>match DE σ B 0 0 lo,hi with
    |some (a1,a2),none=>if decide (0<=a1)&&decide (a2<=l1) then some (.d (.slice none (l1 - a2.toNat) (l2 - a1.toNat) row),[]) else none
    |some (a1,a2),some h=>match DE σ B 0 0 (some h) with
     |some (b1,b2)=>if decide (0<=a1)&&decide (a2<=b1)&&decide (b2<=l1) then some (.d (.slice none (b1 - a2).toNat (b2 - a1).toNat row),[]) else none
     |none=>none
    |_,_=>none
   |none=>none
  | .A8 id z a len=>match DE σ B 0 0 lo,DE σ B len len hi with
   |some (a1,a2),some (b1,b2)=>if decide (a1=a2)&&decide (b1=b2)&&decide (0<=a1)&&decide (a1<=b1)&&decide (b1<=len)&&s7 z sz then
     (if decide (a1=b1) then some (.d (.lit (.slice 0 [])),[]) else some (.A8 id sz (a+a1.toNat * sz) (b1 - a1).toNat,[])) else none
   |_,_=>none
  |_=>none
 | .off k x=>match σ x with
  | .ptr id off=>some (.ptr id (off+k),[])
  | .wp id lo z c=>some (.wp id (lo+k) z c,[])
  | .S7 row=>if E3 k row.length then some (.S7 (row.drop k),[]) else none
  |_=>none
 | .D5 sz x i=>match σ x,σ i with
  | .d a,.d j=>match a.slice? B sz,j.int? B with
   |some (v,lo,_,row),some (_,j1,j2,r)=>if decide (0<=j1)&&(decide (j2<lo)||inR r v) then some (.S7 row,[]) else none
   |_,_=>none
  | .A8 id z lo len,.d j=>match exact? B j with
   |some n=>if decide (0<=n)&&decide (n<len)&&s7 z sz then some (.ptr id (lo+n.toNat * sz),[]) else none
   |none=>match j.int? B with
    |some (_,a,b,_)=>if decide (0<=a)&&decide (b<len)&&s7 z sz then some (.wp id lo sz len,[]) else none
    |none=>none
  |_,_=>none
 | .extract x i=>match σ x with
  | .tuple vs=>match vs[i]? with
   |some v=>some (v,[])
   |none=>none
  |_=>none
 | .len x=>match σ x with
  | .d a=>match a.rM B with
   |some (v,lo,hi)=>some (.d (Ud v lo hi),[])
   |none=>none
  | .A8 _ _ _ len=>some (.d (.lit (.int .i64 len)),[])
  |_=>none
 | .V5 x=>match σ x with
  | .d a=>match a.tO with
   |some (m,none)=>some (.d (.int .i64 0 m .no),[])
   |some (_,some s)=>some (.d (.lit (.int .i64 s.length)),[])
   |none=>none
  |_=>none
 |_=>none
section
variable {C:Ctx} {vs:List Nat} {B:jg}
theorem aL {x:SD}{v:c8}(h:(SV.d x).g C vs v):∃ d,v= .d d/\x.g C vs d:=by simp_all [SV.g]
theorem rO {z:Nat}{x:SD}{v:c8}(h:(SV.own z x).g C vs v):∃ len cells,v= .own z len cells/\x.g C vs (.slice len cells):=by simp_all [SV.g]
theorem bE {x:SD}{d:Data}(h:x.g C vs d):(SV.d x).g C vs (.d d):=by simp_all [SV.g]
def bu {id off:Nat}{v:c8}(h:(SV.ptr id off).g C vs v):v= .ptr id off:=by simp_all [SV.g]
def mE {id off a b:Nat}{v:c8}(h:(SV.A8 id off a b).g C vs v):v= .A8 id off a b:=by simp_all [SV.g]
def yj {row:List SD}{v:c8}(h:(SV.S7 row).g C vs v):∃ cells rest,v= .S7 (cells++rest)/\L1.g C vs row cells:=by simp_all [SV.g]
def Yz {v:Option Nat}{lo hi n:Nat}(h1:lo<=n)(h2:n<=hi)(h3:∀ i,v=some i->vs[i]? =some n):(Ud v lo hi).g C vs (.int .i64 n):=by
 unfold Ud;split
 .grind [j4,SD.g]
 .refine ⟨_,rfl,by omega,by omega,?_⟩
  split
  .exact ⟨n,h3 _ rfl,rfl⟩
  .trivial
def XQ (hB:Bg vs B){x:SD}{d:Data}{n:Int}(h:exact? B x=some n)(hx:x.g C vs d):∃ k,d= .int k n:=by
 unfold exact? at h;split at h
 .split at h
  .grind [SD.iN]
  .cases h
 .cases h
def AM (hB:Bg vs B){σ:y6->SV}{ρ:y6->c8}(hρ:∀ x,(σ x).g C vs (ρ x)){dl dh a b:Int}{n:Nat}{o:Option y6}(hn:o=none->dl<=n/\(n:Int)<=dh)(h:DE σ B dl dh o=some (a,b)):∃ m,W7 ρ n o=some m/\a<=m/\m<=b:=by
 cases o with
 |none=>obtain ⟨rfl,rfl⟩:=h;exact ⟨n,rfl,hn rfl⟩
 |some x =>
  have h1:=hρ x;simp [DE] at h;split at h
  .rename_i y hy
   rw [hy] at h1;split at h
   .rename_i k p q r hi
    obtain ⟨d,e,h1⟩:=aL h1;obtain ⟨m,rfl,h2,h3,_⟩:=SD.iN hB hi h1;simp_all [W7]
   .cases h
  .cases h
theorem y8.Ra:∀ {x:List SD} {d:List Data},L1.g C vs x d->y8.g C vs (x.map .d) (d.map .d)
 |[],_,h=>by simp_all [L1.g,y8.g]
 |x::xs,_,h=>by
  obtain ⟨d,ds,rfl,h1,h2⟩:=h;exact ⟨_,_,rfl,bE h1,y8.Ra h2⟩
theorem Oj {sz:Nat}:∀ {rows:List (List Data)} {i:Nat},(∀ r,r ∈ rows->r.length=sz)->i<rows.length->∃ r,r ∈ rows/\rows.flatten.drop (i * sz)=r++rows.flatten.drop ((i+1) * sz)
 |[],i,_,h=>by simp at h
 |r::rows,0,hr,h=>by
  simp_all
 |r::rows,i+1,hr,h=>by
  obtain ⟨q,h1,h2⟩:=Oj (rows:=rows) (i:=i) (fun r h=>hr r (by simp [h])) (by simpa using h);simp_all [List.flatten_cons,List.drop_append,l5,Nat.succ_mul,Nat.add_sub_cancel]
theorem kF {sz:Nat}:∀ {rows:List (List Data)},(∀ r,r ∈ rows->r.length=sz)->rows.flatten.length=rows.length * sz
 |[],_=>by simp
 |r::rows,h=>by
  have:=kF (rows:=rows) (fun r hr=>h r (by simp [hr]))
  grind
theorem Bk {sz:Nat}:∀ {rows:List (List Data)},(∀ r,r ∈ rows->r.length=sz)->∀ i,rows.flatten.take (i * sz)=(rows.take i).flatten
 |[],_,i=>by simp
 |r::rows,h,0=>by simp
 |r::rows,h,i+1=>by
  have:=Bk (rows:=rows) (fun r hr=>h r (by simp [hr])) i;simp_all [List.flatten_cons,List.take_succ_cons,List.take_append,B5,Nat.succ_mul,Nat.add_sub_cancel]
theorem zB {sz:Nat}:∀ {rows:List (List Data)},(∀ r,r ∈ rows->r.length=sz)->∀ i,rows.flatten.drop (i * sz)=(rows.drop i).flatten
 |[],_,i=>by simp
 |r::rows,h,0=>by simp
 |r::rows,h,i+1=>by
  have:=zB (rows:=rows) (fun r hr=>h r (by simp [hr])) i;simp_all [List.flatten_cons,List.drop_succ_cons,List.drop_append,l5,Nat.succ_mul,Nat.add_sub_cancel]
def UG {sz:Nat}{row:List SD}{rows:List (List Data)}{a b l1 l2:Nat}(hw:row.length=sz)(hr:∀ r,r ∈ rows->L1.g C vs row r)(hab:a<=b)(hb:b<=rows.length)(h1:l1<=b - a)(h2:b - a<=l2) :
  (SD.slice none l1 l2 row).g C vs (.slice ((b:Int) - a).toNat ((rows.flatten.take (b * sz)).drop (a * sz))):=by
 have hrl:∀ r,r ∈ rows->r.length=sz:=fun r h=>by grind [L1.len]
 grind [List.mem_of_mem_take,Bk,zB,SD.g,List.mem_of_mem_drop]
theorem Nr {c:SD}(hk:c.kind? =some .u8):∀ {rows:List (List Data)},(∀ r,r ∈ rows->L1.g C vs [c] r)->∃ bs,fV rows.flatten=some bs/\bs.length=rows.length
 |[],_=>⟨[],rfl,rfl⟩
 |r::rows,h=>by
  obtain ⟨bs,h1,h2⟩:=Nr hk (rows:=rows) (fun r hr=>h r (by simp [hr]));have h3:=h r (by simp)
  grind [L1.g,SD.yl,UInt8.ofNat,fV]
def Zz (hB:Bg vs B){σ:y6->SV}{ρ:y6->c8}(hρ:∀ x,(σ x).g C vs (ρ x)){H:List SO}{H' :o9}(hH:K4.g C vs H H'){op:z6}{v:SV}{rs:List Nat}(h:AY σ H B op=some (v,rs)) :
  ∃ r,n9 ρ H' op=some (r,rs)/\v.g C vs r:=by
 cases op<;>simp only [AY,reduceCtorEq] at h
 case pick c a b =>
  have hc:=hρ c;split at h
  .rename_i x hx
   rw [hx] at hc;obtain ⟨d,e1,hd⟩:=aL hc;split at h
   .rename_i t ht
    obtain ⟨t',rfl,e2⟩:=SD.dY ht hd;simp only at e2;subst e2;cases h;refine ⟨_,(by simp only [n9,e1];rfl),?_⟩;cases t' <;>exact hρ _
   .cases h
  .cases h
 case build zero parts =>
  split at h
  .rename_i cs hcs
   cases h;obtain ⟨ds,h1,h2⟩:=yC (tA hρ parts) (AA zero) hcs;exact ⟨_,(by simp only [n9,h1];rfl),by simp only [SV.g];exact ⟨_,rfl,h2,fun k h=>by cases h⟩⟩
  .cases h
 case A2 sz len zero parts ob =>
  cases ob<;>simp only [AY,reduceCtorEq] at h;split at h
  .rename_i cs hcs
   split at h
   .rename_i xs hxs
    split at h
    .rename_i hc
     simp only [c7] at hc;have c1:=j5 hc.1;have c2:=j4 hc.2;cases h;obtain ⟨ds,h1,h2⟩:=yC (tA hρ parts) (AA zero) hcs;obtain ⟨es,h3,h4⟩:=oC h2 hxs;have hl:=L1.len h4;refine ⟨.own sz len es,?_,by simp only [SV.g];exact ⟨_,_,rfl,pU c2 h4⟩⟩;simp only [n9,h1,h3];rw [if_pos ⟨by omega,by omega⟩]
    .cases h
   .cases h
  .cases h
 case load n x =>
  have hx:=hρ x;cases n with
  |none =>
   simp only [AY] at h;split at h
   .rename_i id off e
    rw [e] at hx;have e1:=bu hx;split at h
    .rename_i w hw
     cases h;obtain ⟨cs,h1,h2⟩:=DL hH hw;simp only [y8.g] at h2;obtain ⟨a,_,rfl,h3,rfl⟩:=h2;exact ⟨_,(by simp only [n9,e1,h1]),SV.qt h3⟩
    .cases h
   .rename_i c row e
    rw [e] at hx;obtain ⟨cells,rest,e1,h1⟩:=yj hx;cases h;simp only [L1.g] at h1;obtain ⟨d,ds,rfl,h2,h3⟩:=h1;exact ⟨.d d,by simp only [n9,e1,A5],bE h2⟩
   .cases h
  |some n =>
   simp only [AY] at h;split at h
   .rename_i id off e
    rw [e] at hx;have e1:=bu hx;split at h
    .rename_i p l hl
     split at h
     .rename_i hc
      have hc:=j5 hc;cases h;obtain ⟨o,h1,h2⟩:=K4.get hH hl;obtain ⟨cs,rfl,h3,h4⟩:=h2;have hlen:=y8.len h3;refine ⟨.agg (((cs.drop off).take n).map c8.J2),?_,?_⟩
      .simp only [n9,e1,rd,h1]
       rw [if_pos (by omega)]
      .simp only [SV.g]
       refine ⟨_,rfl,y8.map (fun _ _=>SV.qt) (y8.take (y8.drop h3 off) n),fun k hk=> ?_⟩;split at hk
       .rename_i mQ
        simp only [c7] at mQ;have c1:=j4 mQ.1;have c2:=j4 mQ.2;subst c1;have:(cs.drop 0).take n=cs:=by rw [List.drop_zero,B5 (by omega)]
        rw [this];have e3:(cs.map c8.J2).map c8.J2=cs.map c8.J2:=by
         rw [List.map_map]
         congr 1
         funext v
         cases v<;>rfl
        rw [e3];exact h4 k hk
       .cases hk
     .cases h
    .cases h
   .rename_i row e
    rw [e] at hx;obtain ⟨cells,rest,e1,h1⟩:=yj hx;split at h
    .rename_i hc
     have hc:=j5 hc;cases h;have hlen:=L1.len h1;refine ⟨.agg ((cells.take n).map .d),?_,?_⟩
     .simp only [n9,e1]
      rw [if_pos (by simp;omega),List.take_append_of_le_length (by omega)]
     .simp only [SV.g]
      exact ⟨_,rfl,y8.Ra (L1.take h1 n),fun k h=>by cases h⟩
    .cases h
   .cases h
 case aU x =>
  have hx:=hρ x;split at h
  .rename_i id off e
   cases h;rw [e] at hx;exact ⟨_,(by simp only [n9,bu hx];rfl),by simp only [SV.g]⟩
  .rename_i id lo z c e
   cases h;rw [e] at hx;simp only [SV.g] at hx;obtain ⟨j,j1,j2⟩:=hx;exact ⟨_,(by simp only [n9,j2];rfl),by simp only [SV.g];exact ⟨j,j1,rfl⟩⟩
  .rename_i row e
   cases h;rw [e] at hx;obtain ⟨cells,rest,e1,h1⟩:=yj hx;exact ⟨_,(by simp only [n9,e1];rfl),by simp only [SV.g];exact ⟨_,_,rfl,h1⟩⟩
  .cases h
 case bin op x y =>
  have hx:=hρ x;have hy:=hρ y;split at h
  .rename_i a b ea eb
   rw [ea] at hx;rw [eb] at hy;obtain ⟨d,e1,h1⟩:=aL hx;obtain ⟨f,e2,h2⟩:=aL hy;split at h
   .rename_i z hz
    cases h;obtain ⟨r,h3,h4⟩:=as0 hB h1 h2 hz;exact ⟨.d r,by simp only [n9,e1,e2,h3],bE h4⟩
   .cases h
  .cases h
 case un op x =>
  cases op<;>simp only [AY,reduceCtorEq] at h;have hx:=hρ x;split at h
  .rename_i a ea
   rw [ea] at hx;obtain ⟨d,e1,h1⟩:=aL hx;split at h
   .rename_i b hb
    cases h;obtain ⟨b',rfl,e2⟩:=SD.dY hb h1;simp only at e2;subst e2;exact ⟨_,(by simp only [n9,e1,Bv];rfl),bE (by simp [SD.g])⟩
   .rename_i c hc
    cases h;obtain ⟨b',rfl,e2⟩:=SD.dY hc h1;have:=NU (C:=C) (vs:=vs) (x:= .bool c) (b:=b') (by simp only [SD.g];exact ⟨_,rfl,e2⟩);exact ⟨_,(by simp only [n9,e1,Bv]),bE this⟩
   .cases h
  .cases h
 case s8 neg x y =>
  have hx:=hρ x;have hy:=hρ y;split at h
  .rename_i a b ea eb
   rw [ea] at hx;rw [eb] at hy;obtain ⟨d,e1,h1⟩:=aL hx;obtain ⟨f,e2,h2⟩:=aL hy;split at h
   .rename_i p q hp hq
    cases h;obtain ⟨t,rfl,_⟩:=SD.dY hp h1;obtain ⟨u,rfl,_⟩:=SD.dY hq h2;exact ⟨_,(by simp only [n9,e1,e2];rfl),bE (by simp only [SD.g];exact ⟨_,rfl,trivial⟩)⟩
   .cases h
  .cases h
 case mP k x =>
  have hx:=hρ x;split at h
  .rename_i a ea
   rw [ea] at hx;obtain ⟨d,e1,h1⟩:=aL hx;split at h
   .rename_i k' hk
    cases h;obtain ⟨n,rfl⟩:=SD.yl hk h1;exact ⟨_,(by simp only [n9,e1];rfl),bE (by simp only [SD.g];exact ⟨_,rfl⟩)⟩
   .cases h
  .cases h
 case jP x =>
  have hx:=hρ x;split at h
  .rename_i a ea
   rw [ea] at hx;obtain ⟨d,e1,h1⟩:=aL hx;split at h
   .rename_i v lo hi c hs
    split at h
    .rename_i hk
     cases h;obtain ⟨_,rows,rfl,h2,h3,h4,h5⟩:=SD.eB hB hs h1;obtain ⟨bs,h6,h7⟩:=Nr hk h5;have hl:rows.flatten.length=rows.length:=by
      have:=kF (sz:=1) (rows:=rows) (fun r hr=>L1.len (h5 r hr));omega
     exact ⟨.d (.str bs),by simp only [n9,e1,hl,if_true,h6],bE (by simp only [SD.g];exact ⟨_,rfl,by omega⟩)⟩
    .cases h
   .cases h
  .cases h
 case Y8 sz x lo hi =>
  have hx:=hρ x;split at h
  .rename_i a ea
   rw [ea] at hx;obtain ⟨d,e1,h1⟩:=aL hx;split at h
   .rename_i v l1 l2 row hs
    obtain ⟨hw,rows,rfl,h2,h3,h4,h5⟩:=SD.eB hB hs h1;have hfl:rows.flatten.length=rows.length * sz:=kF (fun r hr=>by rw [L1.len (h5 r hr)];exact hw);split at h
    .rename_i a1 a2 hlo
     split at h
     .rename_i hc
      simp only [c7,decide_eq_true_eq] at hc;cases h;obtain ⟨m,b1,b2,b3⟩:=AM (n:=0) hB hρ (fun _=>⟨Int.le_refl _,Int.le_refl _⟩) hlo;obtain ⟨m',rfl⟩:=Int.eq_ofNat_of_zero_le (show 0<=m by omega);refine ⟨_,?_,bE (UG (a:=m') (b:=rows.length) (l1:=l1 - a2.toNat) (l2:=l2 - a1.toNat) hw h5 (by omega) (o5 _) (by omega) (by omega))⟩;have b4:W7 ρ rows.length none=some (rows.length:Int):=rfl;simp only [n9,e1,b1,b4];rw [if_pos (by refine ⟨?_,?_,?_,hfl⟩<;>omega)];simp
     .cases h
    .rename_i a1 a2 hop hlo
     split at h
     .rename_i b1 b2 hhi
      split at h
      .rename_i hc
       simp only [c7,decide_eq_true_eq] at hc;cases h;obtain ⟨m,c1,c2,c3⟩:=AM (n:=0) hB hρ (fun _=>⟨Int.le_refl _,Int.le_refl _⟩) hlo;obtain ⟨q,d1,d2,d3⟩:=AM (n:=rows.length) (dl:=0) (dh:=0) hB hρ (o:=some hop) (fun h=>by cases h) hhi;obtain ⟨m',rfl⟩:=Int.eq_ofNat_of_zero_le (show 0<=m by omega);obtain ⟨q',rfl⟩:=Int.eq_ofNat_of_zero_le (show 0<=q by omega);refine ⟨_,?_,bE (UG (a:=m') (b:=q') (l1:=(b1 - a2).toNat) (l2:=(b2 - a1).toNat) hw h5 (by omega) (by omega) (by omega) (by omega))⟩;simp only [n9,e1,c1,d1];rw [if_pos (by refine ⟨?_,?_,?_,hfl⟩<;>omega)];simp
      .cases h
     .cases h
    .cases h
   .cases h
  .rename_i id z a len ea
   rw [ea] at hx;have e1:=mE hx;split at h
   .rename_i a1 a2 b1 b2 hlo hhi
    split at h
    .rename_i hc
     simp only [c7,decide_eq_true_eq] at hc;obtain ⟨⟨⟨⟨⟨c1,c2⟩,c3⟩,c4⟩,c5⟩,c6⟩:=hc;have c6:=j4 c6;subst c6;obtain ⟨m,f1,f2,f3⟩:=AM (n:=0) hB hρ (fun _=>⟨Int.le_refl _,Int.le_refl _⟩) hlo;obtain ⟨q,g1,g2,g3⟩:=AM (n:=len) hB hρ (fun _=>⟨Int.le_refl _,Int.le_refl _⟩) hhi;have em:m=a1:=by omega
     have eq:q=b1:=by omega
     subst em eq;simp only [n9,e1,f1,g1];rw [if_pos ⟨by omega,by omega,by omega,trivial⟩];split at h
     .rename_i he
      simp only [decide_eq_true_eq] at he;cases h;rw [if_pos he];exact ⟨_,rfl,bE (by simp [SD.g])⟩
     .rename_i he
      simp only [decide_eq_true_eq] at he;cases h;rw [if_neg he];exact ⟨_,rfl,by simp only [SV.g]⟩
    .cases h
   .cases h
  .cases h
 case off k x =>
  have hx:=hρ x;split at h
  .rename_i id off e
   cases h;rw [e] at hx;exact ⟨_,(by simp only [n9,bu hx];rfl),by simp only [SV.g]⟩
  .rename_i id lo z c e
   cases h;rw [e] at hx;simp only [SV.g] at hx;obtain ⟨j,j1,j2⟩:=hx;exact ⟨.ptr id (lo+j * z+k),(by simp only [n9,j2]),by simp only [SV.g];exact ⟨j,j1,by rw [show lo+k+j * z=lo+j * z+k by omega]⟩⟩
  .rename_i row e
   rw [e] at hx;split at h
   .rename_i hc
    have hc:=j5 hc;cases h;obtain ⟨cells,rest,e1,h1⟩:=yj hx;have:=L1.len h1;refine ⟨_,(by simp only [n9,e1];rfl),?_⟩;simp only [SV.g];exact ⟨cells.drop k,rest,by rw [List.drop_append_of_le_length (by omega)],L1.drop h1 k⟩
   .cases h
  .cases h
 case D5 sz x i =>
  have hx:=hρ x;have hi:=hρ i;split at h
  .rename_i a j ea ej
   rw [ea] at hx;rw [ej] at hi;obtain ⟨d,e1,h1⟩:=aL hx;obtain ⟨f,e2,h2⟩:=aL hi;split at h
   .rename_i v lo hi' row k j1 j2 r hs hj
    split at h
    .rename_i hc
     simp only [c7,Bool.or_eq_true,decide_eq_true_eq] at hc;cases h;obtain ⟨hw,rows,rfl,h3,h4,h5,h6⟩:=SD.eB hB hs h1;obtain ⟨n,rfl,k1,k2,k3⟩:=SD.iN hB hj h2;have hlt:0<=n/\n<rows.length:=by
      refine ⟨by omega,?_⟩
      rcases hc.2 with hc|hc
      .omega
      .unfold inR at hc
       split at hc
       .rename_i p q
        have hpq:=j4 hc;subst hpq;obtain ⟨m,m1,m2,m3⟩:=k3;rw [h5 _ rfl] at m1;cases m1;exact m3
       .cases hc
     obtain ⟨n',rfl⟩:=Int.eq_ofNat_of_zero_le hlt.1;obtain ⟨q,q1,q2⟩:=Oj (sz:=sz) (rows:=rows) (i:=n') (fun r hr=>by rw [L1.len (h6 r hr)];exact hw) (by omega);refine ⟨.S7 (rows.flatten.drop (n' * sz)),?_,?_⟩
     .simp only [n9,e1,e2]
      rw [if_pos hlt];simp
     .simp only [SV.g]
      exact ⟨q,_,by rw [q2],h6 q q1⟩
    .cases h
   .cases h
  .rename_i id z lo len j ea ej
   rw [ea] at hx;rw [ej] at hi;have e1:=mE hx;obtain ⟨f,e2,h2⟩:=aL hi;split at h
   .rename_i n hn
    split at h
    .rename_i hc
     simp only [c7,decide_eq_true_eq] at hc;have c2:=j4 hc.2;cases h;obtain ⟨k,rfl⟩:=XQ hB hn h2;refine ⟨.ptr id (lo+n.toNat * sz),?_,by simp only [SV.g]⟩;simp only [n9,e1,e2];rw [if_pos ⟨hc.1.1,hc.1.2,c2⟩]
    .cases h
   .split at h
    .rename_i k a b r hj
     split at h
     .rename_i hc
      simp only [c7,decide_eq_true_eq] at hc;have c2:=j4 hc.2;cases h;obtain ⟨n,rfl,k1,k2,_⟩:=SD.iN hB hj h2;refine ⟨.ptr id (lo+n.toNat * sz),?_,?_⟩
      .simp only [n9,e1,e2]
       rw [if_pos ⟨by omega,by omega,c2⟩]
      .simp only [SV.g]
       exact ⟨n.toNat,by omega,rfl⟩
     .cases h
    .cases h
  .cases h
 case extract x i =>
  have hx:=hρ x;split at h
  .rename_i l e
   rw [e] at hx;simp only [SV.g] at hx;obtain ⟨cs,e1,h1⟩:=hx;split at h
   .rename_i v' hv
    cases h;obtain ⟨b,h2,h3⟩:=y8.get h1 hv;exact ⟨b,by simp only [n9,e1,h2],h3⟩
   .cases h
  .cases h
 case len x =>
  have hx:=hρ x;split at h
  .rename_i a ea
   rw [ea] at hx;obtain ⟨d,e1,h1⟩:=aL hx;split at h
   .rename_i v' lo hi hl
    cases h;obtain ⟨n,cells,rfl,h2,h3,h4⟩:=SD.Mi hB hl h1;exact ⟨.d (.int .i64 n),by simp only [n9,e1,i64],bE (Yz h2 h3 h4)⟩
   .cases h
  .rename_i e
   cases h;rw [e] at hx;exact ⟨_,(by simp only [n9,mE hx,i64];rfl),bE (by simp [SD.g])⟩
  .cases h
 case V5 x =>
  have hx:=hρ x;split at h
  .rename_i a ea
   rw [ea] at hx;obtain ⟨d,e1,h1⟩:=aL hx;split at h
   .rename_i m hm
    cases h;obtain ⟨s,rfl,h2,_⟩:=SD.vO hm h1;exact ⟨.d (.int .i64 s.length),by simp only [n9,e1,i64],bE (by simp only [SD.g];exact ⟨_,rfl,by omega,by omega,trivial⟩)⟩
   .rename_i m s hm
    cases h;obtain ⟨s',rfl,h2,h3⟩:=SD.vO hm h1;have:=h3 s rfl;subst this;exact ⟨.d (.int .i64 s'.length),by simp only [n9,e1,i64],bE (by simp [SD.g])⟩
   .cases h
  .cases h
end
structure SS where
 T:List SV
 H:List SO
 L:List SV
 o7:List Touch
 B:jg
def SS.g (C:Ctx)(vs:List Nat)(s:SS)(st:G4):Prop:=y8.g C vs s.T st.T/\K4.g C vs s.H st.H/\y8.g C vs s.L st.L/\st.o7=s.o7/\Bg vs s.B
def oG (s:SS)(k:Nat)(v:SV):SS:={ s with L:=s.L.set k v }
mutual
def SV.X8 :SV->Option Nat
 | .top=>none
 | .ptr id _=>some (id+1)
 | .A8 id _ _ _=>some (id+1)
 | .wp id _ _ _=>some (id+1)
 | .agg _ l=>y8.X8 l
 | .tuple l=>y8.X8 l
 | .bn k=>some k
 |_=>some 0
def y8.X8 :List SV->Option Nat
 |[]=>some 0
 |x::xs=>match x.X8,y8.X8 xs with
  |some a,some b=>some (max a b)
  |_,_=>none
end
def SO.X8 :SO->Option Nat
 | .dead=>some 0
 | .cells _ l=>y8.X8 l
 | .pr _=>some 0
 | .bn k=>some k
 | .top=>none
 | .Rl _ b=>some b
def yZ :List SO->Option (List Nat)
 |[]=>some []
 |o::os=>match o.X8,yZ os with
  |some a,some b=>some (a::b)
  |_,_=>none
mutual
def SV.kill (id:Nat):SV->SV
 | .ptr i o=>if s7 i id then .any else .ptr i o
 | .A8 i z l n=>if s7 i id then .any else .A8 i z l n
 | .agg p l=>match y8.X8 l with
  |some 0=> .agg p l
  |_=> .agg none (y8.kill id l)
 | .tuple l=> .tuple (y8.kill id l)
 | .bn k=>if s7 k 0 then .bn 0 else .top
 | .wp .. => .top
 |v=>v
def y8.kill (id:Nat):List SV->List SV
 |[]=>[]
 |v::vs=>v.kill id::y8.kill id vs
end
def SO.kill (id:Nat):SO->SO
 | .cells p l=>match y8.X8 l with
  |some 0=> .cells p l
  |_=> .cells none (y8.kill id l)
 | .bn k=>if s7 k 0 then .bn 0 else .top
 | .Rl k b=>if E3 b id then .Rl k b else .top
 |o=>o
mutual
theorem TY (id:Nat):∀ (v:c8),v.K5<=id->v.kill id=v
 | .any,_=>by simp [c8.kill]
 | .d _,_=>by simp [c8.kill]
 | .ptr i o,h=>by simp only [c8.K5] at h;simp only [c8.kill];rw [if_neg (by omega)]
 | .S7 _,_=>by simp [c8.kill]
 | .A8 i z l n,h=>by simp only [c8.K5] at h;simp only [c8.kill];rw [if_neg (by omega)]
 | .own _ _ _,_=>by simp [c8.kill]
 | .N7,_=>by simp [c8.kill]
 | .agg l,h=>by simp only [c8.K5] at h;simp only [c8.kill];rw [rL id l h]
 | .tuple l,h=>by simp only [c8.K5] at h;simp only [c8.kill];rw [rL id l h]
 | .func f a b,h=>by simp only [c8.K5] at h;simp only [c8.kill];rw [rL id a (by omega),rL id b (by omega)]
 | .map i,h=>by simp only [c8.K5] at h;simp only [c8.kill];rw [if_neg (by omega)]
theorem rL (id:Nat):∀ (l:List c8),A4 l<=id->H9 id l=l
 |[],_=>rfl
 |v::l,h=>by simp only [A4] at h;simp only [H9];rw [TY id v (by omega),rL id l (by omega)]
end
def ac0 (id:Nat)(v:c8)(h:v.K5=0):v.kill id=v:=TY id v (by omega)
def TZ (id:Nat)(l:List c8)(h:A4 l=0):H9 id l=l:=rL id l (by omega)
def UA (id:Nat){o:u0}(h:o.K5<=id):o.kill id=o:=by
 cases o with
 |dead=>rfl
 |cells l=>simp only [u0.K5] at h;simp only [u0.kill,rL id l h]
 |map es =>
  simp only [u0.K5] at h;simp only [u0.kill]
  congr 1
  have:∀ es:List (Key×c8),A4 (es.map (·.2))<=id->es.map (fun p=>(p.1,p.2.kill id))=es:=by
   intro es
   induction es with
   |nil=>intro _;rfl
   |cons e es ih =>
    intro h;simp only [F4,A4] at h;simp only [F4];rw [TY id e.2 (by omega),ih (by omega)]
  exact this es h
def Uz (id:Nat){o:u0}(h:o.K5=0):o.kill id=o:=UA id (by omega)
section
variable {C:Ctx} {vs:List Nat}
mutual
theorem SV.cE:∀ {x:SV} {v:c8} {n:Nat},x.X8 =some n->x.g C vs v->v.K5=n
 | .top,_,_,h,_=>by simp [SV.X8] at h
 | .any,_,_,h,hg=>by simp only [SV.g] at hg;subst hg;simp only [SV.X8,Option.some.injEq] at h;subst h;rfl
 | .d _,_,_,h,hg=>by simp only [SV.g] at hg;obtain ⟨y,rfl,_⟩:=hg;simp only [SV.X8,Option.some.injEq] at h;subst h;rfl
 | .own _ _,_,_,h,hg=>by simp only [SV.g] at hg;obtain ⟨y,_,rfl,_⟩:=hg;simp only [SV.X8,Option.some.injEq] at h;subst h;rfl
 | .N7,_,_,h,hg=>by simp only [SV.g] at hg;subst hg;simp only [SV.X8,Option.some.injEq] at h;subst h;rfl
 | .ptr ..,_,_,h,hg=>by simp only [SV.g] at hg;subst hg;simp only [SV.X8,Option.some.injEq] at h;subst h;simp [c8.K5]
 | .S7 _,_,_,h,hg=>by simp only [SV.g] at hg;obtain ⟨_,_,rfl,_⟩:=hg;simp only [SV.X8,Option.some.injEq] at h;subst h;rfl
 | .wp ..,_,_,h,hg=>by simp only [SV.g] at hg;obtain ⟨j,_,rfl⟩:=hg;simp only [SV.X8,Option.some.injEq] at h;subst h;simp [c8.K5]
 | .A8 ..,_,_,h,hg=>by simp only [SV.g] at hg;subst hg;simp only [SV.X8,Option.some.injEq] at h;subst h;simp [c8.K5]
 | .agg p l,_,_,h,hg=>by simp only [SV.g] at hg;obtain ⟨cs,rfl,h1,_⟩:=hg;simp only [SV.X8] at h;simp only [c8.K5];exact y8.cE h h1
 | .tuple l,_,_,h,hg=>by simp only [SV.g] at hg;obtain ⟨cs,rfl,h1⟩:=hg;simp only [SV.X8] at h;simp only [c8.K5];exact y8.cE h h1
 | .bn k,_,_,h,hg=>by simp only [SV.g] at hg;simp only [SV.X8,Option.some.injEq] at h;subst h;exact hg.1
 | .q x,v,_,h,hg=>by
  simp only [SV.g] at hg;obtain ⟨y,h1,_⟩:=hg;simp only [SV.X8,Option.some.injEq] at h;subst h;cases v<;>simp only [c8.J2,reduceCtorEq] at h1<;>rfl
theorem y8.cE:∀ {x:List SV} {v:List c8} {n:Nat},y8.X8 x=some n->y8.g C vs x v->A4 v=n
 |[],_,_,h,hg=>by simp only [y8.g] at hg;subst hg;simp only [y8.X8,Option.some.injEq] at h;subst h;rfl
 |x::xs,_,_,h,hg=>by
  simp only [y8.g] at hg;obtain ⟨d,ds,rfl,h1,h2⟩:=hg;simp only [y8.X8] at h;split at h
  .rename_i a b ha hb
   simp only [Option.some.injEq] at h;subst h;simp only [A4];rw [SV.cE ha h1,y8.cE hb h2]
  .cases h
end
theorem SO.cE {x:SO}{o:u0}{n:Nat}(h:x.X8 =some n)(hg:x.g C vs o):o.K5=n:=by
 cases x with
 |dead=>simp only [SO.g] at hg;subst hg;simp only [SO.X8,Option.some.injEq] at h;subst h;rfl
 |cells p l=>obtain ⟨cs,rfl,h1,_⟩:=hg;simp only [SO.X8] at h;simp only [u0.K5];exact y8.cE h h1
 |pr k=>simp only [SO.g] at hg;simp only [SO.X8,Option.some.injEq] at h;subst h;exact C.K5 k o hg
 |bn k=>simp only [SO.g] at hg;simp only [SO.X8,Option.some.injEq] at h;subst h;exact hg
 |top=>simp [SO.X8] at h
 |Rl k b=>simp only [SO.g] at hg;simp only [SO.X8,Option.some.injEq] at h;subst h;exact hg.2
theorem EP:∀ {x:List SO} {H:o9} {l:List Nat},yZ x=some l->K4.g C vs x H->H.map u0.K5=l
 |[],_,_,h,hg=>by simp_all [K4.g,yZ,Option.some.injEq]
 |x::xs,_,_,h,hg=>by
  obtain ⟨d,ds,rfl,h1,h2⟩:=hg;simp [yZ] at h;split at h
  .rename_i a b ha hb
   simp [Option.some.injEq] at h;subst h;simp only [F4];rw [SO.cE ha h1,EP hb h2]
  .cases h
mutual
theorem SV.ep (id:Nat):∀ {x:SV} {v:c8},x.g C vs v->(x.kill id).g C vs (v.kill id)
 | .top,_,_=>by simp [SV.kill,SV.g]
 | .any,_,hg=>by simp only [SV.g] at hg;subst hg;simp [SV.kill,c8.kill,SV.g]
 | .d _,_,hg=>by have hg' :=hg;simp only [SV.g] at hg;obtain ⟨y,rfl,_⟩:=hg;simpa only [SV.kill,c8.kill] using hg'
 | .own _ _,_,hg=>by have hg' :=hg;simp only [SV.g] at hg;obtain ⟨y,_,rfl,_⟩:=hg;simpa only [SV.kill,c8.kill] using hg'
 | .N7,_,hg=>by simp only [SV.g] at hg;subst hg;simp [SV.kill,c8.kill,SV.g]
 | .ptr i o,_,hg=>by
  simp only [SV.g] at hg;subst hg;simp only [SV.kill,c8.kill];split
  .rename_i h;rw [if_pos (j4 h)];simp [SV.g]
  .rename_i h;rw [if_neg (fun e=>h (by rw [e];exact Nat.beq_refl _))];simp [SV.g]
 | .wp ..,_,_=>by simp [SV.kill,SV.g]
 | .S7 _,_,hg=>by have hg' :=hg;simp only [SV.g] at hg;obtain ⟨_,_,rfl,_⟩:=hg;simpa only [SV.kill,c8.kill] using hg'
 | .A8 i z l n,_,hg=>by
  simp only [SV.g] at hg;subst hg;simp only [SV.kill,c8.kill];split
  .rename_i h;rw [if_pos (j4 h)];simp [SV.g]
  .rename_i h;rw [if_neg (fun e=>h (by rw [e];exact Nat.beq_refl _))];simp [SV.g]
 | .agg p l,_,hg=>by
  have hg' :=hg;simp only [SV.g] at hg;obtain ⟨cs,rfl,h1,h2⟩:=hg;simp only [SV.kill,c8.kill];split
  .rename_i h
   rw [TZ id cs (y8.cE h h1)];exact hg'
  .simp only [SV.g]
   exact ⟨_,rfl,y8.ep id h1,fun k h=>by cases h⟩
 | .tuple l,_,hg=>by
  simp only [SV.g] at hg;obtain ⟨cs,rfl,h1⟩:=hg;simp only [SV.kill,c8.kill,SV.g];exact ⟨_,rfl,y8.ep id h1⟩
 | .bn k,v,hg=>by
  simp only [SV.kill];split
  .rename_i h
   have h:=j4 h;subst h;simp only [SV.g] at hg ⊢;rw [ac0 id v hg.1];exact hg
  .simp [SV.g]
 | .q x,v,hg=>by
  have hg' :=hg;simp only [SV.g] at hg;obtain ⟨y,h1,_⟩:=hg;simp only [SV.kill];rw [ac0 id v (by cases v<;>simp only [c8.J2,reduceCtorEq] at h1<;>rfl)];exact hg'
theorem y8.ep (id:Nat):∀ {x:List SV} {v:List c8},y8.g C vs x v->y8.g C vs (y8.kill id x) (H9 id v)
 |[],_,h=>by simp only [y8.g] at h;subst h;simp [y8.kill,H9,y8.g]
 |x::xs,_,h=>by
  simp only [y8.g] at h;obtain ⟨d,ds,rfl,h2,h3⟩:=h;simp only [y8.kill,H9,y8.g];exact ⟨_,_,rfl,SV.ep id h2,y8.ep id h3⟩
end
theorem SO.ep (id:Nat){x:SO}{o:u0}(h:x.g C vs o):(x.kill id).g C vs (o.kill id):=by
 cases x with
 |dead=>simp only [SO.g] at h;subst h;rfl
 |cells p l =>
  have h' :=h;obtain ⟨cs,rfl,h1,h2⟩:=h;simp only [SO.kill,u0.kill];split
  .rename_i hb
   rw [TZ id cs (y8.cE hb h1)];exact h'
  .exact ⟨_,rfl,y8.ep id h1,fun k h=>by cases h⟩
 |pr k =>
  simp only [SO.g] at h;simp only [SO.kill];rw [Uz id (C.K5 k o h)];exact h
 |bn k =>
  simp only [SO.kill];split
  .rename_i hk
   have hk:=j4 hk;subst hk;rw [Uz id h];exact h
  .trivial
 |top=>trivial
 |Rl k b =>
  simp only [SO.kill];split
  .rename_i hk
   rw [UA id (by have:=h.2;have:=j5 hk;omega)];exact h
  .trivial
theorem K4.map {f:SO->SO}{f' :u0->u0}(hf:∀ x a,SO.g C vs x a->SO.g C vs (f x) (f' a)):∀ {x:List SO} {d:o9},K4.g C vs x d->K4.g C vs (x.map f) (d.map f')
 |[],_,h=>by simp_all [K4.g]
 |x::xs,_,h=>by
  obtain ⟨d,ds,rfl,h2,h3⟩:=h;exact ⟨_,_,rfl,hf _ _ h2,K4.map hf h3⟩
end
def yW (l:List Nat):Nat:=l.foldr max 0
def U7 (bs:List Nat)(strict:Nat):Nat->Nat->Nat
 |0,n=>n
 |k+1,n=>if E3 n strict then n else
  if s7 (max n (yW ((bs.take n).drop strict))) n then n else U7 bs strict k (max n (yW ((bs.take n).drop strict)))
def Nx:List Nat->Nat->Bool
 |[],_=>true
 |b::bs,k=>E3 b (k+1)&&Nx bs (k+1)
def qd (bs:List Nat)(strict n:Nat):Nat:=if E3 n strict then n else if Nx ((bs.take n).drop strict) strict then n else strict
theorem Sv:∀ H:o9,L8 H=yW (H.map u0.K5)
 |[]=>rfl
 |o::H=>by simp [L8,yW];rw [Sv H];rfl
def pF (H:o9)(a b:Nat):L8 ((H.take a).drop b)=yW (((H.map u0.K5).take a).drop b):=by
 rw [Sv,List.map_drop,List.map_take]
theorem uJ (H:o9)(strict:Nat):∀ (k n:Nat),E9 H strict k n=U7 (H.map u0.K5) strict k n
 |0,n=>rfl
 |k+1,n=>by
  simp [E9,U7,pF,Nat.ble_eq,Nat.beq_eq];split
  .rfl
  .split
   .rfl
   .exact uJ H strict k _
theorem SY:∀ (H:o9) (k:Nat),T6 H k=Nx (H.map u0.K5) k
 |[],_=>rfl
 |o::H,k=>by
  simp [T6,Nx];rw [SY H (k+1)]
  congr 1
  rw [Bool.eq_iff_iff,Nat.ble_eq];simp
def MW (H:o9)(s n:Nat):C9 H s n=qd (H.map u0.K5) s n:=by
 simp [C9,qd,SY,List.map_drop,List.map_take,Nat.ble_eq]
def bD (s:SS):y6->SV×SS
 | .loc j=>match s.L[j]? with
  |some (.own z x)=>(.own z x,{ s with L:=s.L.set j (.d x) })
  |some (.q x)=>(.q x,s)
  |some .N7=>(.N7,s)
  |_=>(bJ s.T s.L (.loc j),s)
 | .const v=>(Xt v,s)
 | .slot t=>(bJ s.T s.L (.slot t),s)
section
variable {C:Ctx} {vs:List Nat} {s:SS} {st:G4}
def cz (hs:s.g C vs st)(k:Nat){v:SV}{a:c8}(h:v.g C vs a):(oG s k v).g C vs (put st k a) :=
 ⟨hs.1,hs.2.1,y8.set hs.2.2.1 k h,hs.2.2.2⟩
def yI (hs:s.g C vs st)(x:y6):(bD s x).1.g C vs (E1 st x).1/\(bD s x).2.g C vs (E1 st x).2:=by
 obtain ⟨hT,hH,hL,ht,hB⟩:=hs;have hr:∀ x,(bJ s.T s.L x).g C vs (I5 st.T st.L x):=fun x=>Gj hT hL x
 cases x with
 |const v=>exact ⟨Ux v,hT,hH,hL,ht,hB⟩
 |slot t=>exact ⟨hr (.slot t),hT,hH,hL,ht,hB⟩
 |loc j =>
  simp only [bD];split
  .rename_i z x e
   obtain ⟨a,h1,h2⟩:=y8.get hL e;simp only [SV.g] at h2;obtain ⟨len,cells,rfl,h3⟩:=h2;simp only [E1,h1];refine ⟨?_,hT,hH,y8.set hL j ?_,ht,hB⟩
   .simp only [SV.g];exact ⟨_,_,rfl,h3⟩
   .simp only [SV.g];exact ⟨_,rfl,h3⟩
  .rename_i x e
   obtain ⟨a,h1,h2⟩:=y8.get hL e;have hq:∀ v:c8,v.J2=a.J2->(SV.q x).g C vs v:=fun v hv=>by
    simp only [SV.g] at h2 ⊢;rw [hv];exact h2
   simp only [E1];split
   .rename_i z len cells e2
    rw [h1] at e2;cases e2;refine ⟨hq _ rfl,hT,hH,?_,ht,hB⟩;have:=y8.set hL j (a:= .q x) (b:= .d (.slice len cells)) (hq _ rfl)
    rwa [Z1 e] at this
   .rename_i e2
    rw [h1] at e2;cases e2;exact ⟨hq _ rfl,hT,hH,hL,ht,hB⟩
   .refine ⟨hq _ ?_,hT,hH,hL,ht,hB⟩
    simp only [I5,List.getD_eq_getElem?_getD,h1,Option.getD_some];cases a<;>rfl
  .rename_i e
   obtain ⟨a,h1,h2⟩:=y8.get hL e;simp only [SV.g] at h2;subst h2;simp only [E1,h1];exact ⟨by simp only [SV.g],hT,hH,hL,ht,hB⟩
  .rename_i hno hnq hni
   simp only [E1];split
   .rename_i z len cells e
    cases hx:s.L[j]? with
    |none=>rw [y8.none hL hx] at e;cases e
    |some y =>
     obtain ⟨a,h1,h2⟩:=y8.get hL hx;rw [e] at h1;cases h1;have hy:(y= .top\/y= .bn 0):=by
      cases y<;>simp only [SV.g,reduceCtorEq,and_false,exists_false] at h2
      .exact .inl rfl
      .obtain ⟨_,h2,_⟩:=h2;cases h2
      .rename_i z' x';exact absurd hx (hno z' x')
      .obtain ⟨_,_,h2,_⟩:=h2;cases h2
      .obtain ⟨_,h2,_⟩:=h2;cases h2
      .obtain ⟨_,h2,_⟩:=h2;cases h2
      .rw [<- h2.1];exact .inr rfl
      .rename_i x';exact absurd hx (hnq x')
     have hg:∀ v:c8,v.K5=0->v.one=true->y.g C vs v:=fun v e1 e2=>by
      rcases hy with rfl|rfl
      .simp [SV.g]
      .simp only [SV.g];exact ⟨e1,e2⟩
     refine ⟨?_,hT,hH,?_,ht,hB⟩
     .have:bJ s.T s.L (.loc j)=y:=by rcases hy with rfl|rfl<;>simp [bJ,List.getD_eq_getElem?_getD,hx,SV.J2]
      rw [this];exact hg _ rfl rfl
     .have:=y8.set hL j (a:=y) (b:= .d (.slice len cells)) (hg _ rfl rfl)
      rwa [Z1 hx] at this
   .rename_i e
    cases hx:s.L[j]? with
    |none=>rw [y8.none hL hx] at e;cases e
    |some y =>
     obtain ⟨a,h1,h2⟩:=y8.get hL hx;rw [e] at h1;cases h1;refine ⟨?_,hT,hH,hL,ht,hB⟩;have:bJ s.T s.L (.loc j)=y:=by
      cases y
      case own z' x' =>exact absurd hx (hno z' x')
      case q x' =>exact absurd hx (hnq x')
      case N7=>exact absurd hx hni
      all_goals simp [bJ,List.getD_eq_getElem?_getD,hx,SV.J2]
     rw [this];exact h2
   .exact ⟨hr (.loc j),hT,hH,hL,ht,hB⟩
end
def tL (s:SS)(y9:Option Nat)(o:SO):SS:=match y9 with
 |none=>{ s with H:=s.H++[o] }
 |some i=>{ s with H:=s.H.set i o }
def jY (s:SS)(y9:Option Nat):Nat:=y9.getD s.H.length
def okB (lim:F2)(id:Nat):Option Nat->Bool
 |some b=>E3 b (id+1)||(E3 lim.base id&&E3 lim.strict id)
 |none=>E3 lim.base id&&E3 lim.strict id
def wj (x y:SV):Option SV:=match x.data?,y.data? with
 |some a,some b=>some (.q (a.join b))
 |_,_=>none
def RN:List SV->List SV->Option (List SV)
 |[],l=>some l
 |_::_,[]=>none
 |y::ys,x::l=>match wj x y,RN ys l with
  |some z,some r=>some (z::r)
  |_,_=>none
def JV (new:List SV)(sz:Nat):Nat->List SV->Option (List SV)
 |0,l=>some l
 |c+1,l=>match RN new l with
  |some l1=>match JV new sz c (l1.drop sz) with
   |some r=>some (l1.take sz++r)
   |none=>none
  |none=>none
def Gl (lim:F2)(k n:Nat)(s:SS)(x:y6):SV->Option SS
 | .ptr id off=>match (bD s x).1.cells? with
  |some l=>if s7 l.length n&&lim.may id&&okB lim id (y8.X8 l) then
    match swr (bD s x).2.H id off (bD s x).1.tag l with
    |some H' =>some (oG { (bD s x).2 with H:=H',o7:= .obj id::(bD s x).2.o7 } k .any)
    |none=>none
   else none
  |none=>none
 | .wp id lo sz c=>match (bD s x).1.cells?,(bD s x).2.H[id]? with
  |some l,some (.cells _ old)=>match JV l sz c (old.drop lo) with
   |some r=>if s7 l.length n&&lim.may id&&okB lim id (y8.X8 l)&&E3 n sz&&E3 (lo+c * sz) (old.length+sz - n)&&E3 lo old.length then
     some (oG { (bD s x).2 with H:=(bD s x).2.H.set id (.cells none (old.take lo++r)),o7:= .obj id::(bD s x).2.o7 } k .any)
    else none
   |none=>none
  |_,_=>none
 |_=>none
def MF (B:jg)(H:List SO)(sz:Nat):SV->Option SD
 | .d z=>match z.slice? B sz with
  |some _=>some z
  |none=>none
 | .A8 id z lo len=>if s7 z sz then match ZA H id lo (len * sz) with
   |some l=>match jF (l.map SV.J2) with
    |some xs=>some (mkSlice sz len xs)
    |none=>none
   |none=>none
  else none
 |_=>none
def as1 (B:jg)(sz:Nat)(x z:SD):Option (SD×Nat):=match x.slice? B sz,z.slice? B sz with
 |some (_,lo1,hi1,aK9),some (_,lo2,hi2,aL0) =>
  if s7 hi1 0 then some (z,hi2) else if s7 hi2 0 then some (x,hi1) else some (.slice none (lo1+lo2) (hi1+hi2) (L1.join aK9 aL0),hi1+hi2)
 |_,_=>none
def HS (o7:List Touch)(s:Nat):Bool:=o7.any (Touch.S4 s)
def AX (s:SS):y6->Option (Nat×Nat)
 | .loc m=>match s.L[m]? with
  |some (.ptr id off)=>some (id,off)
  |_=>none
 | .slot t=>if HS s.o7 t then none else match s.T[t]? with
  |some (.ptr id off)=>some (id,off)
  |_=>none
 | .const _=>none
def Bd (l:F2)(s:SS)(sz:Nat):z6->Option (SD×SS)
 | .Q3 (.slot t)=>if HS s.o7 t then none else match s.T[t]? with
  |some (.own z x)=>if s7 z sz then some (x,{ s with T:=s.T.set t (.d x),o7:= .slot t::s.o7 }) else none
  |_=>none
 | .load none x=>match AX s x with
  |some (id,off)=>if s.o7.any (Touch.bP id off)|| !l.may id then none else
   match s.H[id]? with
   |some (.cells p cs)=>match cs[off]? with
    |some (.own z x)=>if s7 z sz then some (x,{ s with H:=s.H.set id (.cells p (cs.set off (.d x))),o7:= .cell id off::s.o7 }) else none
    |_=>none
   |_=>none
  |none=>none
 |_=>none
def Bc (l:F2)(j9:List p6)(s:SS)(sz:Nat):y6->Option (SD×SS)
 | .const (.own z len cells)=>if s7 z sz then some (.lit (.slice len cells),s) else none
 | .loc j=>match s.L[j]? with
  |some (.own z x)=>if s7 z sz then some (x,{ s with L:=s.L.set j (.d x) }) else none
  |some (.d x)=>match x.rM s.B,j9[j]? with
   |some _,some a=>Bd l s sz a.op
   |_,_=>none
  |_=>none
 |_=>none
def Gd (l:F2)(s:SS):z6->Bool
 | .Q3 (.slot t)=> !HS s.o7 t&&(match s.T[t]? with|some .N7=>true|_=>false)
 | .load none x=>match AX s x with
  |some (id,off)=> !s.o7.any (Touch.bP id off)&&l.may id&&(match s.H[id]? with
   |some (.cells _ cs)=>(match cs[off]? with|some .N7=>true|_=>false)
   |_=>false)
  |none=>false
 |_=>false
def MK (l:F2)(j9:List p6)(s:SS):y6->Bool
 | .const .N7=>true
 | .loc j=>match s.L[j]? with
  |some .N7=>true
  |some (.d x)=>match x.rM s.B,j9[j]? with
   |some _,some a=>Gd l s a.op
   |_,_=>false
  |_=>false
 |_=>false
def FU (B:jg)(H:List SO)(sz:Nat):SV->Option (Nat×List SV)
 | .d z=>match z.slice? B sz with
  |some (_,lo,hi,row)=>if s7 lo hi then some (lo,(c9 lo (row.map .d)).flatten) else none
  |none=>none
 | .A8 id z lo len=>if s7 z sz then match ZA H id lo (len * sz) with
   |some l=>some (len,l.map SV.J2)
   |none=>none
  else none
 |_=>none
def Ow (n bytes:Nat):Bool:=E3 ((2 * n+512) * bytes) 281474976710656
def qa (lim:F2)(j9:List p6)(y9:Option Nat)(k sz bytes:Nat)(ob:Bool)(s:SS)(x:y6)(y:SV):Option SS :=
 if ob then match FU s.B s.H sz y with
  |some (m,cs)=>if MK lim j9 s x&&Ow m bytes&&Nat.blt 0 sz then
    (if s7 m 0 then some (oG s k .N7) else some (oG (tL s y9 (.cells none cs)) k (.A8 (jY s y9) sz 0 m)))
   else none
  |none=>none
 else match MF s.B s.H sz y with
  |some z=>match Bc lim j9 s sz x with
   |some (x0,s')=>match as1 s.B sz x0 z with
    |some (r,hi)=>if Ow hi bytes&&Nat.blt 0 sz then some (oG s' k (.own sz r)) else none
    |none=>none
   |none=>none
  |none=>none
def yy (lim:F2)(entry k sz bytes:Nat)(s:SS)(id lo len:Nat)(y:SV):Option SS :=
 if E3 lim.base id&&E3 entry id&&lim.may id then
  match s.H[id]?,FU s.B s.H sz y with
  |some (.cells _ l),some (m,cs)=>match y8.X8 cs with
   |some b=>if s7 lo 0&&s7 (len * sz) l.length&&Ow (len+m) bytes&&E3 b id&&cs.all SV.one&&Nat.blt 0 sz then
     some (oG { s with T:=y8.kill id s.T,H:=(s.H.take lim.base++(s.H.drop lim.base).map (SO.kill id)).set id (.cells none (y8.kill id l++cs)),L:=y8.kill id s.L,o7:= .obj id::s.o7 } k (.A8 id sz lo (len+m)))
    else none
   |none=>none
  |_,_=>none
 else none
section
variable {C:Ctx} {vs:List Nat} {s:SS} {st:G4}
theorem SS.I5 (hs:s.g C vs st)(x:y6):(bJ s.T s.L x).g C vs (I5 st.T st.L x):=Gj hs.1 hs.2.2.1 x
def aN6 {x y z:SV}{v:c8}(h:wj x y=some z):(x.g C vs v->z.g C vs v)/\(y.g C vs v->z.g C vs v):=by
 unfold wj at h;split at h
 .rename_i a b ha hb
  cases h;have ad:∀ {v:c8} {d:Data},v.data? =some d->v.J2= .d d:=by intro v d h;cases v<;>simp_all [c8.data?,c8.J2]
  refine ⟨fun hx=> ?_,fun hy=> ?_⟩
  .obtain ⟨d,h1,h2⟩:=SV.LK hx ha
   simp only [SV.g];exact ⟨d,ad h1,SD.T4 a b h2⟩
  .obtain ⟨d,h1,h2⟩:=SV.LK hy hb
   simp only [SV.g];exact ⟨d,ad h1,SD.T5 a b h2⟩
 .cases h
theorem Nd:∀ {new l r:List SV} {ns cs:List c8},RN new l=some r->y8.g C vs l cs->(y8.g C vs r cs)/\(y8.g C vs new ns->y8.g C vs r (ns++cs.drop ns.length))
 |[],l,r,ns,cs,h,hl=>by
  simp only [RN,Option.some.injEq] at h;subst h;refine ⟨hl,fun hn=> ?_⟩;simp only [y8.g] at hn;subst hn;simpa using hl
 |_::_,[],r,ns,cs,h,hl=>by simp [RN] at h
 |y::ys,x::l,r,ns,cs,h,hl=>by
  simp only [RN] at h;split at h
  .rename_i z r' hz hr
   cases h;simp only [y8.g] at hl;obtain ⟨c,cs',rfl,h1,h2⟩:=hl;refine ⟨?_,fun hn=> ?_⟩
   .simp only [y8.g]
    exact ⟨_,_,rfl,(aN6 hz).1 h1,(Nd (ns:=[]) hr h2).1⟩
   .simp only [y8.g] at hn
    obtain ⟨n,ns',rfl,n1,n2⟩:=hn;simp only [A5,p7,List.drop_succ_cons,y8.g];exact ⟨_,_,rfl,(aN6 hz).2 n1,(Nd hr h2).2 n2⟩
  .cases h
theorem OH {new:List SV}{sz:Nat}{ns:List c8}(hn:y8.g C vs new ns)(hsz:ns.length<=sz):∀ {c:Nat} {l r:List SV} {cs:List c8},JV new sz c l=some r->y8.g C vs l cs->y8.g C vs r cs/\∀ j,j<c->y8.g C vs r (splice cs (j * sz) ns)
 |0,l,r,cs,h,hl=>by
  simp only [JV,Option.some.injEq] at h;subst h;exact ⟨hl,fun j hj=>absurd hj (by omega)⟩
 |c+1,l,r,cs,h,hl=>by
  simp only [JV] at h;split at h
  .rename_i l1 h1
   split at h
   .rename_i r' h2
    cases h;obtain ⟨g1,g2⟩:=Nd (ns:=ns) h1 hl;have g2:=g2 hn;obtain ⟨k1,k2⟩:=OH hn hsz h2 (y8.drop g1 sz);have e0:cs=cs.take sz++cs.drop sz:=(List.take_append_drop sz cs).symm;refine ⟨?_,fun j hj=> ?_⟩
    .rw [e0];exact y8.app (y8.take g1 sz) k1
    .cases j with
     |zero =>
      simp only [splice,Nat.zero_mul,List.take_zero,D8,Nat.zero_add];have e1:ns++cs.drop ns.length=(ns++cs.drop ns.length).take sz++cs.drop sz:=by
       have:=(List.take_append_drop sz (ns++cs.drop ns.length)).symm;rw [List.drop_append,l5 hsz,D8,List.drop_drop,show ns.length+(sz - ns.length)=sz by omega] at this;exact this
      rw [e1];exact y8.app (y8.take g2 sz) k1
     |succ j =>
      have h3:=k2 j (by omega)
      by_cases hlen:sz<=cs.length
      .have e1:splice cs ((j+1) * sz) ns=cs.take sz++splice (cs.drop sz) (j * sz) ns:=by
        simp only [splice,E8];rw [show (j+1) * sz=sz+j * sz by rw [Nat.succ_mul,Nat.add_comm],List.take_add,E8,List.drop_drop,Nat.add_assoc]
       rw [e1];exact y8.app (y8.take g1 sz) h3
      .have e1:splice cs ((j+1) * sz) ns=cs.take sz++splice (cs.drop sz) (j * sz) ns:=by
        simp only [splice,E8];rw [show (j+1) * sz=sz+j * sz by rw [Nat.succ_mul,Nat.add_comm],List.take_add,E8,List.drop_drop,Nat.add_assoc]
       rw [e1];exact y8.app (y8.take g1 sz) h3
   .cases h
  .cases h
def VI (hs:s.g C vs st){E:Env}{k n:Nat}{x:y6}{a:SV}{a' :c8}(ha:a.g C vs a'){s' :SS}(h:Gl E.lim k n s x a=some s'):∃ st',Q8 E k n st a' x=some st' /\s'.g C vs st' :=by
 have hbd:∀ (id:Nat) (l:List SV) (cs:List c8),y8.g C vs l cs->okB E.lim id (y8.X8 l)=true->A4 cs<=id+1\/(E.lim.base<=id/\E.lim.strict<=id):=by
  intro id l cs h2 h4;unfold okB at h4;split at h4
  .rename_i b hb
   simp only [Bool.or_eq_true,c7,Nat.ble_eq] at h4;rw [y8.cE hb h2];exact h4
  .simp only [c7,Nat.ble_eq] at h4
   exact .inr h4
 cases a<;>simp only [Gl,reduceCtorEq] at h
 rotate_left
 .rename_i id lo sz c
  simp only [SV.g] at ha;obtain ⟨j,j1,rfl⟩:=ha;obtain ⟨hv,hT,hH,hL,ht,hB⟩:=yI hs x;split at h
  .rename_i l p old hl ho
   obtain ⟨cs,h1,h2,h3⟩:=SV.yc hv hl;split at h
   .rename_i r hr
    split at h
    .rename_i hc
     simp only [c7,Nat.ble_eq] at hc;cases h;have hlen:=y8.len h2;have hn:=j4 hc.1.1.1.1.1;obtain ⟨o',o1,co,rfl,o2,_⟩:=K4.get hH ho;have hol:=y8.len o2;have hw:=(OH h2 (by omega) hr (y8.drop o2 lo)).2 j j1;have hcs:j * sz+sz<=c * sz:=by rw [<- Nat.succ_mul];exact Nat.mul_le_mul_right _ j1
     have hwr:wr (E1 st x).2.H id (lo+j * sz) cs=some ((E1 st x).2.H.set id (.cells (splice co (lo+j * sz) cs))):=by
      simp only [wr,o1];rw [if_pos (by omega)]
     have e1:splice co (lo+j * sz) cs=co.take lo++splice (co.drop lo) (j * sz) cs:=by
      simp only [splice,E8];rw [List.take_add,E8,List.drop_drop,Nat.add_assoc]
     refine ⟨_,?_,cz (s:={ (bD s x).2 with H:=(bD s x).2.H.set id (.cells none (old.take lo++r)),o7:= .obj id::(bD s x).2.o7 }) (st:={ (E1 st x).2 with H:=(E1 st x).2.H.set id (.cells (splice co (lo+j * sz) cs)),o7:= .obj id::(E1 st x).2.o7 })
      ⟨hT,K4.set hH id ⟨_,rfl,by rw [e1];exact y8.app (y8.take o2 lo) hw,fun k hk=>by cases hk⟩,hL,congrArg (Touch.obj id::·) ht,hB⟩ k (v:= .any) (a:= .any) (by simp only [SV.g])⟩
     simp only [Q8,h1];rw [if_pos ⟨by omega,hc.1.1.1.1.2,hbd _ _ _ h2 hc.1.1.1.2⟩,hwr]
    .cases h
   .cases h
  .cases h
 rename_i id off;rw [bu ha];obtain ⟨hv,hT,hH,hL,ht,hB⟩:=yI hs x;split at h
 .rename_i l hl
  obtain ⟨cs,h1,h2,h3⟩:=SV.yc hv hl;split at h
  .rename_i hc
   simp only [c7] at hc;split at h
   .rename_i H' hw
    cases h;obtain ⟨H3,w1,w2⟩:=aM6 hH h2 h3 hw;have hlen:=y8.len h2;have hn:=j4 hc.1.1;have hbb:A4 cs<=id+1\/(E.lim.base<=id/\E.lim.strict<=id):=by
     have h4:=hc.2;unfold okB at h4;split at h4
     .rename_i b hb
      simp only [Bool.or_eq_true,c7,Nat.ble_eq] at h4;rw [y8.cE hb h2];exact h4
     .simp only [c7,Nat.ble_eq] at h4
      exact .inr h4
    refine ⟨_,?_,cz (s:={ (bD s x).2 with H:=H',o7:= .obj id::(bD s x).2.o7 }) (st:={ (E1 st x).2 with H:=H3,o7:= .obj id::(E1 st x).2.o7 }) ⟨hT,w2,hL,congrArg (Touch.obj id::·) ht,hB⟩ k (v:= .any) (a:= .any) (by simp only [SV.g])⟩;simp only [Q8,h1];rw [if_pos ⟨by omega,hc.1.2,hbb⟩,w1]
   .cases h
  .cases h
 .cases h
def Vm (hs:s.g C vs st){sz:Nat}{y:SV}{y' :c8}(hy:y.g C vs y'){z:SD}(h:MF s.B s.H sz y=some z):∃ m cs new,N4 st.H sz y' =some (m,cs)/\M6 cs=some new/\z.g C vs (.slice m new):=by
 obtain ⟨hT,hH,hL,ht,hB⟩:=hs;cases y<;>simp only [MF,reduceCtorEq] at h
 .split at h
  .rename_i q hq
   cases h;obtain ⟨d,rfl,h1⟩:=aL hy;obtain ⟨hw,rows,rfl,h2,h3,h4,h5⟩:=SD.eB hB hq h1;have hfl:rows.flatten.length=rows.length * sz:=kF (fun r hr=>by grind [L1.len]);exact ⟨_,_,_,by simp_all [N4,if_true],aZ _,h1⟩
  .cases h
 .rename_i id z' lo len
  rw [mE hy];split at h
  .split at h
   .rename_i l hl
    split at h
    .rename_i xs hxs
     cases h;obtain ⟨cs,h1,h2⟩:=DL hH hl;have h3:=y8.map (C:=C) (vs:=vs) (fun _ _=>SV.qt) h2;obtain ⟨ds,h4,h5⟩:=oC h3 hxs;have hlen:xs.length=len * sz:=by
      have e1:=L1.len h5;have e2:∀ {v:List c8} {d:List Data},M6 v=some d->d.length=v.length:=by
       intro v
       induction v with
       |nil=>simp_all [M6,Option.some.injEq]
       |cons a v ih =>
        grind [M6,Option.some.injEq]
      have e4:=y8.len h2;simp_all [ZA]<;>grind
     refine ⟨len,_,ds,?_,h4,pU hlen h5⟩;simp_all [N4,if_pos]
    .cases h
   .cases h
  .cases h
def as2 {B:jg}(hB:Bg vs B){sz:Nat}{x z r:SD}{hi len m:Nat}{cells new:List Data}(h:as1 B sz x z=some (r,hi))(hx:x.g C vs (.slice len cells))(hz:z.g C vs (.slice m new)):r.g C vs (.slice (len+m) (cells++new))/\len+m<=hi:=by
 unfold as1 at h;split at h
 .rename_i v1 lo1 hi1 aK9 v2 lo2 hi2 aL0 e1 e2
  obtain ⟨w1,bx1,r1,a1,a2,a3,a4⟩:=SD.eB hB e1 hx;obtain ⟨w2,bx2,r2,b1,b2,b3,b4⟩:=SD.eB hB e2 hz;split at h
  .simp_all
  .split at h
   .simp_all
   .grind [SD.g,List.flatten_append,o8,L1.T4,L1.T5]
 .cases h
theorem VB (hs:s.g C vs st){x:y6}{id off:Nat}(h:AX s x=some (id,off)):aV st x=some (id,off):=by
 obtain ⟨hT,hH,hL,ht,hB⟩:=hs;cases x with
 |loc m =>
  simp [AX] at h;split at h
  .rename_i e
   obtain ⟨a,h1,h2⟩:=y8.get hL e;rw [bu h2] at h1
   grind [aV]
  .cases h
 |slot t =>
  simp only [AX] at h;split at h
  .cases h
  .rename_i hh
   unfold HS at hh;split at h
   .rename_i e
    obtain ⟨a,h1,h2⟩:=y8.get hT e;rw [bu h2] at h1;simp_all [aV,if_neg]
   .cases h
 |const v=>cases h
theorem MS (hs:s.g C vs st){l:F2}{sz:Nat}{op:z6}{x:SD}{s' :SS}(h:Bd l s sz op=some (x,s')):∃ len cells st',W8 l st sz op=some (len,cells,st')/\x.g C vs (.slice len cells)/\s'.g C vs st' :=by
 have hs' :=hs;obtain ⟨hT,hH,hL,ht,hB⟩:=hs;unfold Bd at h;split at h
 .rename_i t
  split at h
  .cases h
  .rename_i hh
   unfold HS at hh;split at h
   .rename_i z x' e
    split at h
    .obtain ⟨rfl,rfl⟩:=h
     obtain ⟨a,h1,h2⟩:=y8.get hT e;obtain ⟨len,cells,rfl,h3⟩:=rO h2;refine ⟨len,cells,{ st with T:=st.T.set t (.d (.slice len cells)),o7:= .slot t::st.o7 },?_,h3,y8.set hT t (bE h3),hH,hL,by simp_all,hB⟩;simp_all [W8,if_neg,if_pos]
    .cases h
   .cases h
 .split at h
  .rename_i id off hp
   split at h
   .cases h
   .split at h
    .rename_i p cs e
     split at h
     .rename_i z x' e2
      split at h
      .obtain ⟨rfl,rfl⟩:=h
       obtain ⟨o,h1,h2⟩:=K4.get hH e;obtain ⟨ds,rfl,h3,h4⟩:=h2;obtain ⟨a,h5,h6⟩:=y8.get h3 e2;obtain ⟨len,cells,rfl,h7⟩:=rO h6;refine ⟨len,cells,{ st with H:=st.H.set id (.cells (ds.set off (.d (.slice len cells)))),o7:= .cell id off::st.o7 },?_,h7,hT,K4.set hH id ⟨_,rfl,y8.set h3 off (bE h7),fun k hk=> ?_⟩,hL,by simp_all,hB⟩
       .simp [W8,VB hs' hp]
        simp_all
       simp_all [c8.J2,List.map_set,Z1]
      .cases h
     .cases h
    .cases h
  .cases h
 .cases h
theorem tK (hB:Bg vs s.B){x:SD}{d:Data}{q:Option Nat×Nat×Nat}(h:x.rM s.B=some q)(hx:x.g C vs d):∃ n cells,d= .slice n cells:=by
 grind [SD.Mi]
def MR (hs:s.g C vs st){l:F2}{j9:List p6}{sz:Nat}{y:y6}{x:SD}{s' :SS}(h:Bc l j9 s sz y=some (x,s')):∃ len cells st',O8 l j9 st sz y=some (len,cells,st')/\x.g C vs (.slice len cells)/\s'.g C vs st' :=by
 have hs' :=hs;obtain ⟨hT,hH,hL,ht,hB⟩:=hs;unfold Bc at h;split at h
 .split at h
  .rename_i hz
   have hz:=j4 hz
   grind [O8,SD.g]
  .cases h
 .rename_i j
  split at h
  .rename_i z x' e
   split at h
   .obtain ⟨rfl,rfl⟩:=h
    obtain ⟨a,h1,h2⟩:=y8.get hL e;obtain ⟨len,cells,rfl,h3⟩:=rO h2;refine ⟨len,cells,{ st with L:=st.L.set j (.d (.slice len cells)) },?_,h3,hT,hH,y8.set hL j (bE h3),ht,hB⟩;simp_all [O8,if_pos]
   .cases h
  all_goals grind [y8.get,aL,tK,MS,O8]
 .cases h
theorem RE (hs:s.g C vs st){l:F2}{op:z6}(h:Gd l s op=true):oo l st op=true:=by
 have hs' :=hs;obtain ⟨hT,hH,hL,ht,hB⟩:=hs;unfold Gd at h;split at h
 .simp [HS] at h
  grind [y8.get,SV.g,oo,Bool.and_self]
 .split at h
  .simp [c7] at h
   obtain ⟨h1,h2⟩:=h;split at h2
   .rename_i p cs e
    split at h2
    .obtain ⟨o,h3,h4⟩:=K4.get hH e
     obtain ⟨ds,rfl,h5,_⟩:=h4
     grind [y8.get,SV.g,oo,VB,Bool.and_self]
    .cases h2
   .cases h2
  .cases h
 .cases h
def Vv (hs:s.g C vs st){l:F2}{j9:List p6}{y:y6}(h:MK l j9 s y=true):isNil l j9 st y=true:=by
 have hs' :=hs;obtain ⟨hT,hH,hL,ht,hB⟩:=hs;unfold MK at h;split at h
 .rfl
 .all_goals grind [y8.get,SV.g,isNil,aL,tK,RE]
 .cases h
theorem NC {row:List SD}:∀ {rows:List (List Data)},(∀ r,r ∈ rows->L1.g C vs row r)->y8.g C vs (c9 rows.length (row.map .d)).flatten (rows.flatten.map .d)
 |[],_=>by simp [y8.g]
 |r::rows,h=>by
  simp only [List.flatten_cons,List.map_append];exact y8.app (y8.Ra (h r (by simp))) (NC (fun r hr=>h r (by simp [hr])))
def Jq (hs:s.g C vs st){sz m:Nat}{y:SV}{y' :c8}(hy:y.g C vs y'){l:List SV}(h:FU s.B s.H sz y=some (m,l)):∃ cs,N4 st.H sz y' =some (m,cs)/\y8.g C vs l cs:=by
 obtain ⟨hT,hH,hL,ht,hB⟩:=hs;cases y<;>simp only [FU,reduceCtorEq] at h
 .split at h
  .rename_i v lo hi row hq
   split at h
   .rename_i he
    have he:=j4 he;simp [Option.some.injEq,Prod.mk.injEq] at h;obtain ⟨rfl,rfl⟩:=h;obtain ⟨d,rfl,h1⟩:=aL hy;obtain ⟨hw,rows,rfl,h2,h3,h4,h5⟩:=SD.eB hB hq h1;have hfl:rows.flatten.length=rows.length * sz:=kF (fun r hr=>by grind [L1.len]);have hn:lo=rows.length:=by omega
    subst hn;exact ⟨_,by simp_all [N4,if_true],NC h5⟩
   .cases h
  .cases h
 .rw [mE hy]
  split at h
  .split at h
   .rename_i l' hl
    obtain ⟨rfl,rfl⟩:=h;obtain ⟨cs,h1,h2⟩:=DL hH hl;simp_all [y8.map,SV.qt,N4,if_pos]
   .cases h
  .cases h
def Gk {n m bytes:Nat}(h:Ow n bytes=true)(hm:m<=n):roomFor m bytes=true:=by
 have h:=j5 h;simp [roomFor,decide_eq_true_eq];exact B6 (Nat.mul_le_mul_right _ (by omega)) h
def Gc (hs:s.g C vs st){y9:Option Nat}{o:SO}{o' :u0}(h:o.g C vs o'):(tL s y9 o).g C vs (L7 st y9 o')/\newId st y9=jY s y9:=by
 obtain ⟨hT,hH,hL,ht,hB⟩:=hs;have hlen:=K4.len hH;cases y9 with
 |none =>
  refine ⟨⟨hT,K4.app hH (by simp_all [K4.g]),hL,ht,hB⟩,?_⟩;simp [newId,jY,hlen]
 |some i=>exact ⟨⟨hT,K4.set hH i h,hL,ht,hB⟩,rfl⟩
def DF (hs:s.g C vs st){E:Env}{j9:List p6}{y9:Option Nat}{k sz bytes:Nat}{ob:Bool}{x:y6}{y:SV}{y' :c8}(hy:y.g C vs y'){s' :SS}(h:qa E.lim j9 y9 k sz bytes ob s x y=some s'):∃ st',M8 E j9 y9 k sz bytes ob st x y' =some st' /\s'.g C vs st' :=by
 unfold qa at h;split at h
 .split at h
  .rename_i m cs he
   obtain ⟨ds,h1,h2⟩:=Jq hs hy he;split at h
   .rename_i hc
    simp [c7] at hc;have c1:=Vv hs hc.1.1;have c2:=Gk hc.1.2 (o5 _);split at h
    .cases h
     refine ⟨_,?_,cz hs k (v:= .N7) (a:= .N7) (by rfl)⟩;simp_all [M8,if_true,if_pos]
    .cases h
     obtain ⟨n1,n2⟩:=Gc hs (y9:=y9) (o:= .cells none cs) (o' := .cells ds) ⟨ds,rfl,h2,fun k h=>by cases h⟩;refine ⟨_,?_,cz n1 k (v:= .A8 (jY s y9) sz 0 m) (a:= .A8 (newId st y9) sz 0 m) (by grind [SV.g])⟩;simp_all [M8,if_true,if_pos,if_neg]
   .cases h
  .cases h
 .split at h
  .rename_i z hz
   obtain ⟨m,cs,new,h1,h2,h3⟩:=Vm hs hy hz;split at h
   .rename_i x0 s1 ht
    obtain ⟨len,cells,st1,h4,h5,h6⟩:=MR hs ht;split at h
    .rename_i r hi aA8
     obtain ⟨h7,h8⟩:=as2 hs.2.2.2.2 aA8 h5 h3;split at h
     .rename_i hc
      simp [c7] at hc;have c2:=Gk hc.1 h8;cases h;refine ⟨_,?_,cz h6 k (v:= .own sz r) (a:= .own sz (len+m) (cells++new)) (by grind [SV.g])⟩;simp_all [M8,if_neg,if_pos]
     .cases h
    .cases h
   .cases h
  .cases h
def Rw (hs:s.g C vs st){E:Env}{k sz bytes id lo len:Nat}{y:SV}{y' :c8}(hy:y.g C vs y'){s' :SS}(h:yy E.lim E.entry k sz bytes s id lo len y=some s'):∃ st',S6 E k sz bytes st id lo len y' =some st' /\s'.g C vs st' :=by
 unfold yy at h;split at h
 .rename_i hc0
  simp [c7,Nat.ble_eq] at hc0;split at h
  .rename_i p l m cs RX he
   split at h
   .split at h
    .rename_i hc
     simp only [c7,Nat.ble_eq] at hc;obtain ⟨⟨⟨⟨⟨c1,c2⟩,c3⟩,c4⟩,c5⟩,c6⟩:=hc;cases h;obtain ⟨ds,h1,h2⟩:=Jq hs hy he;obtain ⟨hT,hH,hL,ht,hB⟩:=hs;obtain ⟨o,h3,h4⟩:=K4.get hH RX;obtain ⟨es,rfl,h5,_⟩:=h4;have e1:=y8.len h5;have c1:=j4 c1;have c2:=j4 c2;have hrf:=Gk c3 (o5 _);refine ⟨_,?_,cz (s:={ s with T:=y8.kill id s.T,H:=(s.H.take E.lim.base++(s.H.drop E.lim.base).map (SO.kill id)).set id (.cells none (y8.kill id l++cs)),L:=y8.kill id s.L,o7:= .obj id::s.o7 }) (st:={ T:=H9 id st.T,H:=(st.H.take E.lim.base++(st.H.drop E.lim.base).map (u0.kill id)).set id (.cells (H9 id es++ds)),L:=H9 id st.L,o7:= .obj id::st.o7 }) ⟨y8.ep id hT,K4.set (K4.app (K4.take hH _) (K4.map (fun _ _=>SO.ep id) (K4.drop hH _))) id (a:= .cells none (y8.kill id l++cs)) (b:= .cells (H9 id es++ds)) ⟨_,rfl,y8.app (y8.ep id h5) h2,fun k h=>by cases h⟩,y8.ep id hL,by simp_all,hB⟩ k (v:= .A8 id sz lo (len+m)) (a:= .A8 id sz lo (len+m)) (by rfl)⟩;simp only [S6,h3,h1];rw [if_pos ⟨hc0.1.1,hc0.1.2,hc0.2⟩,if_pos ⟨c1,by omega,hrf,by grind [y8.cE],y8.AD h2 c5,j5 c6⟩]
    .cases h
   .cases h
  .cases h
 .cases h
end
abbrev Sem:=jg->FuncId->List SV->List SO->F2->Option (List (SV×List SO))
def gO (C:Ctx)(A:Prog)(sem:Sem):Prop:=∀ B f args H l outs,sem B f args H l=some outs->∀ vs,Bg vs B->∀ as Hc,y8.g C vs args as->K4.g C vs H Hc ->
 Pq A f as Hc l fun v H1=>∃ o,o ∈ outs/\o.1.g C vs v/\K4.g C vs o.2 H1
def iC {α β:Type}(f:α->Option (List β)):List α->Option (List β)
 |[]=>some []
 |a::r=>match f a,iC f r with
  |some x,some y=>some (x++y)
  |_,_=>none
theorem X2 {α β:Type}{f:α->Option (List β)}:∀ {l:List α} {r:List β},iC f l=some r->∀ a,a ∈ l->∃ x,f a=some x/\∀ b,b ∈ x->b ∈ r
 |[],_,_,a,h=>by cases h
 |c::l,r,h,a,ha=>by
  simp [iC] at h;split at h
  .rename_i x y hx hy
   cases h
   rcases B4.1 ha with rfl|ha
   .simp_all
   .obtain ⟨z,h1,h2⟩:=X2 hy a ha
    simp_all
  .cases h
section
variable (A:Prog) (sem:Sem)
def Vn (lim:F2)(k:Nat)(f:FuncId)(args:List SV)(s:SS):Option (List SS) :=
 if A.prom f then match sem s.B f args s.H lim with
  |some outs=>if outs.all (fun o=>E3 s.H.length o.2.length) then some (outs.map fun o=>oG { s with H:=o.2,o7:= .below o.2.length::s.o7 } k o.1) else none
  |none=>none
 else match yZ s.H,y8.X8 args with
  |some bs,some b0 =>
   if E3 (U7 bs lim.strict 8 b0) s.H.length&&E3 (yW ((bs.take (U7 bs lim.strict 8 b0)).drop lim.strict)) (U7 bs lim.strict 8 b0) then
    match A.mode f with
    |0=>match sem s.B f args (s.H.take (U7 bs lim.strict 8 b0)) { lim with base:=U7 bs lim.strict 8 b0,strict:=qd bs lim.strict (U7 bs lim.strict 8 b0) } with
     |some outs=>if outs.all (fun o=>s7 o.2.length (U7 bs lim.strict 8 b0)) then some (outs.map fun o=>oG { s with H:=o.2++s.H.drop (U7 bs lim.strict 8 b0),o7:= .below (U7 bs lim.strict 8 b0)::s.o7 } k o.1) else none
     |none=>none
    |1=>match sem s.B f args (s.H.take (U7 bs lim.strict 8 b0)) ⟨0,U7 bs lim.strict 8 b0,U7 bs lim.strict 8 b0,qd bs lim.strict (U7 bs lim.strict 8 b0)⟩ with
     |some outs=>if outs.all (fun o=>s7 o.2.length (U7 bs lim.strict 8 b0)) then some (outs.map fun o=>oG s k o.1) else none
     |none=>none
    |_=>match (args.headD .any).X8 with
     |some m=>match sem s.B f args (s.H.take (U7 bs lim.strict 8 b0)) (lim.nP m (U7 bs lim.strict 8 b0) (U7 bs lim.strict 8 b0) (qd bs lim.strict (U7 bs lim.strict 8 b0))) with
      |some outs=>if outs.all (fun o=>s7 o.2.length (U7 bs lim.strict 8 b0))&&E3 m (U7 bs lim.strict 8 b0) then some (outs.map fun o=>oG { s with H:=o.2.take m++s.H.drop m,o7:= .below m::s.o7 } k o.1) else none
      |none=>none
     |none=>none
   else none
  |_,_=>none
def one {α:Type}:Option α->Option (List α)
 |some a=>some [a]
 |none=>none
def as4 (lim:F2)(entry:Nat)(j9:List p6)(y9:Option Nat)(k:Nat)(s:SS):z6->Option (List SS)
 | .alloc zero=>some [oG (tL s y9 (.cells none (zero.map Xt))) k (.ptr (jY s y9) 0)]
 | .box x=>match (bJ s.T s.L x).cells? with
  |some l=>some [oG (tL s y9 (.cells (bJ s.T s.L x).tag l)) k (.ptr (jY s y9) 0)]
  |none=>none
 | .A2 sz len zero parts true=>match AQ (zero.map Xt) (parts.map fun (o,t,x)=>(o,t,bJ s.T s.L x)) with
  |some cs=>if Nat.blt 0 sz&&s7 cs.length (len * sz) then some [oG (tL s y9 (.cells none cs)) k (.A8 (jY s y9) sz 0 len)] else none
  |none=>none
 | .store n a x=>one (Gl lim k n s x (bJ s.T s.L a))
 | .append sz bytes ob x y=>match bJ s.T s.L x with
  | .A8 id z lo len=>if s7 z sz then one (yy lim entry k sz bytes s id lo len (bJ s.T s.L y)) else none
  | .d _=>one (qa lim j9 y9 k sz bytes ob s x (bJ s.T s.L y))
  | .N7=>one (qa lim j9 y9 k sz bytes ob s x (bJ s.T s.L y))
  |_=>none
 | .call f xs=>Vn A sem lim k f (xs.map (bJ s.T s.L)) s
 |_=>none
end
section
variable {C:Ctx} {vs:List Nat} {s:SS} {st:G4} {A:Prog} {sem:Sem} (fA:gO C A sem)
theorem y8.an0 {σ:y6->SV}{ρ:y6->c8}(h:∀ x,(σ x).g C vs (ρ x)):∀ xs:List y6,y8.g C vs (xs.map σ) (xs.map ρ)
 |[]=>by simp [y8.g]
 |x::xs=>by exact ⟨_,_,rfl,h x,y8.an0 h xs⟩
def Yl:∀ {x:List SV} {v:List c8},y8.g C vs x v->(x.headD .any).g C vs (v.headD .any)
 |[],_,h=>by simp_all [y8.g,SV.g]
 |x::xs,_,h=>by grind [y8.g]
include fA
def Zm (hs:s.g C vs st){l:F2}{b k:Nat}{f:FuncId}{args:List SV}{as:List c8}(ha:y8.g C vs args as){outs:List SS}(h:Vn A sem l k f args s=some outs) :
  ∃ st' N,(∃ o,o ∈ outs/\o.g C vs st')/\∀ n,N<=n->C6 (K8 A n l b) k f as st=some st' :=by
 have hs' :=hs;obtain ⟨hT,hH,hL,ht,hB⟩:=hs;have hlen:=K4.len hH;unfold Vn at h;split at h
 .split at h
  .rename_i os hos
   split at h
   .rename_i hall
    cases h;obtain ⟨v,H1,⟨o,o1,o2,o3⟩,N,hN⟩:=fA _ _ _ _ _ _ hos vs hB _ _ ha hH;have hl:=j5 (L9.1 hall o o1);have mY:=K4.len o3;refine ⟨_,N,⟨_,F5.2 ⟨o,o1,rfl⟩,cz (s:={ s with H:=o.2,o7:= .below o.2.length::s.o7 }) (st:={ st with H:=H1,o7:= .below H1.length::st.o7 }) ⟨hT,o3,hL,by simp_all,hB⟩ k o2⟩,fun n hn=> ?_⟩;simp_all [K8,C6,if_true,if_pos]
   .cases h
  .cases h
 .have gj:A.prom f=false:=by simp_all
  split at h
  .rename_i bs b0 QI hb0
   have e1:=EP QI hH;have e2:=y8.cE hb0 ha;have e3:E9 st.H l.strict 8 (A4 as)=U7 bs l.strict 8 b0:=by rw [uJ,e1,e2]
   have e4:∀ n,C9 st.H l.strict n=qd bs l.strict n:=fun n=>by rw [MW,e1]
   generalize Xn:U7 bs l.strict 8 b0=n0 at h;rw [Xn] at e3;split at h
   .rename_i hc
    simp only [c7,Nat.ble_eq] at hc;have pN:L8 ((st.H.take n0).drop l.strict)<=n0:=by simp_all [pF]
    have hle:n0<=st.H.length:=by omega
    have hHt:=K4.take hH n0;have hHd:=K4.drop hH n0;split at h
    .rename_i hm
     split at h
     .rename_i os hos
      split at h
      .rename_i hall
       cases h;obtain ⟨v,H1,⟨o,o1,o2,o3⟩,N,hN⟩:=fA _ _ _ _ _ _ hos vs hB _ _ ha hHt;have hl:=j4 (L9.1 hall o o1);have mY:=K4.len o3;refine ⟨_,N,⟨_,F5.2 ⟨o,o1,rfl⟩,cz (s:={ s with H:=o.2++s.H.drop n0,o7:= .below n0::s.o7 }) (st:={ st with H:=H1++st.H.drop n0,o7:= .below n0::st.o7 }) ⟨hT,K4.app o3 hHd,hL,by simp_all,hB⟩ k o2⟩,fun n hn=> ?_⟩;exact nC (E:=K8 A n l b) gj hm e3 hle pN rfl (by simp_all [K8]) (by omega)
      .cases h
     .cases h
    .rename_i hm
     split at h
     .rename_i os hos
      split at h
      .rename_i hall
       cases h;obtain ⟨v,H1,⟨o,o1,o2,o3⟩,N,hN⟩:=fA _ _ _ _ _ _ hos vs hB _ _ ha hHt;have hl:=j4 (L9.1 hall o o1);have mY:=K4.len o3;refine ⟨_,N,⟨_,F5.2 ⟨o,o1,rfl⟩,cz hs' k o2⟩,fun n hn=> ?_⟩;exact kz (E:=K8 A n l b) gj hm e3 hle pN rfl (by rw [show (K8 A n l b).lim=l from rfl,e4];exact hN n hn) (by omega)
      .cases h
     .cases h
    .split at h
     .rename_i m hmm
      split at h
      .rename_i os hos
       split at h
       .rename_i hall
        simp only [c7,Nat.ble_eq] at hall;cases h;obtain ⟨v,H1,⟨o,o1,o2,o3⟩,N,hN⟩:=fA _ _ _ _ _ _ hos vs hB _ _ ha hHt;have hl:=j4 (L9.1 hall.1 o o1);have mY:=K4.len o3;have hm2:=SV.cE hmm (Yl ha);refine ⟨_,N,⟨_,F5.2 ⟨o,o1,rfl⟩,cz (s:={ s with H:=o.2.take m++s.H.drop m,o7:= .below m::s.o7 }) (st:={ st with H:=H1.take m++st.H.drop m,o7:= .below m::st.o7 }) ⟨hT,K4.app (K4.take o3 m) (K4.drop hH m),hL,by simp_all,hB⟩ k o2⟩,fun n hn=> ?_⟩;simp_all [K8,C6,j3,if_false,if_pos]
       .cases h
      .cases h
     .cases h
   .cases h
  .cases h
def as5 (hs:s.g C vs st){l:F2}{b:Nat}{j9:List p6}{y9:Option Nat}{k:Nat}{op:z6}{outs:List SS}(h:as4 A sem l b j9 y9 k s op=some outs) :
  ∃ st' N,(∃ o,o ∈ outs/\o.g C vs st')/\∀ n,N<=n->E6 (K8 A n l b) j9 y9 k st op=some st' :=by
 have hr:=SS.I5 hs;cases op<;>simp only [as4,reduceCtorEq] at h
 case alloc zero =>
  cases h;obtain ⟨n1,n2⟩:=Gc hs (y9:=y9) (o:= .cells none (zero.map Xt)) (o' := .cells zero) ⟨zero,rfl,AA zero,fun k h=>by cases h⟩;exact ⟨_,0,⟨_,q6.2 rfl,cz n1 k (v:= .ptr (jY s y9) 0) (a:= .ptr (newId st y9) 0) (by grind [SV.g])⟩,fun n _=>rfl⟩
 case box x =>
  split at h
  .rename_i cl hl
   cases h;obtain ⟨cs,h1,h2,h3⟩:=SV.yc (hr x) hl;obtain ⟨n1,n2⟩:=Gc hs (y9:=y9) (o:= .cells (bJ s.T s.L x).tag cl) (o' := .cells cs) ⟨cs,rfl,h2,h3⟩;exact ⟨_,0,⟨_,q6.2 rfl,cz n1 k (v:= .ptr (jY s y9) 0) (a:= .ptr (newId st y9) 0) (by grind [SV.g])⟩,fun n _=>by grind [E6]⟩
  .cases h
 case A2 sz len zero parts ob =>
  cases ob<;>simp [reduceCtorEq] at h;split at h
  .rename_i cs hcs
   split at h
   .cases h
    obtain ⟨ds,h1,h2⟩:=yC (tA hr parts) (AA zero) hcs;have hl:=y8.len h2;obtain ⟨n1,n2⟩:=Gc hs (y9:=y9) (o:= .cells none cs) (o' := .cells ds) ⟨ds,rfl,h2,fun k h=>by cases h⟩;refine ⟨_,0,⟨_,q6.2 rfl,cz n1 k (v:= .A8 (jY s y9) sz 0 len) (a:= .A8 (newId st y9) sz 0 len) (by grind [SV.g])⟩,fun n _=> ?_⟩;simp_all [E6,if_pos]
   .cases h
  .cases h
 case store n a x =>
  cases e:Gl l k n s x (bJ s.T s.L a) with
  |none=>rw [e] at h;cases h
  |some s' =>
   rw [e] at h;cases h;obtain ⟨st',h1,h2⟩:=VI (E:=K8 A 0 l b) hs (hr a) e;exact ⟨st',0,⟨_,q6.2 rfl,h2⟩,fun n _=>h1⟩
 case append sz bytes ob x y =>
  have hx:=hr x;split at h
  .rename_i id z lo len e
   rw [e] at hx;split at h
   .rename_i hz
    have hz:=j4 hz;cases e2:yy l b k sz bytes s id lo len (bJ s.T s.L y) with
    |none=>rw [e2] at h;cases h
    |some s' =>
     rw [e2] at h;cases h;obtain ⟨st',h1,h2⟩:=Rw (E:=K8 A 0 l b) hs (hr y) e2;refine ⟨st',0,⟨_,q6.2 rfl,h2⟩,fun n _=> ?_⟩;simp only [E6,mE hx];rw [if_pos hz];exact h1
   .cases h
  .rename_i x' e
   rw [e] at hx;obtain ⟨d,e3,_⟩:=aL hx;cases e2:qa l j9 y9 k sz bytes ob s x (bJ s.T s.L y) with
   |none=>rw [e2] at h;cases h
   |some s' =>
    rw [e2] at h;cases h;obtain ⟨st',h1,h2⟩:=DF (E:=K8 A 0 l b) hs (hr y) e2;refine ⟨st',0,⟨_,q6.2 rfl,h2⟩,fun n _=> ?_⟩;simp [E6,e3];exact h1
  .rename_i e
   rw [e] at hx;simp [SV.g] at hx;cases e2:qa l j9 y9 k sz bytes ob s x (bJ s.T s.L y) with
   |none=>rw [e2] at h;cases h
   |some s' =>
    rw [e2] at h;cases h;obtain ⟨st',h1,h2⟩:=DF (E:=K8 A 0 l b) hs (hr y) e2;refine ⟨st',0,⟨_,q6.2 rfl,h2⟩,fun n _=> ?_⟩;simp [E6,hx];exact h1
  .cases h
 case call f xs =>
  obtain ⟨st',N,h1,h2⟩:=Zm fA (b:=b) hs (y8.an0 hr xs) h;exact ⟨st',N,h1,fun n hn=>by simp_all [E6]⟩
end
def tC (B:jg)(c:SB)(t:Bool):Option jg:=match c with
 | .uy=>some B
 | .cmp i n pol=>match B[i]? with
  |some (lo,hi)=>if t==pol then (if E3 (max lo (n+1)) hi then some (B.set i (max lo (n+1),hi)) else none)
    else (if E3 lo (min hi n) then some (B.set i (lo,min hi n)) else none)
  |none=>some B
def DA {vs:List Nat}{B:jg}(hB:Bg vs B){c:SB}{t:Bool}(h:c.g vs t):∃ B',tC B c t=some B' /\Bg vs B' :=by
 cases c with
 |uy=>exact ⟨B,rfl,hB⟩
 |cmp i n pol =>
  obtain ⟨m,h1,h2⟩:=h;simp only [tC];split
  .rename_i lo hi hi0
   obtain ⟨m',e1,e2,e3⟩:=hB.2 _ _ _ hi0;rw [h1] at e1;have key:∀ lo' hi',lo' <=m->m<=hi' ->Bg vs (B.set i (lo',hi')):=by
    intro lo' hi' g1 g2;refine ⟨by simp [hB.1],fun j a b hj=> ?_⟩;rw [List.getElem?_set] at hj;split at hj
    .simp_all
    .exact hB.2 _ _ _ hj
   by_cases hp:(t==pol)=true
   .simp_all<;>grind
   simp_all<;>grind
  simp_all
def Fm (s:SS)(j:Nat)(c:SB)(t:Bool):List SS:=match tC s.B c t with
 |some B' =>[{ s with L:=s.L.set j (.d (.lit (.bool t))),B:=B' }]
 |none=>[]
def HJ (s:SS)(j:Nat):List SS:=match s.L[j]? with
 |some (.d x)=>match x.bool? with
  |some (.u c)=>Fm s j c true++Fm s j c false
  |_=>[s]
 |_=>[s]
def nX (k:IntKind)(lo:Int):Nat->List SV
 |0=>[]
 |n+1=> .d (.lit (.int k lo))::nX k (lo+1) n
def Tn (s:SS)(j:Nat):List SS:=match s.L[j]? with
 |some (.d x)=>match x.int? s.B with
  |some (k,lo,hi,_)=>(nX k lo (hi - lo+1).toNat).map fun v=>{ s with L:=s.L.set j v }
  |none=>[s]
 |_=>[s]
def Fo (s:SS)(i lo:Nat):Nat->List SS
 |0=>[]
 |n+1=>{ s with B:=s.B.set i (lo,lo) }::Fo s i (lo+1) n
def To (s:SS)(i:Nat):List SS:=match s.B[i]? with
 |some (lo,hi)=>Fo s i lo (hi+1 - lo)
 |none=>[s]
section
variable {C:Ctx} {vs:List Nat} {s:SS} {st:G4}
def ND (hs:s.g C vs st)(j:Nat):∃ s',s' ∈ HJ s j/\s'.g C vs st:=by
 have hs' :=hs;obtain ⟨hT,hH,hL,ht,hB⟩:=hs;unfold HJ;split
 .rename_i x e
  split
  .rename_i c hc
   obtain ⟨a,h1,h2⟩:=y8.get hL e;obtain ⟨d,rfl,h3⟩:=aL h2;obtain ⟨t,rfl,h4⟩:=SD.dY hc h3;obtain ⟨B',h5,h6⟩:=DA hB h4;have key:(Fm s j c t)=[{ s with L:=s.L.set j (.d (.lit (.bool t))),B:=B' }]:=by grind [Fm]
   have hL2:y8.g C vs (s.L.set j (.d (.lit (.bool t)))) st.L:=by
    have:=y8.set hL j (a:= .d (.lit (.bool t))) (b:= .d (.bool t)) (bE (by rfl));simp_all [Z1]
   refine ⟨{ s with L:=s.L.set j (.d (.lit (.bool t))),B:=B' },?_,hT,hH,hL2,ht,h6⟩;cases t with
   |true=>simp_all
   |false=>simp_all
  simp_all
 simp_all
theorem mg {k:IntKind}:∀ (n:Nat) (lo m:Int),lo<=m->m<lo+n->SV.d (.lit (.int k m)) ∈ nX k lo n
 |0,lo,m,h1,h2=>by omega
 |n+1,lo,m,h1,h2=>by
  simp [nX,B4]
  by_cases h:m=lo
  .simp_all
  .exact .inr (mg n (lo+1) m (by omega) (by omega))
def XU (hs:s.g C vs st)(j:Nat):∃ s',s' ∈ Tn s j/\s'.g C vs st:=by
 have hs' :=hs;obtain ⟨hT,hH,hL,ht,hB⟩:=hs;unfold Tn;split
 .rename_i x e
  split
  .rename_i k lo hi r hc
   obtain ⟨a,h1,h2⟩:=y8.get hL e;obtain ⟨d,rfl,h3⟩:=aL h2;obtain ⟨m,rfl,h4,h5,_⟩:=SD.iN hB hc h3;refine ⟨_,F5.2 ⟨_,mg _ lo m h4 (by omega),rfl⟩,hT,hH,?_,ht,hB⟩;have:=y8.set hL j (a:= .d (.lit (.int k m))) (b:= .d (.int k m)) (bE (by rfl));simp_all [Z1]
  simp_all
 simp_all
theorem zT {i:Nat}:∀ (n lo m:Nat),lo<=m->m<lo+n->{ s with B:=s.B.set i (m,m) } ∈ Fo s i lo n
 |0,lo,m,h1,h2=>by omega
 |n+1,lo,m,h1,h2=>by
  simp [Fo,B4]
  by_cases h:m=lo
  .simp_all
  .exact .inr (zT n (lo+1) m (by omega) (by omega))
def XV (hs:s.g C vs st)(i:Nat):∃ s',s' ∈ To s i/\s'.g C vs st:=by
 have hs' :=hs;obtain ⟨hT,hH,hL,ht,hB⟩:=hs;unfold To;split
 .rename_i lo hi e
  obtain ⟨m,h1,h2,h3⟩:=hB.2 _ _ _ e;refine ⟨_,zT _ lo m h2 (by omega),hT,hH,hL,ht,by simp [hB.1],fun j a b hj=> ?_⟩;rw [List.getElem?_set] at hj;split at hj
  .grind
  .exact hB.2 _ _ _ hj
 simp_all
end
def kL (n:Nat):SD->Option (SD×(Nat×Nat))
 | .slice none lo hi row=>if Nat.blt lo hi then some (.slice (some n) lo hi row,(lo,hi)) else none
 | .pr k x=>match kL n x with
  |some (y,p)=>some (.pr k y,p)
  |none=>none
 |_=>none
theorem yo {C:Ctx}{vs:List Nat}:∀ {x y:SD} {p:Nat×Nat} {d:Data},kL vs.length x=some (y,p)->x.g C vs d->∃ m,p.1<=m/\m<=p.2/\y.g C (vs++[m]) d
 | .slice v lo hi row,y,p,d,h,hg=>by
  cases v<;>simp only [kL,reduceCtorEq] at h;split at h
  .obtain ⟨rfl,rfl⟩:=h
   obtain ⟨rows,rfl,h1,h2,h3,h4⟩:=hg;refine ⟨rows.length,h1,h2,?_⟩
   grind [SD.g,L1.P7,Le.app]
  .cases h
 | .pr k x,y,p,d,h,hg=>by
  simp [kL] at h;split at h
  .rename_i y' p' e
   obtain ⟨m,h1,h2,h3⟩:=yo e hg.2
   grind [SD.g]
  .cases h
 | .top,_,_,_,h,_=>by simp [kL] at h
 | .lit _,_,_,_,h,_=>by simp [kL] at h
 | .bool _,_,_,_,h,_=>by simp [kL] at h
 | .int ..,_,_,_,h,_=>by simp [kL] at h
 | .anyI _,_,_,_,h,_=>by simp [kL] at h
 | .str _,_,_,_,h,_=>by simp [kL] at h
def IA (n:Nat):SV->Option (SV×(Nat×Nat))
 | .d x=>match kL n x with
  |some (y,p)=>some (.d y,p)
  |none=>none
 | .own z x=>match kL n x with
  |some (y,p)=>some (.own z y,p)
  |none=>none
 | .q x=>match kL n x with
  |some (y,p)=>some (.q y,p)
  |none=>none
 |_=>none
def FE {C:Ctx}{vs:List Nat}{x y:SV}{p:Nat×Nat}{v:c8}(h:IA vs.length x=some (y,p))(hg:x.g C vs v):∃ m,p.1<=m/\m<=p.2/\y.g C (vs++[m]) v:=by
 cases x<;>simp [IA,reduceCtorEq] at h
 .grind [Option.some.injEq,Prod.mk.injEq,aL,yo,bE]
 .grind [Option.some.injEq,Prod.mk.injEq,rO,yo,SV.g]
 grind [Option.some.injEq,Prod.mk.injEq,SV.g,yo]
def Up (s:SS)(k:Nat):SS:=match s.L[k]? with
 |some v=>match IA s.B.length v with
  |some (w,p)=>{ s with L:=s.L.set k w,B:=s.B++[p] }
  |none=>s
 |none=>s
def Uo (s:SS)(id off:Nat):SS:=match s.H[id]? with
 |some (.cells p l)=>match l[off]? with
  |some v=>match IA s.B.length v with
   |some (w,q)=>{ s with H:=s.H.set id (.cells p (l.set off w)),B:=s.B++[q] }
   |none=>s
  |none=>s
 |_=>s
section
variable {C:Ctx} {vs:List Nat} {s:SS} {st:G4}
theorem Bg.add {B:jg}(hB:Bg vs B){p:Nat×Nat}{m:Nat}(h1:p.1<=m)(h2:m<=p.2):Bg (vs++[m]) (B++[p]):=by
 refine ⟨by simp [hB.1],fun i a b h=> ?_⟩
 rcases y4 i B.length with hi|hi
 .rw [A7 hi] at h
  obtain ⟨q,e1,e2⟩:=hB.2 _ _ _ h
  grind
 .rw [s5 hi] at h
  cases e:i - B.length with
  |zero =>
   rw [e] at h;simp at h;have hb:=hB.1;simp_all [s5]
  |succ q=>simp_all
theorem SS.mono {ws:List Nat}(hl:Le vs ws)(hs:s.g C vs st):y8.g C ws s.T st.T/\K4.g C ws s.H st.H/\y8.g C ws s.L st.L :=
 ⟨y8.P7 hl _ hs.1,K4.P7 hl _ hs.2.1,y8.P7 hl _ hs.2.2.1⟩
def YC (hs:s.g C vs st)(k:Nat):∃ ws,Le vs ws/\(Up s k).g C ws st:=by
 unfold Up;split
 .rename_i v e
  split
  .rename_i w p hn
   rw [<- hs.2.2.2.2.1] at hn;obtain ⟨a,h1,h2⟩:=y8.get hs.2.2.1 e;obtain ⟨m,h3,h4,h5⟩:=FE hn h2;obtain ⟨g1,g2,g3⟩:=SS.mono (Le.app vs [m]) hs;refine ⟨vs++[m],Le.app _ _,g1,g2,?_,hs.2.2.2.1,hs.2.2.2.2.add h3 h4⟩;have:=y8.set g3 k h5;simp_all [Z1]
  grind [Le.refl]
 grind [Le.refl]
def YB (hs:s.g C vs st)(id off:Nat):∃ ws,Le vs ws/\(Uo s id off).g C ws st:=by
 unfold Uo;split
 .rename_i p l e
  split
  .rename_i v e2
   split
   .rename_i w q hn
    rw [<- hs.2.2.2.2.1] at hn;obtain ⟨o,h1,h2⟩:=K4.get hs.2.1 e;obtain ⟨cs,rfl,h3,h4⟩:=h2;obtain ⟨a,h5,h6⟩:=y8.get h3 e2;obtain ⟨m,h7,h8,h9⟩:=FE hn h6;obtain ⟨g1,g2,g3⟩:=SS.mono (Le.app vs [m]) hs;refine ⟨vs++[m],Le.app _ _,g1,?_,g3,hs.2.2.2.1,hs.2.2.2.2.add h7 h8⟩;have e3:SO.g C (vs++[m]) (.cells p (l.set off w)) (.cells cs):=by
     refine ⟨cs,rfl,?_,h4⟩;have:=y8.set (y8.P7 (Le.app vs [m]) _ h3) off h9;simp_all [Z1]
    have:=K4.set g2 id e3;simp_all [Z1]
   grind [Le.refl]
  grind [Le.refl]
 grind [Le.refl]
end
inductive Fk where
 |no
 |b (j:Nat)
 |i (j:Nat)
 |l (i:Nat)
def ac7 (B:jg):SV->Fk
 | .d z=>match z.rM B with
  |some (some i,lo,hi)=>if Nat.blt lo hi then .l i else .no
  |_=> .no
 |_=> .no
def aF2 (s:SS):z6->Fk
 | .pick (.loc j) _ _=> .b j
 | .D5 sz x (.loc j)=>match bJ s.T s.L x with
  | .A8 .. =>if s7 sz 7 then .no else .i j
  |_=> .no
 | .append _ _ ob x y=>if ob then ac7 s.B (bJ s.T s.L y) else match bJ s.T s.L x with
  | .A8 .. =>ac7 s.B (bJ s.T s.L y)
  |_=> .no
 |_=> .no
def Tp (s:SS)(op:z6):List SS:=match aF2 s op with
 | .no=>[s]
 | .b j=>HJ s j
 | .i j=>Tn s j
 | .l i=>To s i
def aq1 (s:SS):z6->SS
 | .load none x=>match bJ s.T s.L x with
  | .ptr id off=>Uo s id off
  |_=>s
 |_=>s
def Gq (L:List SV):Option (Nat×Bool)->Option Bool
 |none=>some true
 |some (j,want)=>match L[j]? with
  |some (.d x)=>match x.bool? with
   |some (.t b)=>some (b==want)
   |_=>none
  |some (.tuple [])=>some false
  |_=>none
def kU (y9:Option Nat)(s:SS)(k:Nat):Option Nat->Option SS
 |none=>some s
 |some t=>match y9 with
  |none=>if Nat.blt t s.T.length then some { (bD s (.loc k)).2 with T:=s.T.set t (bD s (.loc k)).1,o7:= .slot t::s.o7 } else none
  |some _=>if Nat.blt t s.T.length&&HS s.o7 t then some { (bD s (.loc k)).2 with T:=s.T.set t (bD s (.loc k)).1 } else none
section
variable (A:Prog) (sem:Sem) (lim:F2) (entry:Nat) (j9:List p6) (y9:Option Nat) (k:Nat)
def MQ (op:z6)(s:SS):Option (List (SS×List Nat)) :=
 if op.C8 then match as4 A sem lim entry j9 y9 k s op with
  |some outs=>some (outs.map fun o=>(o,[]))
  |none=>none
 else match op with
  | .Q3 x=>some [(oG (bD s x).2 k (bD s x).1,[])]
  |op=>match AY (bJ s.T s.L) s.H s.B op with
   |some (v,rs)=>some [(oG s k v,rs)]
   |none=>none
def aM3 (dst:Option Nat)(o:SS×List Nat):Option (List (SS×List Nat)):=match kU y9 (Up o.1 k) k dst with
 |some s' =>some [(s',o.2)]
 |none=>none
def sdo (i:p6)(s:SS):Option (List (SS×List Nat)):=match MQ A sem lim entry j9 y9 k i.op (aq1 s i.op) with
 |some outs=>iC (aM3 y9 k i.dst) outs
 |none=>none
def VG (i:p6)(s:SS):Option (List (SS×List Nat)):=match Gq s.L i.guard with
 |some true=>iC (sdo A sem lim entry j9 y9 k i) (Tp s i.op)
 |some false=>match kU y9 (oG s k (.tuple [])) k i.dst with
  |some s' =>some [(s',[])]
  |none=>none
 |none=>none
def VF (i:p6)(s:SS):Option (List (SS×List Nat)):=iC (VG A sem lim entry j9 y9 k i) (match i.guard with
 |some (j,_)=>HJ s j
 |none=>[s])
end
section
variable {C:Ctx} {vs:List Nat} {s:SS} {st:G4} {A:Prog} {sem:Sem}
def XW (hs:s.g C vs st)(op:z6):∃ s',s' ∈ Tp s op/\s'.g C vs st:=by
 unfold Tp;split
 all_goals simp_all [q6,ND,XU,XV]
def aq2 (hs:s.g C vs st)(op:z6):∃ ws,Le vs ws/\(aq1 s op).g C ws st:=by
 unfold aq1;split
 .split
  .exact YB hs _ _
  grind [Le.refl]
 grind [Le.refl]
def DS (hs:s.g C vs st){gd:Option (Nat×Bool)}{t:Bool}(h:Gq s.L gd=some t):u5 st.L gd=some t:=by
 cases gd with
 |none=>exact h
 |some p =>
  simp [Gq] at h;split at h
  .rename_i x e
   obtain ⟨a,h1,h2⟩:=y8.get hs.2.2.1 e
   grind [aL,SD.dY,u5]
  .rename_i e
   obtain ⟨a,h1,h2⟩:=y8.get hs.2.2.1 e;simp_all [SV.g,y8.g,u5]
  .cases h
def DQ (hs:s.g C vs st){y9:Option Nat}{k:Nat}{dst:Option Nat}{s' :SS}(h:kU y9 s k dst=some s'):∃ st',r9 y9 st k dst=some st' /\s'.g C vs st' :=by
 cases dst with
 |none=>simp [kU,Option.some.injEq] at h;subst h;exact ⟨st,by cases y9<;>rfl,hs⟩
 |some t =>
  have hlen:=y8.len hs.1;obtain ⟨hv,hT,hH,hL,ht,hB⟩:=yI hs (.loc k);cases y9 with
  |none =>
   simp only [kU] at h;split at h
   .cases h
    refine ⟨{ (E1 st (.loc k)).2 with T:=st.T.set t (E1 st (.loc k)).1,o7:= .slot t::st.o7 },?_,y8.set hs.1 t hv,hH,hL,congrArg (Touch.slot t::·) hs.2.2.2.1,hB⟩;simp_all [r9,E5,if_pos]
   .cases h
  |some q =>
   simp only [kU] at h;split at h
   .rename_i hc
    simp [c7] at hc;have mQ:=hc.2;unfold HS at mQ;rw [<- hs.2.2.2.1] at mQ;cases h;refine ⟨{ (E1 st (.loc k)).2 with T:=st.T.set t (E1 st (.loc k)).1 },?_,y8.set hs.1 t hv,hH,hL,ht,hB⟩;simp_all [r9,V8,if_pos,Bool.and_true,decide_eq_true_eq]
   .cases h
variable (fA:gO C A sem)
include fA
def VH (hs:s.g C vs st){l:F2}{b:Nat}{j9:List p6}{y9:Option Nat}{k:Nat}{op:z6}{outs:List (SS×List Nat)}(h:MQ A sem l b j9 y9 k op s=some outs) :
  ∃ st' rs N,(∃ o,o ∈ outs/\o.2=rs/\o.1.g C vs st')/\∀ n,N<=n->D6 (K8 A n l b) j9 y9 k op st=some (st',rs):=by
 unfold MQ at h;split at h
 .split at h
  .rename_i os hos
   cases h;obtain ⟨st',N,⟨o,h1,h2⟩,h3⟩:=as5 fA (b:=b) hs hos;exact ⟨st',[],N,⟨_,F5.2 ⟨o,h1,rfl⟩,rfl,h2⟩,fun n hn=>by simp_all [D6,if_true]⟩
  .cases h
 .have he:op.C8=false:=by simp_all
  split at h
  .rename_i x _
   cases h;obtain ⟨h1,h2⟩:=yI hs x;exact ⟨_,[],0,⟨_,q6.2 rfl,rfl,cz h2 k h1⟩,fun n _=>by rfl⟩
  .split at h
   .rename_i v rs hp
    cases h;obtain ⟨r,h1,h2⟩:=Zz hs.2.2.2.2 (SS.I5 hs) hs.2.1 hp;refine ⟨_,rs,0,⟨_,q6.2 rfl,rfl,cz hs k h2⟩,fun n _=> ?_⟩;simp_all [D6,j3,if_false,absurd]
   .cases h
def aM0 (hs:s.g C vs st){l:F2}{b:Nat}{j9:List p6}{y9:Option Nat}{k:Nat}{i:p6}{outs:List (SS×List Nat)}(hw:u5 st.L i.guard=some true)(h:sdo A sem l b j9 y9 k i s=some outs) :
  ∃ st' rs N,(∃ o,o ∈ outs/\o.2=rs/\∃ ws,Le vs ws/\o.1.g C ws st')/\∀ n,N<=n->u9 (K8 A n l b) j9 y9 k i st=some (st',rs):=by
 unfold sdo at h;split at h
 .rename_i os hos
  obtain ⟨ws,l1,h1⟩:=aq2 hs i.op;obtain ⟨st1,rs,N,⟨o,o1,o2,o3⟩,h2⟩:=VH fA h1 hos;obtain ⟨x,hx,hm⟩:=X2 h o o1;unfold aM3 at hx;split at hx
  .rename_i s' hs'
   cases hx;obtain ⟨ws2,l2,h3⟩:=YC o3 k;obtain ⟨st2,h4,h5⟩:=DQ h3 hs';refine ⟨st2,rs,N,⟨_,hm _ (q6.2 rfl),o2,ws2,l1.trans l2,h5⟩,fun n hn=> ?_⟩;simp_all [u9]
  .cases hx
 .cases h
def Oy (hs:s.g C vs st){l:F2}{b:Nat}{j9:List p6}{y9:Option Nat}{k:Nat}{i:p6}{outs:List (SS×List Nat)}(h:VF A sem l b j9 y9 k i s=some outs) :
  ∃ st' rs N,(∃ o,o ∈ outs/\o.2=rs/\∃ ws,Le vs ws/\o.1.g C ws st')/\∀ n,N<=n->u9 (K8 A n l b) j9 y9 k i st=some (st',rs):=by
 obtain ⟨s1,m1,g1⟩:∃ s',s' ∈ (match i.guard with|some (j,_)=>HJ s j|none=>[s])/\s'.g C vs st:=by
  split
  all_goals simp_all [ND,q6]
 obtain ⟨x,hx,hm⟩:=X2 h s1 m1;unfold VG at hx;split at hx
 .rename_i hw
  have hw:=DS g1 hw;obtain ⟨s2,m2,g2⟩:=XW g1 i.op;obtain ⟨y,hy,hm2⟩:=X2 hx s2 m2;obtain ⟨st',rs,N,⟨o,o1,o2,o3⟩,h3⟩:=aM0 fA g2 hw hy;exact ⟨st',rs,N,⟨o,hm _ (hm2 _ o1),o2,o3⟩,h3⟩
 .rename_i hw
  have hw:=DS g1 hw;split at hx
  .rename_i s' hs'
   cases hx;obtain ⟨st2,h4,h5⟩:=DQ (cz g1 k (v:= .tuple []) (a:= .tuple []) (by simp_all [SV.g,y8.g])) hs';exact ⟨st2,[],0,⟨_,hm _ (q6.2 rfl),rfl,vs,Le.refl _,h5⟩,fun n _=>by simp_all [u9]⟩
  .cases hx
 .cases hx
end
section
variable (A:Prog) (sem:Sem) (lim:F2) (entry:Nat) (j9:List p6)
def tN:List p6->Nat->SS->Option (List SS)
 |[],_,s=>some [s]
 |i::is,k,s=>match VF A sem lim entry j9 none k i s with
  |some outs=>iC (fun o=>tN is (k+1) o.1) outs
  |none=>none
def VE (s:SS):z6->Option Nat
 | .call f xs=>if A.prom f then some s.H.length else match yZ s.H,y8.X8 (xs.map (bJ s.T s.L)) with
  |some bs,some b0=>some (U7 bs lim.strict 8 b0)
  |_,_=>none
 | .an _ _=>none
 |_=>some 0
def Ou (s:SS):z6->Bool
 | .append _ _ _ x _=>match bJ s.T s.L x with
  | .d _=>false
  | .N7=>false
  |_=>true
 |_=>false
def Oo (s:SS)(op:z6)(a:p6):Bool:=match op,a.op with
 | .append _ _ _ x _,.Q3 (.slot t)=>a.dst.isNone&&a.guard.isNone&&(match bJ s.T s.L x,s.T[t]? with
  | .A8 id _ _ _,some (.ptr j _)=> !s7 j id
  |_,_=>false)
 |_,_=>false
def Jw:List p6->Nat->Nat->SS->Option (List (SS×List jj))
 |[],_,_,s=>some [(s,[])]
 |i::is,k,na,s=>if Ou s i.op&&j9.any (fun a=>a.aX.contains k&& !Oo s i.op a) then none else match VE A lim s i.op with
  |some FV=>match VF A sem lim entry j9 (if i.op.z7 then some na else none) k i s with
   |some outs=>iC (fun o=>match Jw is (k+1) (if i.op.z7 then na+1 else na) o.1 with
    |some rs=>some (rs.map fun r=>(r.1,⟨o.2,fD (if i.op.z7 then some na else none)++o.1.o7.take (o.1.o7.length - s.o7.length),FV,(if i.op.z7 then some na else none).getD 0⟩::r.2))
    |none=>none) outs
   |none=>none
  |none=>none
def yE (draw:Bool)(T:List SV)(H:List SO)(B:jg):Option (List SS) :=
 if draw then match Jw A sem lim entry j9 j9 0 H.length ⟨T,H++(j9.filter (·.op.z7)).map (fun _=> .dead),c9 j9.length .any,slotsOf j9,B⟩ with
  |some outs=>if outs.all (fun o=>qH j9 o.2) then some (outs.map (·.1)) else none
  |none=>none
 else tN A sem lim entry j9 j9 0 ⟨T,H,c9 j9.length .any,[],B⟩
end
section
variable {C:Ctx} {A:Prog} {sem:Sem} (fA:gO C A sem)
theorem EM {vs:List Nat}:∀ n,y8.g C vs (c9 n .any) (c9 n .any)
 |0=>by simp [y8.g]
 |n+1=>by exact ⟨_,_,rfl,rfl,EM n⟩
theorem Nv {vs:List Nat}:∀ l:List p6,K4.g C vs (l.map fun _=> .dead) (l.map fun _=> .dead)
 |[]=>by simp [K4.g]
 |_::l=>by exact ⟨_,_,rfl,rfl,Nv l⟩
include fA
theorem DN {l:F2}{b:Nat}{j9:List p6}:∀ (ops:List p6) (k:Nat) {vs:List Nat} {s:SS} {st:G4} {outs:List SS},s.g C vs st->tN A sem l b j9 ops k s=some outs ->
  ∃ r N,(∃ o,o ∈ outs/\∃ ws,Le vs ws/\o.g C ws r)/\∀ n,N<=n->eA (K8 A n l b) j9 ops k st=some r
 |[],k,vs,s,st,outs,hs,h=>by
  simp [tN,Option.some.injEq] at h;subst h;exact ⟨st,0,⟨s,q6.2 rfl,vs,Le.refl _,hs⟩,fun _ _=>rfl⟩
 |i::is,k,vs,s,st,outs,hs,h=>by
  simp [tN] at h;split at h
  .rename_i os hos
   obtain ⟨st',rs,N,⟨o,o1,o2,ws,l1,o3⟩,h1⟩:=Oy fA hs hos;obtain ⟨x,hx,hm⟩:=X2 h o o1;obtain ⟨r,N2,⟨o',p1,ws2,l2,p2⟩,h2⟩:=DN is (k+1) o3 hx;refine ⟨r,max N N2,⟨o',hm _ p1,ws2,l1.trans l2,p2⟩,fun n hn=> ?_⟩
   grind [eA]
  .cases h
omit fA in
def ZB {l:F2}{b n:Nat}{vs:List Nat}{s:SS}{st:G4}(hs:s.g C vs st){op:z6}{m:Nat}(h:VE A l s op=some m):L0 (K8 A n l b) st op=m:=by
 unfold VE at h;split at h
 .rename_i f xs
  have gj:(K8 A n l b).prom f=A.prom f:=rfl;have hlim:(K8 A n l b).lim=l:=rfl;split at h
  .rename_i hp
   cases h;simp [L0,gj,hp];exact K4.len hs.2.1
  .rename_i hp
   split at h
   .rename_i bs b0 QI hb0
    cases h;simp [L0,gj];rw [if_neg hp,hlim,uJ,EP QI hs.2.1,y8.cE hb0 (y8.an0 (SS.I5 hs) xs)]
   .cases h
 .cases h
 .cases h
  cases op<;>first
   |rfl
   |simp_all
   |simp_all
omit fA in
def Zt {vs:List Nat}{s:SS}{st:G4}(hs:s.g C vs st){op:z6}(h:¬ Ou s op=true):F1 st op=false:=by
 unfold Ou at h;split at h
 .rename_i sz bytes ob x y
  have hx:=SS.I5 hs x
  grind [aL,F1,SV.g,absurd]
 .cases op<;>first
   |rfl
   |grind
omit fA in
def Zn {vs:List Nat}{s:SS}{st:G4}(hs:s.g C vs st){op:z6}{a:p6}(h:Oo s op a=true):calm st op a=true:=by
 unfold Oo at h;unfold calm;split at h
 .rename_i sz Sw ob x y t ho
  simp only [c7] at h;simp only [ho,h.1.1,h.1.2,Bool.true_and];have h3:=h.2;split at h3
  .rename_i id z lo n j o e1 e2
   have hx:=SS.I5 hs x;rw [e1] at hx;simp only [SV.g] at hx;obtain ⟨v,g1,g2⟩:=y8.get hs.1 e2;rw [bu g2] at g1;simp only [hx,g1,h3]
  .cases h3
 .cases h
theorem Ox {l:F2}{b:Nat}{j9:List p6}:∀ (ops:List p6) (k na:Nat) {vs:List Nat} {s:SS} {st:G4} {outs:List (SS×List jj)},s.g C vs st->Jw A sem l b j9 ops k na s=some outs ->
  ∃ r lg N,(∃ o,o ∈ outs/\o.2=lg/\∃ ws,Le vs ws/\o.1.g C ws r)/\∀ n,N<=n->P6 (K8 A n l b) j9 ops k na st=some (r,lg)
 |[],k,na,vs,s,st,outs,hs,h=>by
  simp only [Jw,Option.some.injEq] at h;subst h;exact ⟨st,[],0,⟨_,q6.2 rfl,rfl,vs,Le.refl _,hs⟩,fun _ _=>rfl⟩
 |i::is,k,na,vs,s,st,outs,hs,h=>by
  simp only [Jw] at h;split at h
  .cases h
  .rename_i hk
   have hk:(F1 st i.op&&j9.any (fun a=>a.aX.contains k&& !calm st i.op a))=false:=by
    cases hu:Ou s i.op with
    |false=>rw [Zt hs (by simp [hu])];rfl
    |true =>
     rw [hu,Bool.true_and] at hk;have h0:(j9.any fun a=>a.aX.contains k&& !calm st i.op a)=false:=by
      rw [List.any_eq_false];intro a ha hc;simp only [c7,n5] at hc;refine hk (List.any_eq_true.2 ⟨a,ha,?_⟩);simp only [hc.1,Bool.true_and,n5];cases hs' :Oo s i.op a with
      |false=>rfl
      |true=>rw [Zn hs hs'] at hc;cases hc.2
     rw [h0,Bool.and_false]
   split at h
   .rename_i FV Xp
    split at h
    .rename_i os hos
     obtain ⟨st',rs,N,⟨o,o1,o2,ws,l1,o3⟩,h1⟩:=Oy fA hs hos;obtain ⟨x,hx,hm⟩:=X2 h o o1;split at hx
     .rename_i rr hrr
      cases hx;obtain ⟨r,lg,N2,⟨o',p1,p2,ws2,l2,p3⟩,h2⟩:=Ox is (k+1) _ o3 hrr;refine ⟨r,_,max N N2,⟨_,hm _ (F5.2 ⟨o',p1,rfl⟩),rfl,ws2,l1.trans l2,p3⟩,fun n hn=> ?_⟩;have hg3:=o3.2.2.2.1;simp only [P6,iY,hk,j3,if_false,h1 n (by omega),h2 n (by omega),cK,ZB hs Xp,o2,p2,hg3,hs.2.2.2.1]
     .cases hx
    .cases h
   .cases h
def DM {l:F2}{b:Nat}{j9:List p6}{draw:Bool}{vs:List Nat}{T:List SV}{H:List SO}{B:jg}{T' :List c8}{H' :o9}{outs:List SS}(hT:y8.g C vs T T')(hH:K4.g C vs H H')(hB:Bg vs B)(h:yE A sem l b j9 draw T H B=some outs) :
  Rn A l b j9 draw T' H' fun T2 H2 L2=>∃ o,o ∈ outs/\∃ ws,Le vs ws/\y8.g C ws o.T T2/\K4.g C ws o.H H2/\y8.g C ws o.L L2/\Bg ws o.B:=by
 unfold yE at h;split at h
 .split at h
  .rename_i os hos
   split at h
   .cases h
    have hlen:=K4.len hH;obtain ⟨r,lg,N,⟨o,o1,o2,ws,l1,o3⟩,h1⟩:=Ox fA j9 0 H.length (st:=⟨T',H' ++Y9 j9,c9 j9.length .any,slotsOf j9⟩) ⟨hT,K4.app hH (Nv _),EM _,rfl,hB⟩ hos;refine ⟨r,N,⟨o.1,F5.2 ⟨o,o1,rfl⟩,ws,l1,o3.1,o3.2.1,o3.2.2.1,o3.2.2.2.2⟩,fun n hn=> ?_⟩
    grind [Q4]
   .cases h
  .cases h
 .obtain ⟨r,N,⟨o,o1,ws,l1,o3⟩,h1⟩:=DN fA j9 0 (st:=⟨T',H',c9 j9.length .any,[]⟩) ⟨hT,hH,EM _,rfl,hB⟩ h
  refine ⟨r,N,⟨o,o1,ws,l1,o3.1,o3.2.1,o3.2.2.1,o3.2.2.2.2⟩,fun n hn=> ?_⟩;simp_all [Q4,if_neg]
end
structure CS where
 T:List SV
 H:List SO
 B:jg
def CS.g (C:Ctx)(vs:List Nat)(s:CS)(st:St):Prop:=y8.g C vs s.T st.T/\K4.g C vs s.H st.H/\Bg vs s.B
def VP:Option Nat->Option Nat->Option Nat
 |some i,some j=>if s7 i j then some i else none
 |_,_=>none
def JE:Option Nat->Option Nat->Bool
 |some i,some j=>s7 i j
 |none,none=>true
 |_,_=>false
def SD.mark:SD->Option Nat
 | .pr k _=>some k
 |_=>none
mutual
def SV.join:SV->SV->Option SV
 | .any,y=>match y with
  | .any=>some .any
  |_=>some .top
 | .top,_=>some .top
 | .d x,y=>match y with
  | .d y=>if JE x.mark y.mark then some (.d (x.join y)) else none
  | .own _ y=>some (.q (x.join y))
  | .q y=>some (.q (x.join y))
  | .any=>some .top
  | .top=>some .top
  |_=>none
 | .own z x,y=>match y with
  | .own z' y=>if s7 z z' then some (.own z (x.join y)) else none
  | .d y=>some (.q (x.join y))
  | .q y=>some (.q (x.join y))
  | .any=>some .top
  | .top=>some .top
  |_=>none
 | .q x,y=>match y with
  | .own _ y=>some (.q (x.join y))
  | .d y=>some (.q (x.join y))
  | .q y=>some (.q (x.join y))
  | .any=>some .top
  | .top=>some .top
  |_=>none
 | .N7,y=>match y with
  | .N7=>some .N7
  | .any=>some .top
  | .top=>some .top
  |_=>none
 | .ptr i o,y=>match y with
  | .ptr i' o' =>if s7 i i' &&s7 o o' then some (.ptr i o) else none
  | .any=>some .top
  | .top=>some .top
  |_=>none
 | .S7 _,_=>some .top
 | .wp i l z c,y=>match y with
  | .wp i' l' z' c' =>if s7 i i' &&s7 l l' &&s7 z z' &&s7 c c' then some (.wp i l z c) else none
  | .any=>some .top
  | .top=>some .top
  |_=>none
 | .A8 i z l n,y=>match y with
  | .A8 i' z' l' n' =>if s7 i i' &&s7 z z' &&s7 l l' &&s7 n n' then some (.A8 i z l n) else none
  | .any=>some .top
  | .top=>some .top
  |_=>none
 | .agg p l,y=>match y with
  | .agg p' l' =>match y8.join l l' with
   |some r=>some (.agg (VP p p') r)
   |none=>none
  | .any=>some .top
  | .top=>some .top
  |_=>none
 | .tuple l,y=>match y with
  | .tuple l' =>match y8.join l l' with
   |some r=>some (.tuple r)
   |none=>none
  | .any=>some .top
  | .top=>some .top
  |_=>none
 | .bn k,y=>match y with
  | .bn k' =>if s7 k k' then some (.bn k) else none
  | .any=>some .top
  | .top=>some .top
  |_=>none
def y8.join:List SV->List SV->Option (List SV)
 |[],ys=>match ys with
  |[]=>some []
  |_=>none
 |x::xs,ys=>match ys with
  |y::ys=>match x.join y,y8.join xs ys with
   |some a,some r=>some (a::r)
   |_,_=>none
  |[]=>none
end
def SO.join:SO->SO->Option SO
 | .dead,.dead=>some .dead
 | .cells p l,.cells p' l' =>if JE p p' then match y8.join l l' with
   |some r=>some (.cells p r)
   |none=>none
  else none
 | .pr k,.pr k' =>if s7 k k' then some (.pr k) else none
 | .bn k,.bn k' =>if s7 k k' then some (.bn k) else none
 | .Rl k b,.Rl k' b' =>if s7 k k' &&s7 b b' then some (.Rl k b) else none
 |_,_=>none
def K4.join:List SO->List SO->Option (List SO)
 |[],[]=>some []
 |x::xs,y::ys=>match x.join y,K4.join xs ys with
  |some a,some r=>some (a::r)
  |_,_=>none
 |_,_=>none
def LZ (a b:Nat×Nat):Nat×Nat:=(min a.1 b.1,max a.2 b.2)
def Sj (B1 B2:jg):Option jg:=if (B1.drop B2.length++B2.drop B1.length).all (fun p=>E3 p.1 p.2) then some (List.zipWith LZ B1 B2++(B1.drop B2.length++B2.drop B1.length)) else none
def iV (kp:List Nat)(s t:CS):Bool:=kp.all fun j=>match s.T[j]?,t.T[j]? with
 |some (.d (.lit (.int _ a))),some (.d (.lit (.int _ b)))=>decide (a=b)
 |_,_=>true
def CS.join (kp:List Nat)(s t:CS):Option CS:=if iV kp s t then match y8.join s.T t.T,K4.join s.H t.H,Sj s.B t.B with
 |some T,some H,some B=>some ⟨T,H,B⟩
 |_,_,_=>none
 else none
def TS (kp:List Nat)(s:CS):List CS->List CS
 |[]=>[s]
 |t::r=>match CS.join kp t s with
  |some u=>u::r
  |none=>t::TS kp s r
def oh (kp:List Nat):List CS->List CS
 |[]=>[]
 |s::r=>TS kp s (oh kp r)
section
variable {C:Ctx} {vs:List Nat}
def FM {x:SV}{v:c8}(h:x.g C vs v){y:SD}(hx:x.data? =some y:=by rfl):∃ d,v.J2= .d d/\y.g C vs d:=by
 cases x<;>simp [SV.data?,reduceCtorEq,Option.some.injEq] at hx<;>subst hx<;>simp [SV.g] at h
 .obtain ⟨d,rfl,h2⟩:=h;exact ⟨d,rfl,h2⟩
 .obtain ⟨a,b,rfl,h2⟩:=h;exact ⟨_,rfl,h2⟩
 .subst h;exact ⟨_,rfl,by simp [SD.g]⟩
 .exact h
def FL {x:SD}{v:c8}{d:Data}(h0:v.J2= .d d)(h:x.g C vs d):(SV.q x).g C vs v:=by simp_all [SV.g]
def at6 {p q:Option Nat}{k:Nat}(h:VP p q=some k):p=some k:=by
 simp_all [VP]<;>grind
def at7 {p q:Option Nat}{k:Nat}(h:VP p q=some k):q=some k:=by
 simp_all [VP]<;>grind
theorem JF {p q:Option Nat}(h:JE p q=true):p=q:=by
 unfold JE at h
 grind [j4]
mutual
theorem SV.T4:∀ (x y:SV) {z:SV} {v:c8},x.join y=some z->x.g C vs v->z.g C vs v
 | .any,y,z,_,h,hg=>by
  cases y<;>simp only [SV.join,Option.some.injEq] at h<;>subst h<;>first|exact hg|simp [SV.g]
 | .top,y,z,_,h,hg=>by simp only [SV.join,Option.some.injEq] at h;subst h;exact hg
 | .d x,y,z,_,h,hg=>by
  cases y<;>simp only [SV.join,Option.some.injEq,reduceCtorEq] at h<;>(try split at h)<;>first
   |(cases h;simp [SV.g];done)
   |(cases h;obtain ⟨d,rfl,h1⟩:=aL hg;exact bE (SD.T4 _ _ h1))
   |(cases h;obtain ⟨d,h0,h1⟩:=FM hg;exact FL h0 (SD.T4 _ _ h1))
   |(cases h;done)
 | .q x,y,z,_,h,hg=>by
  cases y<;>simp only [SV.join,Option.some.injEq,reduceCtorEq] at h<;>subst h<;>first
   |(simp [SV.g];done)
   |(obtain ⟨d,h0,h1⟩:=FM hg;exact FL h0 (SD.T4 _ _ h1))
 | .own w x,y,z,_,h,hg=>by
  cases y<;>simp only [SV.join,Option.some.injEq,reduceCtorEq] at h
  .subst h;simp [SV.g]
  .subst h;simp [SV.g]
  .subst h;obtain ⟨d,h0,h1⟩:=FM hg;exact FL h0 (SD.T4 _ _ h1)
  .split at h
   .cases h
    obtain ⟨len,cells,rfl,h1⟩:=rO hg;simp only [SV.g];exact ⟨_,_,rfl,SD.T4 _ _ h1⟩
   .cases h
  .subst h;obtain ⟨d,h0,h1⟩:=FM hg;exact FL h0 (SD.T4 _ _ h1)
 | .N7,y,z,_,h,hg=>by
  cases y<;>simp only [SV.join,Option.some.injEq,reduceCtorEq] at h<;>subst h<;>first|exact hg|simp [SV.g]
 | .ptr i o,y,z,_,h,hg=>by
  cases y<;>simp only [SV.join,Option.some.injEq,reduceCtorEq] at h
  .subst h;simp [SV.g]
  .subst h;simp [SV.g]
  .split at h
   .cases h;exact hg
   .cases h
 | .wp i l w c,y,z,_,h,hg=>by
  cases y<;>simp only [SV.join,Option.some.injEq,reduceCtorEq] at h
  .subst h;simp [SV.g]
  .subst h;simp [SV.g]
  .split at h
   .cases h;exact hg
   .cases h
 | .S7 _,y,z,_,h,hg=>by simp only [SV.join,Option.some.injEq] at h;subst h;simp [SV.g]
 | .A8 i w l n,y,z,_,h,hg=>by
  cases y<;>simp only [SV.join,Option.some.injEq,reduceCtorEq] at h
  .subst h;simp [SV.g]
  .subst h;simp [SV.g]
  .split at h
   .cases h;exact hg
   .cases h
 | .agg p l,y,z,_,h,hg=>by
  cases y<;>simp only [SV.join,Option.some.injEq,reduceCtorEq] at h
  .subst h;simp [SV.g]
  .subst h;simp [SV.g]
  .split at h
   .rename_i r hr
    cases h;simp only [SV.g] at hg ⊢;obtain ⟨cs,rfl,h1,h2⟩:=hg;exact ⟨cs,rfl,y8.T4 _ _ hr h1,fun k hk=>h2 k (at6 hk)⟩
   .cases h
 | .tuple l,y,z,_,h,hg=>by
  cases y<;>simp only [SV.join,Option.some.injEq,reduceCtorEq] at h
  .subst h;simp [SV.g]
  .subst h;simp [SV.g]
  .split at h
   .rename_i r hr
    cases h;simp only [SV.g] at hg ⊢;obtain ⟨cs,rfl,h1⟩:=hg;exact ⟨cs,rfl,y8.T4 _ _ hr h1⟩
   .cases h
 | .bn k,y,z,_,h,hg=>by
  cases y<;>simp only [SV.join,Option.some.injEq,reduceCtorEq] at h
  .subst h;simp [SV.g]
  .subst h;simp [SV.g]
  .split at h
   .rename_i e
    have e:=j4 e;subst e;cases h;exact hg
   .cases h
theorem y8.T4:∀ (x y:List SV) {z:List SV} {v:List c8},y8.join x y=some z->y8.g C vs x v->y8.g C vs z v
 |[],y,z,_,h,hg=>by cases y<;>simp only [y8.join,Option.some.injEq,reduceCtorEq] at h;subst h;exact hg
 |x::xs,y,z,_,h,hg=>by
  cases y<;>simp only [y8.join,reduceCtorEq] at h;split at h
  .rename_i a r ha hr
   cases h;simp only [y8.g] at hg ⊢;obtain ⟨d,ds,rfl,h1,h2⟩:=hg;exact ⟨d,ds,rfl,SV.T4 _ _ ha h1,y8.T4 _ _ hr h2⟩
  .cases h
end
mutual
theorem SV.T5:∀ (x y:SV) {z:SV} {v:c8},x.join y=some z->y.g C vs v->z.g C vs v
 | .any,y,z,_,h,hg=>by
  cases y<;>simp only [SV.join,Option.some.injEq] at h<;>subst h<;>first|exact hg|simp [SV.g]
 | .top,y,z,_,h,hg=>by simp only [SV.join,Option.some.injEq] at h;subst h;simp [SV.g]
 | .d x,y,z,_,h,hg=>by
  cases y<;>simp only [SV.join,Option.some.injEq,reduceCtorEq] at h<;>(try split at h)<;>first
   |(cases h;simp [SV.g];done)
   |(cases h;obtain ⟨d,rfl,h1⟩:=aL hg;exact bE (SD.T5 _ _ h1))
   |(cases h;obtain ⟨d,h0,h1⟩:=FM hg;exact FL h0 (SD.T5 _ _ h1))
   |(cases h;done)
 | .q x,y,z,_,h,hg=>by
  cases y<;>simp only [SV.join,Option.some.injEq,reduceCtorEq] at h<;>subst h<;>first
   |(simp [SV.g];done)
   |(obtain ⟨d,h0,h1⟩:=FM hg;exact FL h0 (SD.T5 _ _ h1))
 | .own w x,y,z,_,h,hg=>by
  cases y<;>simp only [SV.join,Option.some.injEq,reduceCtorEq] at h
  .subst h;simp [SV.g]
  .subst h;simp [SV.g]
  .subst h;obtain ⟨d,h0,h1⟩:=FM hg;exact FL h0 (SD.T5 _ _ h1)
  .split at h
   .rename_i e
    have e:=j4 e;subst e;cases h;obtain ⟨len,cells,rfl,h1⟩:=rO hg;simp only [SV.g];exact ⟨_,_,rfl,SD.T5 _ _ h1⟩
   .cases h
  .subst h;obtain ⟨d,h0,h1⟩:=FM hg;exact FL h0 (SD.T5 _ _ h1)
 | .N7,y,z,_,h,hg=>by
  cases y<;>simp only [SV.join,Option.some.injEq,reduceCtorEq] at h<;>subst h<;>first|exact hg|simp [SV.g]
 | .ptr i o,y,z,_,h,hg=>by
  cases y<;>simp only [SV.join,Option.some.injEq,reduceCtorEq] at h
  .subst h;simp [SV.g]
  .subst h;simp [SV.g]
  .split at h
   .rename_i e
    simp only [c7] at e;have e1:=j4 e.1;have e2:=j4 e.2;subst e1 e2;cases h;exact hg
   .cases h
 | .wp i l w c,y,z,_,h,hg=>by
  cases y<;>simp only [SV.join,Option.some.injEq,reduceCtorEq] at h
  .subst h;simp [SV.g]
  .subst h;simp [SV.g]
  .split at h
   .rename_i e
    simp only [c7] at e;have e1:=j4 e.1.1.1;have e2:=j4 e.1.1.2;have e3:=j4 e.1.2;have e4:=j4 e.2;subst e1 e2 e3 e4;cases h;exact hg
   .cases h
 | .S7 _,y,z,_,h,hg=>by simp only [SV.join,Option.some.injEq] at h;subst h;simp [SV.g]
 | .A8 i w l n,y,z,_,h,hg=>by
  cases y<;>simp only [SV.join,Option.some.injEq,reduceCtorEq] at h
  .subst h;simp [SV.g]
  .subst h;simp [SV.g]
  .split at h
   .rename_i e
    simp only [c7] at e;have e1:=j4 e.1.1.1;have e2:=j4 e.1.1.2;have e3:=j4 e.1.2;have e4:=j4 e.2;subst e1 e2 e3 e4;cases h;exact hg
   .cases h
 | .agg p l,y,z,_,h,hg=>by
  cases y<;>simp only [SV.join,Option.some.injEq,reduceCtorEq] at h
  .subst h;simp [SV.g]
  .subst h;simp [SV.g]
  .split at h
   .rename_i r hr
    cases h;simp only [SV.g] at hg ⊢;obtain ⟨cs,rfl,h1,h2⟩:=hg;exact ⟨cs,rfl,y8.T5 _ _ hr h1,fun k hk=>h2 k (at7 hk)⟩
   .cases h
 | .tuple l,y,z,_,h,hg=>by
  cases y<;>simp only [SV.join,Option.some.injEq,reduceCtorEq] at h
  .subst h;simp [SV.g]
  .subst h;simp [SV.g]
  .split at h
   .rename_i r hr
    cases h;simp only [SV.g] at hg ⊢;obtain ⟨cs,rfl,h1⟩:=hg;exact ⟨cs,rfl,y8.T5 _ _ hr h1⟩
   .cases h
 | .bn k,y,z,_,h,hg=>by
  cases y<;>simp only [SV.join,Option.some.injEq,reduceCtorEq] at h
  .subst h;simp [SV.g]
  .subst h;simp [SV.g]
  .split at h
   .rename_i e
    have e:=j4 e;subst e;cases h;exact hg
   .cases h
theorem y8.T5:∀ (x y:List SV) {z:List SV} {v:List c8},y8.join x y=some z->y8.g C vs y v->y8.g C vs z v
 |[],y,z,_,h,hg=>by cases y<;>simp only [y8.join,Option.some.injEq,reduceCtorEq] at h;subst h;exact hg
 |x::xs,y,z,_,h,hg=>by
  cases y<;>simp only [y8.join,reduceCtorEq] at h;split at h
  .rename_i a r ha hr
   cases h;simp only [y8.g] at hg ⊢;obtain ⟨d,ds,rfl,h1,h2⟩:=hg;exact ⟨d,ds,rfl,SV.T5 _ _ ha h1,y8.T5 _ _ hr h2⟩
  .cases h
end
def SO.jS {x y z:SO}{o:u0}(h:x.join y=some z):(x.g C vs o->z.g C vs o)/\(y.g C vs o->z.g C vs o):=by
 cases x<;>cases y<;>simp only [SO.join,Option.some.injEq,reduceCtorEq] at h
 .subst h;exact ⟨id,id⟩
 .split at h
  .rename_i hp
   have hp:=JF hp;subst hp;split at h
   .rename_i r hr
    cases h;exact ⟨fun ⟨cs,h1,h2,h3⟩=>⟨cs,h1,y8.T4 _ _ hr h2,h3⟩,fun ⟨cs,h1,h2,h3⟩=>⟨cs,h1,y8.T5 _ _ hr h2,h3⟩⟩
   .cases h
  .cases h
 .split at h
  .rename_i e
   have e:=j4 e;subst e;cases h;exact ⟨id,id⟩
  .cases h
 .split at h
  .rename_i e
   have e:=j4 e;subst e;cases h;exact ⟨id,id⟩
  .cases h
 .split at h
  .rename_i e
   simp only [c7] at e;have e1:=j4 e.1;have e2:=j4 e.2;subst e1 e2;cases h;exact ⟨id,id⟩
  .cases h
theorem K4.jS:∀ {x y z:List SO} {o:o9},K4.join x y=some z->(K4.g C vs x o->K4.g C vs z o)/\(K4.g C vs y o->K4.g C vs z o)
 |[],[],z,o,h=>by simp_all [K4.join,Option.some.injEq]
 |[],_::_,z,o,h=>by simp [K4.join] at h
 |_::_,[],z,o,h=>by simp [K4.join] at h
 |x::xs,y::ys,z,o,h=>by
  simp [K4.join] at h;split at h
  .rename_i a r ha hr
   cases h;refine ⟨fun hg=> ?_,fun hg=> ?_⟩
   .obtain ⟨d,ds,rfl,h1,h2⟩:=hg
    exact ⟨d,ds,rfl,(SO.jS ha).1 h1,(K4.jS hr).1 h2⟩
   .obtain ⟨d,ds,rfl,h1,h2⟩:=hg
    exact ⟨d,ds,rfl,(SO.jS ha).2 h1,(K4.jS hr).2 h2⟩
  .cases h
theorem Bg.ah6:∀ (R:jg) {vs:List Nat} {B:jg},Bg vs B->R.all (fun p=>E3 p.1 p.2)=true->∃ ws,Le vs ws/\Bg ws (B++R)
 |[],vs,B,h,_=>⟨vs,Le.refl _,by simpa using h⟩
 |p::R,vs,B,h,hr=>by
  simp only [List.all_cons,c7,Nat.ble_eq] at hr;obtain ⟨ws,h1,h2⟩:=Bg.ah6 R (h.add (p:=p) (m:=p.1) (o5 _) hr.1) hr.2;exact ⟨ws,(Le.app _ _).trans h1,by simp_all⟩
def ZO {B1 B2:jg}{i lo hi:Nat}(h:(List.zipWith LZ B1 B2)[i]? =some (lo,hi)):∃ a b,B1[i]? =some a/\B2[i]? =some b/\lo=min a.1 b.1/\hi=max a.2 b.2:=by
 grind [Option.some.injEq,LZ,Prod.mk.injEq]
theorem Bg.aN9 {B1 B2:jg}(hB:Bg vs B1):Bg vs (List.zipWith LZ B1 B2++B1.drop B2.length):=by
 refine ⟨by simp [hB.1];omega,fun i lo hi h=> ?_⟩
 rcases y4 i (List.zipWith LZ B1 B2).length with hl|hl
 .rw [A7 hl] at h
  obtain ⟨a,b,h1,h2,h3,h4⟩:=ZO h;obtain ⟨m,e1,e2,e3⟩:=hB.2 i a.1 a.2 h1
  grind
 .rw [s5 hl,List.getElem?_drop] at h
  simp [List.length_zipWith] at h hl
  rcases Nat.le_total B1.length B2.length with hc|hc
  .grind
  .rw [show B2.length+(i - min B1.length B2.length)=i by omega] at h
   exact hB.2 _ _ _ h
def Bg.aO0 {B1 B2:jg}(hB:Bg vs B2):Bg vs (List.zipWith LZ B1 B2++B2.drop B1.length):=by
 grind [Bg.aN9,List.zipWith,LZ,List.zipWith_comm,Nat.min_comm,Nat.max_comm]
def Nj {B1 B2 B:jg}(h:Sj B1 B2=some B):(Bg vs B1->∃ ws,Le vs ws/\Bg ws B)/\(Bg vs B2->∃ ws,Le vs ws/\Bg ws B):=by
 unfold Sj at h;split at h
 .rename_i hall
  cases h;rw [List.all_append,c7] at hall;refine ⟨fun hB=> ?_,fun hB=> ?_⟩
  .rw [<- E8]
   exact Bg.ah6 _ hB.aN9 hall.2
  .rcases Nat.le_total B1.length B2.length with hc|hc
   .rw [show B1.drop B2.length=[] from l5 hc,D8]
    exact ⟨vs,Le.refl _,hB.aO0⟩
   .have h2:B2.drop B1.length=[]:=l5 hc
    have:=hB.aO0 (B1:=B1)
    grind [Bg.ah6]
 .cases h
theorem CS.jS {kp:List Nat}{s t u:CS}{st:St}(h:CS.join kp s t=some u):(s.g C vs st->∃ ws,Le vs ws/\u.g C ws st)/\(t.g C vs st->∃ ws,Le vs ws/\u.g C ws st):=by
 unfold CS.join at h;split at h
 .split at h
  .rename_i T H B hT hH hB
   cases h;refine ⟨fun ⟨h1,h2,h3⟩=> ?_,fun ⟨h1,h2,h3⟩=> ?_⟩
   .obtain ⟨ws,l1,h4⟩:=(Nj hB).1 h3
    exact ⟨ws,l1,y8.P7 l1 _ (y8.T4 _ _ hT h1),K4.P7 l1 _ ((K4.jS hH).1 h2),h4⟩
   .obtain ⟨ws,l1,h4⟩:=(Nj hB).2 h3
    exact ⟨ws,l1,y8.P7 l1 _ (y8.T5 _ _ hT h1),K4.P7 l1 _ ((K4.jS hH).2 h2),h4⟩
  .cases h
 .cases h
theorem Me {kp:List Nat}{st:St}:∀ (s:CS) (l:List CS),(s.g C vs st->∃ t,t ∈ TS kp s l/\∃ ws,Le vs ws/\t.g C ws st)/\∀ t,t ∈ l->t.g C vs st->∃ u,u ∈ TS kp s l/\∃ ws,Le vs ws/\u.g C ws st
 |s,[]=>⟨fun h=>⟨s,q6.2 rfl,vs,Le.refl _,h⟩,fun t h=>by cases h⟩
 |s,q::r=>by
  simp only [TS];split
  .rename_i u hu
   refine ⟨fun h=> ?_,fun t ht h=> ?_⟩
   .obtain ⟨ws,l1,h1⟩:=(CS.jS hu).2 h
    grind
   .rcases B4.1 ht with rfl|ht
    .obtain ⟨ws,l1,h1⟩:=(CS.jS hu).1 h
     grind
    grind [List.mem_cons_of_mem,Le.refl]
  .obtain ⟨h1,h2⟩:=Me s r
   refine ⟨fun h=> ?_,fun t ht h=> ?_⟩
   .obtain ⟨t,m,h3⟩:=h1 h
    exact ⟨t,List.mem_cons_of_mem _ m,h3⟩
   grind [List.mem_cons_self,Le.refl,List.mem_cons_of_mem]
theorem om {kp:List Nat}{st:St}:∀ (l:List CS) {vs:List Nat} {s:CS},s ∈ l->s.g C vs st->∃ t,t ∈ oh kp l/\∃ ws,Le vs ws/\t.g C ws st
 |q::r,vs,s,hm,h=>by
  rcases B4.1 hm with rfl|hm
  .simp_all [Me,oh]
  .obtain ⟨t,m,ws,l1,h1⟩:=om r hm h
   obtain ⟨u,m2,ws2,l2,h2⟩:=(Me q (oh kp r)).2 t m h1;exact ⟨u,m2,ws2,l1.trans l2,h2⟩
end
def xh:List Bool->List SV->List SV
 |true::m,v::vs=>v::xh m vs
 |false::m,_::vs=> .any::xh m vs
 |[],_::vs=> .any::xh [] vs
 |_,[]=>[]
def MG (mask:List Bool)(strict n:Nat)(s:CS):Option CS:=match y8.X8 (xh mask s.T),yZ s.H with
 |some a,some bs=>if E3 a n&&E3 (yW ((bs.take n).drop strict)) n then some ⟨xh mask s.T,s.H.take n,s.B⟩ else some ⟨xh mask s.T,s.H,s.B⟩
 |_,_=>none
def AZ:List SV->Nat->Option (Nat×Nat×Nat×Nat×Nat)
 |[],_=>none
 | .A8 id sz lo len::_,i=>some (i,id,sz,lo,len)
 | .top::_,_=>none
 | .bn _::_,_=>none
 |_::r,i=>AZ r (i+1)
def sfz (lim:F2)(entry t:Nat)(s:CS):Option CS:=match s.T[t]? with
 |some (.ptr b o)=>if s7 o 0 then match s.H[b]? with
  |some (.cells _ cs)=>match AZ cs 0 with
   |some (i,id,sz,lo,len)=>match ZA s.H id lo (len * sz) with
    |some l=>match jF l with
     |some xs=>if E3 lim.base id&&E3 entry id&&lim.may id&&E3 lim.base b&& !(s7 id b)&&s7 xs.length (len * sz) then
       some ⟨y8.kill id s.T,((s.H.take lim.base++(s.H.drop lim.base).map (SO.kill id)).set id .dead).set b (.cells none ((y8.kill id cs).set i (.d (mkSlice sz len xs)))),s.B⟩
      else none
     |none=>none
    |none=>none
   |none=>none
  |_=>none
  else none
 |_=>none
abbrev Lo:=List p6->Bool->y6->CS->Option (List CS×List CS)
def Ay:List (F7×CS)->List CS
 |[]=>[]
 |(.normal,s)::r=>s::Ay r
 |_::r=>Ay r
def zM:List (F7×CS)->List (F7×CS)
 |[]=>[]
 |(.normal,_)::r=>zM r
 |x::r=>x::zM r
def unB (id:Nat):List (F7×CS)->List (F7×CS)
 |[]=>[]
 |(.exit i,s)::r=>(if s7 i id then .normal else .exit i,s)::unB id r
 |x::r=>x::unB id r
def Jt (kp:List Nat)(body:CS->Option (List (F7×CS)))(mask:List Bool)(strict n:Nat):Nat->List CS->Option (List (F7×CS))
 |0,l=>if l.isEmpty then some [] else none
 |k+1,l=>if l.isEmpty then some [] else
  match iC (fun s=>match MG mask strict n s with
   |some s' =>body s'
   |none=>none) l with
  |some outs=>match Jt kp body mask strict n k (oh kp (Ay outs)) with
   |some r=>some (zM outs++r)
   |none=>none
  |none=>none
def branch (v:SV)(s:CS):Option (List CS×List CS):=match v with
 | .d x=>match x.bool? with
  |some (.t b)=>some (if b then ([s],[]) else ([],[s]))
  |some (.u c)=>some (match tC s.B c true with|some B' =>[{ s with B:=B' }]|none=>[],match tC s.B c false with|some B' =>[{ s with B:=B' }]|none=>[])
  |none=>none
 |_=>none
def sx:List SS->y6->Option (List CS×List CS)
 |[],_=>some ([],[])
 |o::r,c=>match branch (bJ o.T o.L c) ⟨o.T,o.H,o.B⟩,sx r c with
  |some (p,q),some (p',q')=>some (p++p',q++q')
  |_,_=>none
section
variable (A:Prog) (sem:Sem) (hook:Lo) (kp:List Nat) (lim:F2) (entry fuel:Nat)
def bX:q9->CS->Option (List (F7×CS))
 | .skip,s=>some [(.normal,s)]
 | .region ops draw,s=>match yE A sem lim entry ops draw s.T s.H s.B with
  |some outs=>some (outs.map fun o=>(.normal,⟨o.T,o.H,o.B⟩))
  |none=>none
 | .seq a b,s=>match bX a s with
  |some outs=>match iC (bX b) (oh kp (Ay outs)) with
   |some r=>some (zM outs++r)
   |none=>none
  |none=>none
 | .cond c a b,s=>match branch (bJ s.T [] c) s with
  |some (p,q)=>match iC (bX a) p,iC (bX b) q with
   |some x,some y=>some (x++y)
   |_,_=>none
  |none=>none
 | .test ops draw c a b,s=>match (match hook ops draw c s with
   |some pq=>some pq
   |none=>match yE A sem lim entry ops draw s.T s.H s.B with
    |some outs=>sx outs c
    |none=>none) with
  |some (p,q)=>match iC (bX a) (oh kp p),iC (bX b) (oh kp q) with
   |some x,some y=>some (x++y)
   |_,_=>none
  |none=>none
 | .block id body,s=>match bX body s with
  |some outs=>some (unB id outs)
  |none=>none
 | .loop mask body,s=>Jt kp (bX body) mask lim.strict s.H.length fuel [s]
 | .exit id,s=>some [(.exit id,s)]
 | .ret,s=>some [(.ret,s)]
 | .fz t,s=>match sfz lim entry t s with
  |some s' =>some [(.normal,s')]
  |none=>none
 | .bad,_=>none
end
def Xy (A:Prog)(l:F2)(b:Nat)(mask:List Bool)(body:q9)(n0:Nat)(st:St)(Q:F7->St->Prop):Prop :=
 ∃ x s N,Q x s/\∀ n,N<=n->∀ j,N<=j->gl (exec (K8 A n l b) n body) mask l.strict n0 j st=some (x,s)
section
variable {A:Prog} {l:F2} {b:Nat}
def Xy.step {mask:List Bool}{body:q9}{n0:Nat}{st:St}{Q:F7->St->Prop}(h:Ex A l b body (clean mask l.strict n0 st) (zV Q fun s' =>Xy A l b mask body n0 s' Q)):Xy A l b mask body n0 st Q:=by
 obtain ⟨x,s1,N,hq,h1⟩:=h;cases x with
 |normal =>
  obtain ⟨x,s2,N2,hq2,h2⟩:=hq;refine ⟨x,s2,max N N2+1,hq2,fun n hn j hj=> ?_⟩;obtain ⟨j,rfl⟩:∃ j',j=j' +1:=⟨j - 1,by omega⟩
  grind [gl]
 |exit i =>
  refine ⟨_,_,N+1,hq,fun n hn j hj=> ?_⟩;obtain ⟨j,rfl⟩:∃ j',j=j' +1:=⟨j - 1,by omega⟩
  grind [gl]
 |ret =>
  refine ⟨_,_,N+1,hq,fun n hn j hj=> ?_⟩;obtain ⟨j,rfl⟩:∃ j',j=j' +1:=⟨j - 1,by omega⟩
  grind [gl]
def Ex.ofL {mask:List Bool}{body:q9}{st:St}{Q:F7->St->Prop}(h:Xy A l b mask body st.H.length st Q):Ex A l b (.loop mask body) st Q:=by
 obtain ⟨x,s,N,hq,h⟩:=h;exact ⟨x,s,N,hq,fun n hn=>by exact h n hn n hn⟩
theorem Xy.mono {mask:List Bool}{body:q9}{n0:Nat}{st:St}{Q R:F7->St->Prop}(h:Xy A l b mask body n0 st Q)(k:∀ x s,Q x s->R x s):Xy A l b mask body n0 st R:=by
 obtain ⟨x,s,N,hq,h⟩:=h;exact ⟨x,s,N,k x s hq,h⟩
def EG (C:Ctx)(A:Prog)(l:F2)(b:Nat)(hook:Lo):Prop:=∀ ops dr c s p q,hook ops dr c s=some (p,q)->∀ vs T H,CS.g C vs s ⟨T,H⟩ ->
 Rn A l b ops dr T H fun T' H' L=>∃ t,I5 T' L c= .d (.bool t)/\∃ o,o ∈ (if t then p else q)/\∃ ws,Le vs ws/\o.g C ws ⟨T',H'⟩
variable {C:Ctx}
def Post (C:Ctx)(vs:List Nat)(outs:List (F7×CS))(x:F7)(st:St):Prop:=∃ o,o ∈ outs/\o.1=x/\∃ ws,Le vs ws/\o.2.g C ws st
def Post.sub {vs ws:List Nat}{o1 o2:List (F7×CS)}{x:F7}{st:St}(h:Post C ws o1 x st)(hl:Le vs ws)(hs:∀ o,o ∈ o1->o ∈ o2):Post C vs o2 x st:=by
 obtain ⟨o,h1,h2,us,l1,h3⟩:=h;exact ⟨o,hs o h1,h2,us,hl.trans l1,h3⟩
theorem vh:∀ {l:List (F7×CS)} {o:F7×CS},o ∈ l->o.1= .normal->o.2 ∈ Ay l
 |(e,s)::r,o,hm,h=>by
  rcases B4.1 hm with rfl|hm
  .simp_all [Ay]
  .have:=vh hm h
   cases e<;>simp [Ay,this]
theorem kE:∀ {l:List (F7×CS)} {o:F7×CS},o ∈ l->o.1≠ .normal->o ∈ zM l
 |(e,s)::r,o,hm,h=>by
  rcases B4.1 hm with rfl|hm
  .simp_all [zM]
  .have:=kE hm h
   cases e<;>simp [zM,this]
theorem OE {id:Nat}:∀ {l:List (F7×CS)} {o:F7×CS},o ∈ l->(match o.1 with| .exit i=>if i=id then (F7.normal,o.2) else (F7.exit i,o.2)|x=>(x,o.2)) ∈ unB id l
 |(e,s)::r,o,hm=>by
  rcases B4.1 hm with rfl|hm
  .cases e with
   |exit i =>
    simp_all [unB]<;>grind
   |normal=>simp [unB]
   |ret=>simp [unB]
  .have:=OE (id:=id) hm
   cases e<;>simp [unB,B4]<;>exact .inr this
theorem yD {vs:List Nat}:∀ (m:List Bool) {x:List SV} {v:List c8},y8.g C vs x v->y8.g C vs (xh m x) (U9 m v)
 |m,[],_,h=>by simp_all [y8.g,xh,U9]
 |[],x::xs,_,h=>by
  obtain ⟨d,ds,rfl,h1,h2⟩:=h;exact ⟨_,_,rfl,rfl,yD [] h2⟩
 |true::m,x::xs,_,h=>by
  obtain ⟨d,ds,rfl,h1,h2⟩:=h;exact ⟨_,_,rfl,h1,yD m h2⟩
 |false::m,x::xs,_,h=>by
  obtain ⟨d,ds,rfl,h1,h2⟩:=h;exact ⟨_,_,rfl,rfl,yD m h2⟩
def Vo {vs:List Nat}{s s' :CS}{st:St}{mask:List Bool}{strict n:Nat}(hs:s.g C vs st)(h:MG mask strict n s=some s'):s'.g C vs (clean mask strict n st):=by
 obtain ⟨hT,hH,hB⟩:=hs;have hm:=yD mask hT;unfold MG at h;split at h
 .rename_i a bs ha QI
  have e1:=y8.cE ha hm;have e2:=EP QI hH;split at h
  .rename_i hc
   simp [c7,Nat.ble_eq] at hc;cases h;unfold clean;rw [if_pos ⟨by omega,by simp_all [pF]⟩];exact ⟨hm,K4.take hH n,hB⟩
  .cases h
   unfold clean;rw [if_neg (by simp_all [pF])];exact ⟨hm,hH,hB⟩
 .cases h
theorem bI {vs:List Nat}:∀ {x:List SV} {v:List c8} {k:Nat} {r:Nat×Nat×Nat×Nat×Nat},y8.g C vs x v->AZ x k=some r->dF v k=some r
 |[],_,_,_,_,h=>by simp [AZ] at h
 |x::xs,_,k,r,hg,h=>by
  simp only [y8.g] at hg;obtain ⟨d,ds,rfl,h1,h2⟩:=hg;cases x<;>simp only [AZ,reduceCtorEq] at h<;>simp only [SV.g] at h1
  .subst h1;simp only [dF];exact bI h2 h
  .obtain ⟨_,rfl,_⟩:=h1;simp only [dF];exact bI h2 h
  .obtain ⟨_,_,rfl,_⟩:=h1;simp only [dF];exact bI h2 h
  .subst h1;simp only [dF];exact bI h2 h
  .subst h1;simp only [dF];exact bI h2 h
  .obtain ⟨_,_,rfl,_⟩:=h1;simp only [dF];exact bI h2 h
  .subst h1;simp only [dF];exact h
  .obtain ⟨_,rfl,_⟩:=h1;simp only [dF];exact bI h2 h
  .obtain ⟨_,rfl,_⟩:=h1;simp only [dF];exact bI h2 h
  .obtain ⟨_,h0,_⟩:=h1;cases d<;>simp only [c8.J2,reduceCtorEq] at h0<;>simp only [dF]<;>exact bI h2 h
  .obtain ⟨_,_,rfl⟩:=h1;simp only [dF];exact bI h2 h
def aM4 {vs:List Nat}{s s' :CS}{st:St}{entry t:Nat}(hs:s.g C vs st)(h:sfz l entry t s=some s'):∃ st',nR l entry t st=some st' /\s'.g C vs st' :=by
 obtain ⟨hT,hH,hB⟩:=hs;unfold sfz at h;split at h
 .rename_i b' o e
  obtain ⟨a,h1,h2⟩:=y8.get hT e;have h2:=bu h2;subst h2;split at h
  .rename_i ho
   have ho:=j4 ho;subst ho;split at h
   .rename_i p cs e2
    obtain ⟨o,h3,h4⟩:=K4.get hH e2;obtain ⟨ds,rfl,h5,_⟩:=h4;split at h
    .rename_i i id sz lo len hr
     have hr:=bI h5 hr;split at h
     .rename_i l' hl
      obtain ⟨us,h6,h7⟩:=DL hH hl;split at h
      .rename_i xs hxs
       obtain ⟨ys,h8,h9⟩:=oC h7 hxs;split at h
       .rename_i hc
        simp only [c7,Nat.ble_eq,n5] at hc;obtain ⟨⟨⟨⟨⟨c1,c2⟩,c3⟩,c4⟩,c5⟩,c6⟩:=hc;have c6:=j4 c6;have c5:id≠b' :=fun e=>by rw [e] at c5;simp at c5
        cases h;refine ⟨⟨H9 id st.T,((st.H.take l.base++(st.H.drop l.base).map (u0.kill id)).set id .dead).set b' (.cells ((H9 id ds).set i (.d (.slice len ys))))⟩,?_,y8.ep id hT,K4.set (K4.set (K4.app (K4.take hH _) (K4.map (fun _ _=>SO.ep id) (K4.drop hH _))) id (a:= .dead) (b:= .dead) rfl) b' (a:= .cells none ((y8.kill id cs).set i (.d (mkSlice sz len xs)))) (b:= .cells ((H9 id ds).set i (.d (.slice len ys)))) ⟨_,rfl,y8.set (y8.ep id h5) i (bE (pU c6 h9)),fun k h=>by cases h⟩,hB⟩;simp only [nR,wG,h1,h3,hr,h6,h8];rw [if_pos ⟨c1,c2,c3,c4,c5⟩]
       .cases h
      .cases h
     .cases h
    .cases h
   .cases h
  .cases h
 .cases h
def GU {vs:List Nat}{v:SV}{a:c8}{s:CS}{st:St}{p q:List CS}(hv:v.g C vs a)(hs:s.g C vs st)(h:branch v s=some (p,q)):∃ t,a= .d (.bool t)/\∃ o,o ∈ (if t then p else q)/\o.g C vs st:=by
 unfold branch at h;split at h
 .obtain ⟨d,rfl,h1⟩:=aL hv
  split at h
  .grind [SD.dY,Option.some.injEq]
  .rename_i c hc
   obtain ⟨t,rfl,h2⟩:=SD.dY hc h1;obtain ⟨B',h3,h4⟩:=DA hs.2.2 h2;refine ⟨t,rfl,{ s with B:=B' },?_,hs.1,hs.2.1,h4⟩
   grind
  .cases h
 .cases h
theorem sy:∀ {outs:List SS} {c:y6} {p q:List CS},sx outs c=some (p,q)->∀ o,o ∈ outs->∃ p' q',branch (bJ o.T o.L c) ⟨o.T,o.H,o.B⟩=some (p',q')/\(∀ x,x ∈ p' ->x ∈ p)/\∀ x,x ∈ q' ->x ∈ q
 |o::r,c,p,q,h,o',hm=>by
  simp [sx] at h;split at h
  .rename_i p1 q1 p2 q2 h1 h2
   rcases B4.1 hm with rfl|hm
   .grind
   .obtain ⟨p',q',h3,h4,h5⟩:=sy h2 o' hm
    grind
  .cases h
variable {sem:Sem} (fA:gO C A sem) {hook:Lo} (HQ:EG C A l b hook) {kp:List Nat} {fuel:Nat}
omit fA HQ in
theorem Ov {body:q9}{sb:CS->Option (List (F7×CS))}(hb:∀ {vs s st outs},CS.g C vs s st->sb s=some outs->Ex A l b body st (Post C vs outs)){mask:List Bool}{n0:Nat} :
  ∀ (k:Nat) {L:List CS} {vs:List Nat} {s:CS} {st:St} {outs:List (F7×CS)},s ∈ L->s.g C vs st->Jt kp sb mask l.strict n0 k L=some outs->Xy A l b mask body n0 st (Post C vs outs)
 |0,L,vs,s,st,outs,hm,hs,h=>by
  simp_all [Jt]
 |k+1,L,vs,s,st,outs,hm,hs,h=>by
  have hne:L.isEmpty=false:=by grind
  simp [Jt,hne,j3,if_false] at h;split at h
  .rename_i os hos
   split at h
   .rename_i r hr
    cases h;obtain ⟨x,hx,hmx⟩:=X2 hos s hm;split at hx
    .rename_i s' hs'
     refine Xy.step ((hb (Vo hs hs') hx).mono ?_);rintro e st' ⟨o,o1,rfl,ws,l1,o3⟩;cases he:o.1 with
     |normal =>
      obtain ⟨t,t1,us,l2,t2⟩:=om _ (vh (hmx o o1) he) o3;exact (Ov hb k t1 t2 hr).mono fun e VJ hp=>hp.sub (l1.trans l2) fun o h=>E7 _ h
     |exit i=>exact ⟨o,E0 _ (kE (hmx o o1) (by rw [he];simp)),he,ws,l1,o3⟩
     |ret=>exact ⟨o,E0 _ (kE (hmx o o1) (by rw [he];simp)),he,ws,l1,o3⟩
    .cases hx
   .cases h
  .cases h
include fA HQ
theorem fS:∀ (c:q9) {vs:List Nat} {s:CS} {st:St} {outs:List (F7×CS)},s.g C vs st->bX A sem hook kp l b fuel c s=some outs->Ex A l b c st (Post C vs outs)
 | .skip,vs,s,st,outs,hs,h=>by
  simp only [bX,Option.some.injEq] at h;subst h;exact Ex.skip ⟨_,q6.2 rfl,rfl,vs,Le.refl _,hs⟩
 | .exit id,vs,s,st,outs,hs,h=>by
  simp only [bX,Option.some.injEq] at h;subst h;exact Ex.exit ⟨_,q6.2 rfl,rfl,vs,Le.refl _,hs⟩
 | .ret,vs,s,st,outs,hs,h=>by
  simp only [bX,Option.some.injEq] at h;subst h;exact Ex.ret ⟨_,q6.2 rfl,rfl,vs,Le.refl _,hs⟩
 | .bad,vs,s,st,outs,hs,h=>by simp [bX] at h
 | .region ops draw,vs,s,st,outs,hs,h=>by
  simp only [bX] at h;split at h
  .rename_i os hos
   cases h;obtain ⟨r,N,⟨o,o1,ws,l1,g1,g2,g3,g4⟩,hr⟩:=DM fA hs.1 hs.2.1 hs.2.2 hos;exact Ex.region ⟨r,N,⟨_,F5.2 ⟨o,o1,rfl⟩,rfl,ws,l1,g1,g2,g4⟩,hr⟩
  .cases h
 | .seq a c,vs,s,st,outs,hs,h=>by
  simp only [bX] at h;split at h
  .rename_i os hos
   split at h
   .rename_i r hr
    cases h;refine Ex.seq ((fS a hs hos).mono ?_);rintro e st' ⟨o,o1,rfl,ws,l1,o3⟩;cases he:o.1 with
    |normal =>
     obtain ⟨t,t1,us,l2,t2⟩:=om _ (vh o1 he) o3;obtain ⟨x,hx,hmx⟩:=X2 hr t t1;exact (fS c t2 hx).mono fun e VJ hp=>hp.sub (l1.trans l2) fun o h=>E7 _ (hmx o h)
    |exit i=>exact ⟨o,E0 _ (kE o1 (by rw [he];simp)),he,ws,l1,o3⟩
    |ret=>exact ⟨o,E0 _ (kE o1 (by rw [he];simp)),he,ws,l1,o3⟩
   .cases h
  .cases h
 | .cond c a d,vs,s,st,outs,hs,h=>by
  simp only [bX] at h;split at h
  .rename_i p q hpq
   split at h
   .rename_i x y hx hy
    cases h;obtain ⟨t,h1,o,o1,o2⟩:=GU (Gj (L:=[]) (L' :=[]) hs.1 (by simp [y8.g]) c) hs hpq;refine Ex.cond h1 (fun ht=> ?_) (fun ht=> ?_)
    .obtain ⟨z,hz,hm⟩:=X2 hx o (by simp_all)
     exact (fS a o2 hz).mono fun e VJ hp=>hp.sub (Le.refl _) fun o h=>E0 _ (hm o h)
    .obtain ⟨z,hz,hm⟩:=X2 hy o (by simp_all)
     exact (fS d o2 hz).mono fun e VJ hp=>hp.sub (Le.refl _) fun o h=>E7 _ (hm o h)
   .cases h
  .cases h
 | .test ops draw c a d,vs,s,⟨T,H⟩,outs,hs,h=>by
  simp only [bX] at h;split at h
  .rename_i p q hpq
   split at h
   .rename_i x y hx hy
    cases h;have hR:Rn A l b ops draw T H fun T' H' L=>∃ t,I5 T' L c= .d (.bool t)/\∃ o,o ∈ (if t then p else q)/\∃ ws,Le vs ws/\o.g C ws ⟨T',H'⟩:=by
     split at hpq
     .rename_i pq hh
      cases hpq;exact HQ _ _ _ _ _ _ hh vs T H hs
     .split at hpq
      .rename_i os hos
       obtain ⟨r,N,⟨o,o1,ws,l1,g1,g2,g3,g4⟩,hr⟩:=DM fA hs.1 hs.2.1 hs.2.2 hos;obtain ⟨p',q',h1,h2,h3⟩:=sy hpq o o1;obtain ⟨t,h4,u,u1,u2⟩:=GU (st:=⟨r.T,r.H⟩) (Gj g1 g3 c) ⟨g1,g2,g4⟩ h1;refine ⟨r,N,⟨t,h4,u,?_,ws,l1,u2⟩,hr⟩
       grind
      .cases hpq
    obtain ⟨r,N,⟨t,h4,u,u1,ws,l1,u2⟩,hr⟩:=hR;refine Ex.test ⟨r,N,⟨t,h4,fun ht=> ?_,fun ht=> ?_⟩,hr⟩
    .subst ht
     obtain ⟨m,m1,us,l2,m2⟩:=om _ (by omega) u2;obtain ⟨z,hz,hm⟩:=X2 hx m m1;exact (fS a m2 hz).mono fun e VJ hp=>hp.sub (l1.trans l2) fun o h=>E0 _ (hm o h)
    .subst ht
     obtain ⟨m,m1,us,l2,m2⟩:=om _ (by omega) u2;obtain ⟨z,hz,hm⟩:=X2 hy m m1;exact (fS d m2 hz).mono fun e VJ hp=>hp.sub (l1.trans l2) fun o h=>E7 _ (hm o h)
   .cases h
  .cases h
 | .block id body,vs,s,st,outs,hs,h=>by
  simp only [bX] at h;split at h
  .rename_i os hos
   cases h;refine Ex.block ((fS body hs hos).mono ?_);rintro e st' ⟨o,o1,rfl,ws,l1,o3⟩;have hm:=OE (id:=id) o1;cases he:o.1 with
   |normal=>rw [he] at hm;exact ⟨_,hm,rfl,ws,l1,o3⟩
   |ret=>rw [he] at hm;exact ⟨_,hm,rfl,ws,l1,o3⟩
   |exit i =>
    rw [he] at hm;simp only at hm;simp only [Gu];split
    .rename_i hi;rw [if_pos hi] at hm;exact ⟨_,hm,rfl,ws,l1,o3⟩
    .rename_i hi;rw [if_neg hi] at hm;exact ⟨_,hm,rfl,ws,l1,o3⟩
  .cases h
 | .loop mask body,vs,s,st,outs,hs,h=>by
  refine Ex.ofL ?_;rw [K4.len hs.2.1];exact Ov (sb:=bX A sem hook kp l b fuel body) (fun {_ _ _ _} h1 h2=>fS body h1 h2) fuel (q6.2 rfl) hs h
 | .fz t,vs,s,st,outs,hs,h=>by
  simp only [bX] at h;split at h
  .rename_i s' hs'
   cases h;obtain ⟨st',h1,h2⟩:=aM4 hs hs';exact ⟨_,_,0,⟨_,q6.2 rfl,rfl,vs,Le.refl _,h2⟩,fun n _=>by
    simp_all [nR,K8,exec]⟩
  .cases h
end
def Gi (T:List SV)(H:List SO):Cc->Option SV
 | .slot t=>T[t]?
 | .cell t none=>match T[t]? with
  |some (.ptr id off)=>match ZA H id off 1 with
   |some [v]=>some v.J2
   |_=>none
  |_=>none
 | .cell t (some n)=>match T[t]? with
  |some (.ptr id off)=>match H[id]? with
   |some (.cells p l)=>if E3 (off+n) l.length then some (.agg (if s7 off 0&&s7 n l.length then p else none) (((l.drop off).take n).map SV.J2)) else none
   |_=>none
  |_=>none
def oH (T:List SV)(H:List SO):List Cc->Option (List SV)
 |[]=>some []
 |r::rs=>match Gi T H r,oH T H rs with
  |some v,some vs=>some (v::vs)
  |_,_=>none
def Ge:List SV->SV
 |[v]=>v
 |vs=> .tuple (vs.map SV.J2)
def FY (H:List SO)(n:Nat):Nat->List SV->Option (List SV)
 |0,_=>none
 |fuel+1,l=>match l with
  |[]=>some []
  |v::vs=>match FY H n fuel vs with
   |none=>none
   |some ws=>match v with
    | .A8 id sz lo len=>if Nat.blt id n then some (.A8 id sz lo len::ws) else match ZA H id lo (len * sz) with
     |some us=>match FY H n fuel us with
      |some us' =>match jF us' with
       |some xs=>if s7 xs.length (len * sz) then some (.d (mkSlice sz len xs)::ws) else none
       |none=>none
      |none=>none
     |none=>none
    | .agg p l=>match FY H n fuel l with
     |some l' =>some (.agg (match y8.X8 l with|some 0=>p|_=>none) l' ::ws)
     |none=>none
    | .tuple l=>match FY H n fuel l with
     |some l' =>some (.tuple l' ::ws)
     |none=>none
    | .top=>none
    | .bn k=>if s7 k 0 then some (.bn 0::ws) else none
    |v=>some (v::ws)
def FX (bC:Bool)(n:Nat)(vs:List SV)(H:List SO):Option (SV×List SO) :=
 if bC then some (Ge vs,H) else match FY H n 1000000 [Ge vs] with
  |some [v]=>match v.X8 with
   |some b=>if E3 b n then some (v,H.take n) else none
   |none=>none
  |_=>none
section
variable {C:Ctx} {vs:List Nat}
theorem Nq (cs:List c8):(cs.map c8.J2).map c8.J2=cs.map c8.J2:=by
 rw [List.map_map]
 congr 1
 funext v
 cases v<;>rfl
def RH {T:List SV}{H:List SO}{T' :List c8}{H' :o9}(hT:y8.g C vs T T')(hH:K4.g C vs H H'){r:Cc}{v:SV}(h:Gi T H r=some v):∃ a,jT T' H' r=some a/\v.g C vs a:=by
 unfold Gi at h;split at h
 .exact y8.get hT h
 .split at h
  .rename_i id off e
   obtain ⟨a,h1,h2⟩:=y8.get hT e;rw [bu h2] at h1
   grind [DL,y8.g,jT,SV.qt]
  .cases h
 .rename_i t n
  split at h
  .rename_i id off e
   obtain ⟨a,h1,h2⟩:=y8.get hT e;rw [bu h2] at h1;split at h
   .rename_i p l hl
    split at h
    .cases h
     obtain ⟨o,h3,h4⟩:=K4.get hH hl;obtain ⟨cs,rfl,h5,h6⟩:=h4;have hlen:=y8.len h5;refine ⟨.agg (((cs.drop off).take n).map c8.J2),?_,?_⟩
     .simp_all [jT,rd,if_pos]
     .refine ⟨_,rfl,y8.map (fun _ _=>SV.qt) (y8.take (y8.drop h5 off) n),fun k hk=> ?_⟩
      split at hk
      .grind [j4,B5,Nq]
      .cases hk
    .cases h
   .cases h
  .cases h
theorem Ba {T:List SV}{H:List SO}{T' :List c8}{H' :o9}(hT:y8.g C vs T T')(hH:K4.g C vs H H'):∀ {rs:List Cc} {l:List SV},oH T H rs=some l->∃ as,aN T' H' rs=some as/\y8.g C vs l as
 |[],l,h=>by simp [oH,Option.some.injEq] at h;subst h;exact ⟨[],rfl,by simp [y8.g]⟩
 |r::rs,l,h=>by
  simp [oH] at h;split at h
  .rename_i v ws hv hws
   obtain ⟨a,h1,h2⟩:=RH hT hH hv;obtain ⟨as,h3,h4⟩:=Ba hT hH hws
   grind [aN,y8.g]
  .cases h
def Ju {l:List SV}{as:List c8}(h:y8.g C vs l as):(Ge l).g C vs (j7 as):=by
 have key:∀ {l:List SV} {as:List c8},y8.g C vs l as->(SV.tuple (l.map SV.J2)).g C vs (.tuple (as.map c8.J2)):=fun h=>by
  simp_all [SV.g,y8.map,SV.qt]
 match l,h with
 |[],h=>have:=key h;subst h;exact this
 |[v],h=>obtain ⟨d,_,rfl,h1,rfl⟩:=h;exact h1
 |v::w::l,h=>have:=key h;obtain ⟨d,_,rfl,h1,e,es,rfl,h2,h3⟩:=h;exact this
theorem XX {H:o9}{n:Nat}:∀ (fuel:Nat) {l ws:List c8},A4 l=0->bF H n fuel l=some ws->ws=l
 |0,l,ws,_,h=>by simp [bF] at h
 |fuel+1,[],ws,_,h=>by simp_all [bF,Option.some.injEq]
 |fuel+1,v::l,ws,hb,h=>by
  simp [A4] at hb;simp [bF] at h;split at h
  .cases h
  .rename_i us Xq
   have e1:=XX fuel (by omega) Xq;split at h
   .simp [c8.K5] at hb
   .rename_i l0
    simp [c8.K5] at hb;split at h
    .rename_i l' hl'
     have e2:=XX fuel (l:=l0) (by omega) hl';simp_all
    .cases h
   .rename_i l0
    simp [c8.K5] at hb;split at h
    .rename_i l' hl'
     have e2:=XX fuel (l:=l0) (by omega) hl';simp_all
    .cases h
   simp_all
theorem AR {H:List SO}{H' :o9}{n:Nat}(hH:K4.g C vs H H'):∀ (fuel:Nat) {l ws:List SV} {as:List c8},y8.g C vs l as->FY H n fuel l=some ws->∃ bs,bF H' n fuel as=some bs/\y8.g C vs ws bs
 |0,l,ws,as,_,h=>by simp [FY] at h
 |fuel+1,[],ws,as,hg,h=>by
  simp only [y8.g] at hg;subst hg;simp only [FY,Option.some.injEq] at h;subst h;exact ⟨[],by simp [bF],by simp [y8.g]⟩
 |fuel+1,v::l,ws,as,hg,h=>by
  simp only [y8.g] at hg;obtain ⟨a,as,rfl,ha,hl⟩:=hg;simp only [FY] at h;split at h
  .cases h
  .rename_i us Xq
   obtain ⟨bs,h1,h2⟩:=AR hH fuel hl Xq;have fin:∀ {v:SV} {a:c8},v.g C vs a->y8.g C vs (v::us) (a::bs):=fun h=>by simp only [y8.g];exact ⟨_,_,rfl,h,h2⟩
   split at h
   .rename_i id sz lo len
    rw [mE ha];split at h
    .rename_i hc
     have hc:id<n:=j5 hc;cases h;exact ⟨.A8 id sz lo len::bs,by simp only [bF,h1];rw [if_pos hc],fin (by simp only [SV.g])⟩
    .rename_i hc
     have hc:¬ id<n:=fun e=>hc (by rw [Nat.blt_eq];exact e)
     split at h
     .rename_i q hq
      split at h
      .rename_i q' hq'
       split at h
       .rename_i xs hxs
        split at h
        .rename_i hlen
         have hlen:=j4 hlen;cases h;obtain ⟨cs,h3,h4⟩:=DL hH hq;obtain ⟨ds,h5,h6⟩:=AR hH fuel h4 hq';obtain ⟨es,h7,h8⟩:=oC h6 hxs;exact ⟨.d (.slice len es)::bs,by simp only [bF,h1];rw [if_neg hc];simp only [h3,h5,h7],fin (bE (pU hlen h8))⟩
        .cases h
       .cases h
      .cases h
     .cases h
   .rename_i p l'
    simp only [SV.g] at ha;obtain ⟨cs,rfl,h3,h4⟩:=ha;split at h
    .rename_i l2 mY
     cases h;obtain ⟨ds,h5,h6⟩:=AR hH fuel h3 mY;refine ⟨.agg ds::bs,by simp only [bF,h1,h5],fin ?_⟩;simp only [SV.g];refine ⟨ds,rfl,h6,fun k hk=> ?_⟩;split at hk
     .rename_i hb
      rw [XX fuel (y8.cE hb h3) h5];exact h4 k hk
     .cases hk
    .cases h
   .rename_i l'
    simp only [SV.g] at ha;obtain ⟨cs,rfl,h3⟩:=ha;split at h
    .rename_i l2 mY
     cases h;obtain ⟨ds,h5,h6⟩:=AR hH fuel h3 mY;exact ⟨.tuple ds::bs,by simp only [bF,h1,h5],fin (by simp only [SV.g];exact ⟨_,rfl,h6⟩)⟩
    .cases h
   .cases h
   .rename_i k
    split at h
    .rename_i hk
     have hk:=j4 hk;subst hk;cases h;simp only [SV.g] at ha;refine ⟨a::bs,?_,fin (by simp only [SV.g];exact ha)⟩;obtain ⟨a1,a2⟩:=ha;cases a<;>simp only [c8.K5,c8.one,j3,reduceCtorEq] at a1 a2<;>first
      |(simp only [bF,h1];done)
      |omega
    .cases h
   .rename_i w1 w2 w3 w4 w5
    cases h;refine ⟨a::bs,?_,fin ha⟩;cases v<;>simp only [SV.g] at ha
    .exact absurd rfl w4
    .subst ha;simp only [bF,h1]
    .obtain ⟨_,rfl,_⟩:=ha;simp only [bF,h1]
    .obtain ⟨_,_,rfl,_⟩:=ha;simp only [bF,h1]
    .subst ha;simp only [bF,h1]
    .subst ha;simp only [bF,h1]
    .obtain ⟨_,_,rfl,_⟩:=ha;simp only [bF,h1]
    .exact absurd rfl (w1 _ _ _ _)
    .exact absurd rfl (w2 _ _)
    .exact absurd rfl (w3 _)
    .exact absurd rfl (w5 _)
    .obtain ⟨_,h0,_⟩:=ha;cases a<;>simp only [c8.J2,reduceCtorEq] at h0<;>simp only [bF,h1]
    .obtain ⟨_,_,rfl⟩:=ha;simp only [bF,h1]
def RC {H H1:List SO}{H' :o9}{bC:Bool}{n:Nat}{l:List SV}{as:List c8}{v:SV}(hH:K4.g C vs H H')(hl:y8.g C vs l as)(h:FX bC n l H=some (v,H1)) :
  ∃ a H2,finish bC n as H' =some (a,H2)/\v.g C vs a/\K4.g C vs H1 H2:=by
 unfold FX at h;split at h
 .rename_i hp
  cases h;exact ⟨_,_,by simp only [finish,hp,if_true],Ju hl,hH⟩
 .rename_i hp
  split at h
  .rename_i w hw
   split at h
   .rename_i b hb
    split at h
    .rename_i hc
     have hc:=j5 hc;cases h;obtain ⟨bs,h1,h2⟩:=AR hH 1000000 (l:=[Ge l]) (as:=[j7 as]) (by simp only [y8.g];exact ⟨_,_,rfl,Ju hl,rfl⟩) hw;simp only [y8.g] at h2;obtain ⟨a,_,rfl,h3,rfl⟩:=h2;have e:=SV.cE hb h3;refine ⟨a,H'.take n,?_,h3,K4.take hH n⟩;simp only [finish];rw [if_neg hp,h1];simp only;rw [if_pos (by omega)]
    .cases h
   .cases h
  .cases h
end
def SB.cl:SB->Bool
 | .uy=>true
 |_=>false
def Rel.cl:Rel->Bool
 | .no=>true
 |_=>false
mutual
def SD.cl:SD->Bool
 | .bool c=>c.cl
 | .int _ _ _ r=>r.cl
 | .slice v _ _ row=>v.isNone&&L1.cl row
 | .pr _ x=>x.cl
 |_=>true
def L1.cl:List SD->Bool
 |[]=>true
 |x::xs=>x.cl&&L1.cl xs
end
mutual
def SV.cl:SV->Bool
 | .d x=>x.cl
 | .own _ x=>x.cl
 | .q x=>x.cl
 | .S7 r=>L1.cl r
 | .agg _ l=>y8.cl l
 | .tuple l=>y8.cl l
 |_=>true
def y8.cl:List SV->Bool
 |[]=>true
 |x::xs=>x.cl&&y8.cl xs
end
def SO.cl:SO->Bool
 | .cells _ l=>y8.cl l
 |_=>true
def K4.cl:List SO->Bool
 |[]=>true
 |x::xs=>x.cl&&K4.cl xs
section
variable {C:Ctx} {vs ws:List Nat}
mutual
theorem SD.cZ:∀ (x:SD) {d:Data},x.cl=true->x.g C vs d->x.g C ws d
 | .top,_,_,_=>by simp [SD.g]
 | .lit _,_,_,h=>by simp_all [SD.g]
 | .bool c,_,hc,h=>by
  cases c with
  |uy=>obtain ⟨b,h1,_⟩:=h;exact ⟨b,h1,trivial⟩
  |cmp=>simp [SD.cl,SB.cl] at hc
 | .int k lo hi r,_,hc,h=>by
  cases r with
  |no=>obtain ⟨b,h1,h2,h3,_⟩:=h;exact ⟨b,h1,h2,h3,trivial⟩
  |eq=>simp [SD.cl,Rel.cl] at hc
  |lt=>simp [SD.cl,Rel.cl] at hc
 | .anyI _,_,_,h=>by simp_all [SD.g]
 | .str _,_,_,h=>by simp_all [SD.g]
 | .slice v lo hi row,_,hc,h=>by
  cases v with
  |some i=>simp [SD.cl] at hc
  |none =>
   obtain ⟨rows,h1,h2,h3,_,h5⟩:=h;exact ⟨rows,h1,h2,h3,(fun i e=>by cases e),fun r hr=>L1.cZ row hc (h5 r hr)⟩
 | .pr _ x,_,hc,h=>by exact ⟨h.1,SD.cZ x hc h.2⟩
theorem L1.cZ:∀ (x:List SD) {d:List Data},L1.cl x=true->L1.g C vs x d->L1.g C ws x d
 |[],_,_,h=>by simp_all [L1.g]
 |x::xs,_,hc,h=>by
  simp [L1.cl,c7] at hc;obtain ⟨d,ds,h1,h2,h3⟩:=h;exact ⟨d,ds,h1,SD.cZ x hc.1 h2,L1.cZ xs hc.2 h3⟩
end
mutual
theorem SV.cZ:∀ (x:SV) {d:c8},x.cl=true->x.g C vs d->x.g C ws d
 | .top,_,_,_=>by simp [SV.g]
 | .any,_,_,h=>by simpa only [SV.g] using h
 | .d x,_,hc,h=>by simp only [SV.cl] at hc;simp only [SV.g] at h ⊢;obtain ⟨y,h1,h2⟩:=h;exact ⟨y,h1,SD.cZ x hc h2⟩
 | .own _ x,_,hc,h=>by simp only [SV.cl] at hc;simp only [SV.g] at h ⊢;obtain ⟨a,b,h1,h2⟩:=h;exact ⟨a,b,h1,SD.cZ x hc h2⟩
 | .N7,_,_,h=>by simpa only [SV.g] using h
 | .ptr ..,_,_,h=>by simpa only [SV.g] using h
 | .S7 row,_,hc,h=>by simp only [SV.cl] at hc;simp only [SV.g] at h ⊢;obtain ⟨a,b,h1,h2⟩:=h;exact ⟨a,b,h1,L1.cZ row hc h2⟩
 | .A8 ..,_,_,h=>by simpa only [SV.g] using h
 | .wp ..,_,_,h=>by simpa only [SV.g] using h
 | .agg p l,_,hc,h=>by simp only [SV.cl] at hc;simp only [SV.g] at h ⊢;obtain ⟨cs,h1,h2,h3⟩:=h;exact ⟨cs,h1,y8.cZ l hc h2,h3⟩
 | .tuple l,_,hc,h=>by simp only [SV.cl] at hc;simp only [SV.g] at h ⊢;obtain ⟨cs,h1,h2⟩:=h;exact ⟨cs,h1,y8.cZ l hc h2⟩
 | .bn _,_,_,h=>by simpa only [SV.g] using h
 | .q x,_,hc,h=>by simp only [SV.cl] at hc;simp only [SV.g] at h ⊢;obtain ⟨y,h1,h2⟩:=h;exact ⟨y,h1,SD.cZ x hc h2⟩
theorem y8.cZ:∀ (x:List SV) {d:List c8},y8.cl x=true->y8.g C vs x d->y8.g C ws x d
 |[],_,_,h=>by simpa only [y8.g] using h
 |x::xs,_,hc,h=>by
  simp only [y8.cl,c7] at hc;simp only [y8.g] at h ⊢;obtain ⟨d,ds,h1,h2,h3⟩:=h;exact ⟨d,ds,h1,SV.cZ x hc.1 h2,y8.cZ xs hc.2 h3⟩
end
theorem SO.cZ (x:SO){o:u0}(hc:x.cl=true)(h:x.g C vs o):x.g C ws o:=by
 cases x with
 |dead=>exact h
 |cells p l=>obtain ⟨cs,h1,h2,h3⟩:=h;exact ⟨cs,h1,y8.cZ l hc h2,h3⟩
 |pr k=>exact h
 |bn k=>exact h
 |top=>trivial
 |Rl k b=>exact h
theorem K4.cZ:∀ (x:List SO) {o:o9},K4.cl x=true->K4.g C vs x o->K4.g C ws x o
 |[],_,_,h=>by simp_all [K4.g]
 |x::xs,_,hc,h=>by
  simp [K4.cl,c7] at hc;obtain ⟨d,ds,h1,h2,h3⟩:=h;exact ⟨d,ds,h1,SO.cZ x hc.1 h2,K4.cZ xs hc.2 h3⟩
end
def Ik:List SV->Option (List Data)
 |[]=>some []
 | .d (.lit x)::r=>match Ik r with
  |some xs=>some (x::xs)
  |none=>none
 |_=>none
abbrev Fact:=Nat->List Data->Bool
def yQ (C:Ctx)(fact:Fact):Prop:=∀ k ds,fact k ds=true->C.Θ k (ds.map .d)
def OA (fact:Fact)(p:Option Nat)(l:List SV):Option Nat->Bool
 |none=>true
 |some k=>JE p (some k)||(match Ik l with
  |some ds=>fact k ds
  |none=>false)
mutual
def SV.le (fact:Fact)(B:jg)(x:SV):SV->Bool
 | .top=>true
 | .any=>match x with
  | .any=>true
  |_=>false
 | .d y=>match x with
  | .d x=>SD.le B x y
  |_=>false
 | .own z y=>match x with
  | .own z' x=>s7 z z' &&SD.le B x y
  |_=>false
 | .N7=>match x with
  | .N7=>true
  |_=>false
 | .ptr i o=>match x with
  | .ptr i' o' =>s7 i i' &&s7 o o'
  |_=>false
 | .S7 _=>false
 | .wp .. =>false
 | .A8 i z l n=>match x with
  | .A8 i' z' l' n' =>s7 i i' &&s7 z z' &&s7 l l' &&s7 n n'
  |_=>false
 | .agg p l=>match x with
  | .agg p' l' =>OA fact p' l' p&&y8.le fact B l' l
  |_=>false
 | .tuple l=>match x with
  | .tuple l' =>y8.le fact B l' l
  |_=>false
 | .q y=>match x.data? with
  |some x=>SD.le B x y
  |none=>false
 | .bn k=>x.one&&(match x.X8 with
  |some b=>s7 b k
  |none=>false)
def y8.le (fact:Fact)(B:jg)(xs:List SV):List SV->Bool
 |[]=>xs.isEmpty
 |y::ys=>match xs with
  |x::xs=>SV.le fact B x y&&y8.le fact B xs ys
  |[]=>false
end
def SO.le (fact:Fact)(B:jg):SO->SO->Bool
 | .dead,.dead=>true
 | .cells p l,.cells p' l' =>OA fact p l p' &&y8.le fact B l l'
 | .pr k,.pr k' =>s7 k k'
 | .Rl k b,.Rl k' b' =>s7 k k' &&s7 b b'
 |x,.bn k=>(match x.X8 with
  |some b=>s7 b k
  |none=>false)
 |_,.top=>true
 |_,_=>false
def K4.le (fact:Fact)(B:jg):List SO->List SO->Bool
 |[],[]=>true
 |x::xs,y::ys=>x.le fact B y&&K4.le fact B xs ys
 |_,_=>false
section
variable {C:Ctx} {vs:List Nat} {B:jg} {fact:Fact} (hB:Bg vs B) (hf:yQ C fact)
theorem NR:∀ {l:List SV} {ds:List Data} {cs:List c8},Ik l=some ds->y8.g C vs l cs->cs=ds.map .d
 |[],_,_,h,hg=>by simp_all [Ik,Option.some.injEq,y8.g]
 |x::xs,_,_,h,hg=>by
  obtain ⟨d,ds',rfl,h1,h2⟩:=hg;unfold Ik at h;split at h
  .simp_all
  .rename_i y r e
   cases e;split at h
   .rename_i ys hys
    cases h;obtain ⟨q,rfl,h3⟩:=aL h1;subst h3;rw [NR hys h2];rfl
   .cases h
  .cases h
include hf in
def OB {p q:Option Nat}{l:List SV}{cs:List c8}(h:OA fact p l q=true)(hl:y8.g C vs l cs)(hp:∀ k,p=some k->C.Θ k (cs.map c8.J2)):∀ k,q=some k->C.Θ k (cs.map c8.J2):=by
 rintro k rfl;simp [OA,Bool.or_eq_true] at h
 rcases h with h|h
 .grind [JF]
 .split at h
  .rename_i ds hds
   rw [NR hds hl];have e:(ds.map c8.d).map c8.J2=ds.map c8.d:=by rw [List.map_map];rfl
   rw [e];exact hf k ds h
  .cases h
include hB hf
mutual
theorem SV.ct:∀ (y:SV) {x:SV} {v:c8},SV.le fact B x y=true->x.g C vs v->y.g C vs v
 | .top,_,_,_,_=>by simp [SV.g]
 | .any,x,_,h,hg=>by cases x<;>simp only [SV.le,j3] at h;exact hg
 | .d y,x,_,h,hg=>by
  cases x<;>simp only [SV.le,j3] at h;obtain ⟨d,rfl,h1⟩:=aL hg;exact bE (SD.ct hB y h h1)
 | .own z y,x,_,h,hg=>by
  cases x<;>simp only [SV.le,j3,c7] at h;have e:=j4 h.1;subst e;obtain ⟨len,cells,rfl,h1⟩:=rO hg;simp only [SV.g];exact ⟨_,_,rfl,SD.ct hB y h.2 h1⟩
 | .N7,x,_,h,hg=>by cases x<;>simp only [SV.le,j3] at h;exact hg
 | .ptr i o,x,_,h,hg=>by
  cases x<;>simp only [SV.le,j3,c7] at h;have e:=j4 h.1;have e2:=j4 h.2;subst e e2;exact hg
 | .S7 _,x,_,h,hg=>by simp [SV.le] at h
 | .wp ..,x,_,h,hg=>by simp [SV.le] at h
 | .A8 i z l n,x,_,h,hg=>by
  cases x<;>simp only [SV.le,j3,c7] at h;have e1:=j4 h.1.1.1;have e2:=j4 h.1.1.2;have e3:=j4 h.1.2;have e4:=j4 h.2;subst e1 e2 e3 e4;exact hg
 | .agg p l,x,_,h,hg=>by
  cases x<;>simp only [SV.le,j3,c7] at h;simp only [SV.g] at hg ⊢;obtain ⟨cs,rfl,h1,h2⟩:=hg;exact ⟨cs,rfl,y8.ct l h.2 h1,OB hf h.1 h1 h2⟩
 | .tuple l,x,_,h,hg=>by
  cases x<;>simp only [SV.le,j3] at h;simp only [SV.g] at hg ⊢;obtain ⟨cs,rfl,h1⟩:=hg;exact ⟨cs,rfl,y8.ct l h h1⟩
 | .q y,x,_,h,hg=>by
  simp only [SV.le] at h;split at h
  .rename_i z hz
   obtain ⟨d,h0,h1⟩:=FM hg hz;exact FL h0 (SD.ct hB y h h1)
  .cases h
 | .bn k,x,_,h,hg=>by
  simp only [SV.le,c7] at h;split at h
  .rename_i b hb
   have e:=j4 h.2;subst e;simp only [SV.g];exact ⟨SV.cE hb hg,SV.AD hg h.1⟩
  .exact absurd h.2 (by simp)
theorem y8.ct:∀ (y:List SV) {x:List SV} {v:List c8},y8.le fact B x y=true->y8.g C vs x v->y8.g C vs y v
 |[],x,_,h,hg=>by
  cases x with
  |nil=>exact hg
  |cons=>simp [y8.le] at h
 |y::ys,x,_,h,hg=>by
  cases x<;>simp only [y8.le,j3,c7] at h;simp only [y8.g] at hg ⊢;obtain ⟨d,ds,rfl,h1,h2⟩:=hg;exact ⟨d,ds,rfl,SV.ct y h.1 h1,y8.ct ys h.2 h2⟩
end
theorem SO.ct {x y:SO}{o:u0}(h:x.le fact B y=true)(hg:x.g C vs o):y.g C vs o:=by
 have key:∀ k,(match x.X8 with|some b=>s7 b k|none=>false)=true->o.K5=k:=fun k hk=>by
  split at hk
  .rename_i b hb
   rw [SO.cE hb hg];exact j4 hk
  .cases hk
 cases y
 case top=>trivial
 case bn k=>exact key k (by cases x<;>simpa only [SO.le] using h)
 all_goals cases x<;>simp only [SO.le,j3,c7] at h
 .exact hg
 .obtain ⟨cs,rfl,h1,h2⟩:=hg
  exact ⟨cs,rfl,y8.ct hB hf _ h.2 h1,OB hf h.1 h1 h2⟩
 .have e:=j4 h
  subst e;exact hg
 .have e1:=j4 h.1
  have e2:=j4 h.2;subst e1 e2;exact hg
theorem K4.ct:∀ {x y:List SO} {o:o9},K4.le fact B x y=true->K4.g C vs x o->K4.g C vs y o
 |[],[],_,_,hg=>hg
 |[],_::_,_,h,_=>by simp [K4.le] at h
 |_::_,[],_,h,_=>by simp [K4.le] at h
 |x::xs,y::ys,_,h,hg=>by
  simp [K4.le,c7] at h;obtain ⟨d,ds,rfl,h1,h2⟩:=hg;exact ⟨d,ds,rfl,SO.ct hB hf h.1 h1,K4.ct h.2 h2⟩
end
structure Spec where
 f:FuncId
 args:List SV
 H:List SO
 lim:F2
 outs:List (SV×List SO)
def Spec.cl (s:Spec):Bool:=y8.cl s.args&&K4.cl s.H&&s.outs.all fun o=>o.1.cl&&K4.cl o.2
def Spec.ok (C:Ctx)(A:Prog)(s:Spec):Prop:=s.cl=true/\∀ as Hc,y8.g C [] s.args as->K4.g C [] s.H Hc->Pq A s.f as Hc s.lim fun v H1=>∃ o,o ∈ s.outs/\o.1.g C [] v/\K4.g C [] o.2 H1
def sY (a b:F2):Bool:=s7 a.Tm b.Tm&&s7 a.Ti b.Ti&&s7 a.base b.base&&s7 a.strict b.strict
def Vr (fact:Fact)(specs:List Spec):Sem:=fun B f args H l=>match specs.find? (fun s=>s7 s.f f&&y8.le fact B args s.args&&K4.le fact B H s.H&&sY s.lim l) with
 |some s=>some s.outs
 |none=>none
def Vs {C:Ctx}{A:Prog}{fact:Fact}(hf:yQ C fact){specs:List Spec}(hs:∀ s,s ∈ specs->s.ok C A):gO C A (Vr fact specs):=by
 intro B f args H l outs h vs hB as Hc ha hH;unfold Vr at h;split at h
 .rename_i s hfind
  cases h;have hm:=List.mem_of_find?_eq_some hfind;have hc:=List.find?_some hfind;simp only [c7,sY] at hc;obtain ⟨⟨⟨c1,c2⟩,c3⟩,c4⟩:=hc;obtain ⟨k1,k2⟩:=hs s hm;have e:s.f=f:=j4 c1;have el:s.lim=l:=by
   cases wM:s.lim;simp_all
  simp only [Spec.cl,c7] at k1;obtain ⟨v,H1,⟨o,o1,o2,o3⟩,h1⟩:=k2 as Hc (y8.cZ _ k1.1.1 (y8.ct hB hf _ c2 ha)) (K4.cZ _ k1.1.2 (K4.ct hB hf c3 hH));rw [e,el] at h1;have k3:=L9.1 k1.2 o o1;simp [c7] at k3;exact ⟨v,H1,⟨o,o1,SV.cZ _ k3.1 o2,K4.cZ _ k3.2 o3⟩,h1⟩
 .cases h
def AO (a b:Sem):Sem:=fun B f args H l=>match a B f args H l with
 |some r=>some r
 |none=>b B f args H l
def oD {C:Ctx}{A:Prog}{a b:Sem}(ha:gO C A a)(hb:gO C A b):gO C A (AO a b):=by
 intro B f args H l outs h;unfold AO at h;split at h
 .rename_i r hr;cases h;exact ha _ _ _ _ _ _ hr
 .exact hb _ _ _ _ _ _ h
def Uq (s:CS)(k:Nat):CS:=match s.T[k]? with
 |some v=>match IA s.B.length v with
  |some (w,p)=>{ s with T:=s.T.set k w,B:=s.B++[p] }
  |none=>s
 |none=>s
def Mp (s:CS):Nat->CS
 |0=>s
 |n+1=>Mp (Uq s n) n
def YD {C:Ctx}{vs:List Nat}{s:CS}{st:St}(hs:s.g C vs st)(k:Nat):∃ ws,Le vs ws/\(Uq s k).g C ws st:=by
 unfold Uq;split
 .rename_i v e
  split
  .rename_i w p hn
   rw [<- hs.2.2.1] at hn;obtain ⟨a,h1,h2⟩:=y8.get hs.1 e;obtain ⟨m,h3,h4,h5⟩:=FE hn h2;refine ⟨vs++[m],Le.app _ _,?_,K4.P7 (Le.app _ _) _ hs.2.1,hs.2.2.add h3 h4⟩;have:=y8.set (y8.P7 (Le.app vs [m]) _ hs.1) k h5;simp_all [Z1]
  grind [Le.refl]
 grind [Le.refl]
theorem Iz {C:Ctx}:∀ (n:Nat) {vs:List Nat} {s:CS} {st:St},s.g C vs st->∃ ws,Le vs ws/\(Mp s n).g C ws st
 |0,vs,s,st,hs=>⟨vs,Le.refl _,hs⟩
 |n+1,vs,s,st,hs=>by
  obtain ⟨ws,l1,h1⟩:=YD hs n;obtain ⟨us,l2,h2⟩:=Iz n h1;exact ⟨us,l1.trans l2,h2⟩
def MP (s:CS)(j:Nat):List CS:=match s.T[j]? with
 |some (.d x)=>match x.int? s.B with
  |some (k,lo,hi,_)=>(nX k lo (hi - lo+1).toNat).map fun v=>{ s with T:=s.T.set j v }
  |none=>[s]
 |_=>[s]
def Gg:List Nat->List CS->List CS
 |[],l=>l
 |j::r,l=>Gg r (l.flatMap fun s=>MP s j)
def VA {C:Ctx}{vs:List Nat}{s:CS}{st:St}(hs:s.g C vs st)(j:Nat):∃ s',s' ∈ MP s j/\s'.g C vs st:=by
 have hs' :=hs;obtain ⟨hT,hH,hB⟩:=hs;unfold MP;split
 .rename_i x e
  split
  .rename_i k lo hi r hc
   obtain ⟨a,h1,h2⟩:=y8.get hT e;obtain ⟨d,rfl,h3⟩:=aL h2;obtain ⟨m,rfl,h4,h5,_⟩:=SD.iN hB hc h3;refine ⟨_,F5.2 ⟨_,mg _ lo m h4 (by omega),rfl⟩,?_,hH,hB⟩;have:=y8.set hT j (a:= .d (.lit (.int k m))) (b:= .d (.int k m)) (bE (by rfl));simp_all [Z1]
  simp_all
 simp_all
theorem DJ {C:Ctx}{vs:List Nat}{st:St}:∀ (js:List Nat) {l:List CS} {s:CS},s ∈ l->s.g C vs st->∃ s',s' ∈ Gg js l/\s'.g C vs st
 |[],l,s,hm,hs=>⟨s,hm,hs⟩
 |j::js,l,s,hm,hs=>by
  obtain ⟨s1,h1,h2⟩:=VA hs j;exact DJ js (List.mem_flatMap.2 ⟨s,hm,h1⟩) h2
def aE2:F7->Bool
 | .exit _=>false
 |_=>true
def as3 (A:Prog)(sem:Sem)(hook:Lo)(fact:Fact)(kp js:List Nat)(fuel:Nat)(af:s6)(s:Spec):Bool :=
 s.cl&&s7 s.args.length af.nparams&&match iC (bX A sem hook kp s.lim s.H.length fuel af.body) (Gg js [Mp ⟨s.args++c9 (af.names.length - s.args.length) .any,s.H,[]⟩ s.args.length]) with
  |some outs=>outs.all fun o=>aE2 o.1&&match oH o.2.T o.2.H af.results with
   |some l=>match FX af.bC s.H.length l o.2.H with
    |some (v,H1)=>s.outs.any fun p=>SV.le fact o.2.B v p.1&&K4.le fact o.2.B H1 p.2
    |none=>false
   |none=>false
  |none=>false
def yz {C:Ctx}{A:Prog}{sem:Sem}{hook:Lo}{fact:Fact}{kp js:List Nat}{fuel:Nat}{s:Spec}{af:s6}(fA:gO C A sem)(hf:yQ C fact)(HQ:EG C A s.lim s.H.length hook)(hp:A.cw s.f=none)(ha:A.fn s.f=some af)
  (h:as3 A sem hook fact kp js fuel af s=true):s.ok C A:=by
 unfold as3 at h;simp only [c7] at h;obtain ⟨⟨c1,c2⟩,c3⟩:=h;have c2:=j4 c2;refine ⟨c1,fun as Hc hA hH=> ?_⟩;split at c3
 .rename_i outs hx
  have zW:=y8.len hA;have hHl:=K4.len hH;obtain ⟨ws,_,h0⟩:=Iz s.args.length (C:=C) (vs:=[]) (s:=⟨s.args++c9 (af.names.length - s.args.length) .any,s.H,[]⟩) (st:=⟨as++c9 (af.names.length - as.length) .any,Hc⟩) ⟨by simp_all [y8.app,EM],hH,rfl,fun i lo hi h=>by simp at h⟩;obtain ⟨s0,m0,h0⟩:=DJ js (q6.2 rfl) h0;obtain ⟨z,hz,hmz⟩:=X2 hx s0 m0;have h1:=fS fA HQ af.body h0 hz;refine Pq.run (b:=s.H.length) _ hp ha (by omega) hHl rfl (h1.mono ?_);rintro x st' ⟨o,o1,rfl,us,l1,g1,g2,g3⟩;have c4:=L9.1 c3 o (hmz o o1);simp [c7] at c4;obtain ⟨c5,c6⟩:=c4;split at c6
  .rename_i l hl
   obtain ⟨bs,h2,h3⟩:=Ba g1 g2 hl;split at c6
   .rename_i v H1 rG
    obtain ⟨a,H2,h4,h5,h6⟩:=RC g2 h3 rG;obtain ⟨p,p1,p2⟩:=List.any_eq_true.1 c6;simp [c7] at p2;refine ⟨a,H2,?_,p,p1,?_,?_⟩
    .cases he:o.1 with
     |exit i=>rw [he] at c5;cases c5
     |normal=>simp_all [iK]
     |ret=>simp_all [iK]
    .simp only [Spec.cl,c7] at c1
     have k3:=L9.1 c1.2 p p1;simp [c7] at k3;exact SV.cZ _ k3.1 (SV.ct g3 hf _ p2.1 h5)
    .simp only [Spec.cl,c7] at c1
     have k3:=L9.1 c1.2 p p1;simp [c7] at k3;exact K4.cZ _ k3.2 (K4.ct g3 hf p2.2 h6)
   .cases c6
  .cases c6
 .cases c3
end Go.x9.Sh

