/- Texts S1 S2 S3 S4 (made short by a program) -/
import Derived.Test.YtkmclibmmlgogaaGreatB5
set_option linter.unusedVariables false
set_option linter.unusedSimpArgs false
set_option linter.unusedSectionVars false
open Bool renaming and_eq_true → b5, false_eq_true → b7
open List renaming cons_append → G4, drop_of_length_le → m7, getElem?_append_left → p4, getElem?_eq_none → q6, length_cons → y8, map_cons → G7, mem_cons → B8, replicate → c9, set_cons_succ → q7, set_cons_zero → q8
open Nat renaming beq → y4, ble → J7, eq_of_beq_eq_true → b8, le_of_ble_eq_true → m6, le_refl → l5, lt_or_ge → p7
namespace Go.u7.Sh
open Go.u7
inductive Rel where
 |no
 |eq (i:Nat)
 |lt (i:Nat)
inductive SB where
 |qU
 |cmp (i n:Nat) (PC:Bool)
inductive SD where
 |top
 |lit (x:Data)
 |bool (c:SB)
 |int (k:IntKind) (lo hi:Int) (r:Rel)
 |anyI (k:IntKind)
 |str (n:Nat)
 |slice (v:Option Nat) (lo hi:Nat) (row:List SD)
 |pr (k:Nat) (x:SD)
inductive SV where
 |top
 |any
 |d (x:SD)
 |own (sz:Nat) (x:SD)
 |I5
 |ptr (id off:Nat)
 |P9 (row:List SD)
 |D0 (id sz lo len:Nat)
 |agg (p:Option Nat) (l:List SV)
 |tuple (l:List SV)
 |bn (k:Nat)  
 |q (x:SD)    
instance:Inhabited SV:=⟨.any⟩
instance:Inhabited SD:=⟨.top⟩
inductive SO where
 |dead
 |cells (p:Option Nat) (l:List SV)
 |pr (k:Nat)
 |bn (k:Nat)
 |top
instance:Inhabited SO:=⟨.dead⟩
structure Ctx where
 Φ:Nat->Data->Prop
 Θ:Nat->List b6->Prop
 Ψ:Nat->u5->Prop
 M3:∀ k o,Ψ k o->o.M3=0
def Rel.g (vs:List Nat):Rel->Int->Prop
 | .no,_=>True
 | .eq i,n=>∃ m,vs[i]? =some m/\n=(m:Int)
 | .lt i,n=>∃ m,vs[i]? =some m/\0<=n/\n<(m:Int)
def SB.g (vs:List Nat):SB->Bool->Prop
 | .qU,_=>True
 | .cmp i n PC,b=>∃ m,vs[i]? =some m/\b=(decide (n<m)==PC)
section
variable (C:Ctx)
mutual
def SD.g (vs:List Nat):SD->Data->Prop
 | .top,_=>True
 | .lit x,d=>d=x
 | .bool c,d=>∃ b,d= .bool b/\c.g vs b
 | .int k lo hi r,d=>∃ n,d= .int k n/\lo<=n/\n<=hi/\r.g vs n
 | .anyI k,d=>∃ n,d= .int k n
 | .str m,d=>∃ s,d= .str s/\s.length<=m
 | .slice v lo hi row,d=>∃ rows:List (List Data),d= .slice rows.length rows.flatten/\lo<=rows.length/\rows.length<=hi/\(∀ i,v=some i->vs[i]? =some rows.length)/\∀ r,r ∈ rows->D7.g vs row r
 | .pr k x,d=>C.Φ k d/\SD.g vs x d
def D7.g (vs:List Nat):List SD->List Data->Prop
 |[],ds=>ds=[]
 |x::xs,ds=>∃ d ds',ds=d::ds' /\SD.g vs x d/\D7.g vs xs ds'
end
mutual
def SV.g (vs:List Nat):SV->b6->Prop
 | .top,_=>True
 | .any,v=>v= .any
 | .d x,v=>∃ y,v= .d y/\SD.g C vs x y
 | .own sz x,v=>∃ len cells,v= .own sz len cells/\SD.g C vs x (.slice len cells)
 | .I5,v=>v= .I5
 | .ptr id off,v=>v= .ptr id off
 | .P9 row,v=>∃ cells rest,v= .P9 (cells++rest)/\D7.g C vs row cells
 | .D0 id sz lo len,v=>v= .D0 id sz lo len
 | .agg p l,v=>∃ cs,v= .agg cs/\r9.g vs l cs/\∀ k,p=some k->C.Θ k (cs.map b6.F2)
 | .tuple l,v=>∃ cs,v= .tuple cs/\r9.g vs l cs
 | .bn k,v=>v.M3=k/\v.one=true
 | .q x,v=>∃ y,v.F2= .d y/\SD.g C vs x y
def r9.g (vs:List Nat):List SV->List b6->Prop
 |[],as=>as=[]
 |x::xs,as=>∃ a as',as=a::as' /\SV.g vs x a/\r9.g vs xs as'
end
def SO.g (vs:List Nat):SO->u5->Prop
 | .dead,o=>o= .dead
 | .cells p l,o=>∃ cs,o= .cells cs/\r9.g C vs l cs/\∀ k,p=some k->C.Θ k (cs.map b6.F2)
 | .pr k,o=>C.Ψ k o
 | .bn k,o=>o.M3=k
 | .top,_=>True
def E7.g (vs:List Nat):List SO->o6->Prop
 |[],os=>os=[]
 |x::xs,os=>∃ o os',os=o::os' /\SO.g C vs x o/\E7.g vs xs os'
end
def Le (vs ws:List Nat):Prop:=∀ (i m:Nat),vs[i]? =some m->ws[i]? =some m
theorem Le.refl (vs:List Nat):Le vs vs:=fun _ _ h=>h
theorem Le.trans {a b c:List Nat}(h:Le a b)(k:Le b c):Le a c:=fun i m e=>k i m (h i m e)
theorem Le.app (vs ws:List Nat):Le vs (vs++ws):=fun i m h=>by
 rw [p4]
 ·exact h
 ·rcases p7 i vs.length with h2|h2
  ·exact h2
  ·rw [q6 h2] at h;cases h
section
variable {C:Ctx} {vs ws:List Nat}
theorem Rel.L8 (hl:Le vs ws){r:Rel}{n:Int}(h:r.g vs n):r.g ws n:=by
 cases r with
 |no=>trivial
 |eq i=>obtain ⟨m,h1,h2⟩:=h;exact ⟨m,hl _ _ h1,h2⟩
 |lt i=>obtain ⟨m,h1,h2⟩:=h;exact ⟨m,hl _ _ h1,h2⟩
theorem SB.L8 (hl:Le vs ws){r:SB}{n:Bool}(h:r.g vs n):r.g ws n:=by
 cases r with
 |qU=>trivial
 |cmp i n PC=>obtain ⟨m,h1,h2⟩:=h;exact ⟨m,hl _ _ h1,h2⟩
mutual
theorem SD.L8 (hl:Le vs ws):∀ (x:SD) {d:Data},x.g C vs d->x.g C ws d
 | .top,_,h=>by simp only [SD.g]
 | .lit _,_,h=>by simpa only [SD.g] using h
 | .bool c,_,h=>by simp only [SD.g] at h ⊢;obtain ⟨b,h1,h2⟩:=h;exact ⟨b,h1,SB.L8 hl (r:=c) h2⟩
 | .int k lo hi r,_,h=>by simp only [SD.g] at h ⊢;obtain ⟨n,h1,h2,h3,h4⟩:=h;exact ⟨n,h1,h2,h3,Rel.L8 hl (r:=r) h4⟩
 | .anyI _,_,h=>by simpa only [SD.g] using h
 | .str _,_,h=>by simpa only [SD.g] using h
 | .slice v lo hi row,_,h=>by
  simp only [SD.g] at h ⊢;obtain ⟨rows,h1,h2,h3,h4,h5⟩:=h;exact ⟨rows,h1,h2,h3,fun i e=>hl _ _ (h4 i e),fun r hr=>D7.L8 hl row (h5 r hr)⟩
 | .pr _ x,_,h=>by simp only [SD.g] at h ⊢;exact ⟨h.1,SD.L8 hl x h.2⟩
theorem D7.L8 (hl:Le vs ws):∀ (x:List SD) {d:List Data},D7.g C vs x d->D7.g C ws x d
 |[],_,h=>by simpa only [D7.g] using h
 |x::xs,_,h=>by simp only [D7.g] at h ⊢;obtain ⟨d,ds,h1,h2,h3⟩:=h;exact ⟨d,ds,h1,SD.L8 hl x h2,D7.L8 hl xs h3⟩
end
mutual
theorem SV.L8 (hl:Le vs ws):∀ (x:SV) {d:b6},x.g C vs d->x.g C ws d
 | .top,_,h=>by simp only [SV.g]
 | .any,_,h=>by simpa only [SV.g] using h
 | .d x,_,h=>by simp only [SV.g] at h ⊢;obtain ⟨y,h1,h2⟩:=h;exact ⟨y,h1,SD.L8 hl x h2⟩
 | .own _ x,_,h=>by simp only [SV.g] at h ⊢;obtain ⟨a,b,h1,h2⟩:=h;exact ⟨a,b,h1,SD.L8 hl x h2⟩
 | .I5,_,h=>by simpa only [SV.g] using h
 | .ptr ..,_,h=>by simpa only [SV.g] using h
 | .P9 row,_,h=>by simp only [SV.g] at h ⊢;obtain ⟨a,b,h1,h2⟩:=h;exact ⟨a,b,h1,D7.L8 hl row h2⟩
 | .D0 ..,_,h=>by simpa only [SV.g] using h
 | .agg p l,_,h=>by simp only [SV.g] at h ⊢;obtain ⟨cs,h1,h2,h3⟩:=h;exact ⟨cs,h1,r9.L8 hl l h2,h3⟩
 | .tuple l,_,h=>by simp only [SV.g] at h ⊢;obtain ⟨cs,h1,h2⟩:=h;exact ⟨cs,h1,r9.L8 hl l h2⟩
 | .bn _,_,h=>by simpa only [SV.g] using h
 | .q x,_,h=>by simp only [SV.g] at h ⊢;obtain ⟨y,h1,h2⟩:=h;exact ⟨y,h1,SD.L8 hl x h2⟩
theorem r9.L8 (hl:Le vs ws):∀ (x:List SV) {d:List b6},r9.g C vs x d->r9.g C ws x d
 |[],_,h=>by simpa only [r9.g] using h
 |x::xs,_,h=>by simp only [r9.g] at h ⊢;obtain ⟨d,ds,h1,h2,h3⟩:=h;exact ⟨d,ds,h1,SV.L8 hl x h2,r9.L8 hl xs h3⟩
end
theorem SO.L8 (hl:Le vs ws)(x:SO){o:u5}(h:x.g C vs o):x.g C ws o:=by
 cases x with
 |dead=>exact h
 |cells p l=>obtain ⟨cs,h1,h2,h3⟩:=h;exact ⟨cs,h1,r9.L8 hl l h2,h3⟩
 |pr k=>exact h
 |bn k=>exact h
 |top=>trivial
theorem E7.L8 (hl:Le vs ws):∀ (x:List SO) {o:o6},E7.g C vs x o->E7.g C ws x o
 |[],_,h=>by simpa only [E7.g] using h
 |x::xs,_,h=>by simp only [E7.g] at h ⊢;obtain ⟨d,ds,h1,h2,h3⟩:=h;exact ⟨d,ds,h1,SO.L8 hl x h2,E7.L8 hl xs h3⟩
end
section
variable {C:Ctx} {vs:List Nat}
theorem D7.len:∀ {x:List SD} {d:List Data},D7.g C vs x d->d.length=x.length
 |[],_,h=>by simp only [D7.g] at h;simp [h]
 |x::xs,_,h=>by simp only [D7.g] at h;obtain ⟨d,ds,rfl,_,h3⟩:=h;simp [D7.len h3]
theorem r9.len:∀ {x:List SV} {d:List b6},r9.g C vs x d->d.length=x.length
 |[],_,h=>by simp only [r9.g] at h;simp [h]
 |x::xs,_,h=>by simp only [r9.g] at h;obtain ⟨d,ds,rfl,_,h3⟩:=h;simp [r9.len h3]
theorem E7.len:∀ {x:List SO} {d:o6},E7.g C vs x d->d.length=x.length
 |[],_,h=>by simp only [E7.g] at h;simp [h]
 |x::xs,_,h=>by simp only [E7.g] at h;obtain ⟨d,ds,rfl,_,h3⟩:=h;simp [E7.len h3]
theorem D7.app:∀ {x y:List SD} {d e:List Data},D7.g C vs x d->D7.g C vs y e->D7.g C vs (x++y) (d++e)
 |[],_,_,_,h,k=>by simp only [D7.g] at h;subst h;exact k
 |x::xs,_,_,_,h,k=>by simp only [D7.g] at h;obtain ⟨d,ds,rfl,h2,h3⟩:=h;simp only [G4,D7.g];exact ⟨d,_,rfl,h2,D7.app h3 k⟩
theorem r9.app:∀ {x y:List SV} {d e:List b6},r9.g C vs x d->r9.g C vs y e->r9.g C vs (x++y) (d++e)
 |[],_,_,_,h,k=>by simp only [r9.g] at h;subst h;exact k
 |x::xs,_,_,_,h,k=>by simp only [r9.g] at h;obtain ⟨d,ds,rfl,h2,h3⟩:=h;simp only [G4,r9.g];exact ⟨d,_,rfl,h2,r9.app h3 k⟩
theorem E7.app:∀ {x y:List SO} {d e:o6},E7.g C vs x d->E7.g C vs y e->E7.g C vs (x++y) (d++e)
 |[],_,_,_,h,k=>by simp only [E7.g] at h;subst h;exact k
 |x::xs,_,_,_,h,k=>by simp only [E7.g] at h;obtain ⟨d,ds,rfl,h2,h3⟩:=h;simp only [G4,E7.g];exact ⟨d,_,rfl,h2,E7.app h3 k⟩
theorem r9.get:∀ {x:List SV} {d:List b6},r9.g C vs x d->∀ {i:Nat} {a:SV},x[i]? =some a->∃ b,d[i]? =some b/\a.g C vs b
 |[],_,_,_,_,e=>by simp at e
 |x::xs,_,h,i,a,e=>by
  simp only [r9.g] at h;obtain ⟨d,ds,rfl,h2,h3⟩:=h;cases i with
  |zero=>simp at e;subst e;exact ⟨d,rfl,h2⟩
  |succ i=>simpa using r9.get h3 (by simpa using e)
theorem r9.none:∀ {x:List SV} {d:List b6},r9.g C vs x d->∀ {i:Nat},x[i]? =none->d[i]? =none:=fun h i e=>by
 rw [List.getElem?_eq_none_iff] at e ⊢;rw [r9.len h];exact e
theorem E7.get:∀ {x:List SO} {d:o6},E7.g C vs x d->∀ {i:Nat} {a:SO},x[i]? =some a->∃ b,d[i]? =some b/\a.g C vs b
 |[],_,_,_,_,e=>by simp at e
 |x::xs,_,h,i,a,e=>by
  simp only [E7.g] at h;obtain ⟨d,ds,rfl,h2,h3⟩:=h;cases i with
  |zero=>simp at e;subst e;exact ⟨d,rfl,h2⟩
  |succ i=>simpa using E7.get h3 (by simpa using e)
theorem r9.set:∀ {x:List SV} {d:List b6},r9.g C vs x d->∀ (i:Nat) {a:SV} {b:b6},a.g C vs b->r9.g C vs (x.set i a) (d.set i b)
 |[],_,h,_,_,_,_=>by simp only [r9.g] at h;subst h;simp [r9.g]
 |x::xs,_,h,i,a,b,e=>by
  simp only [r9.g] at h;obtain ⟨d,ds,rfl,h2,h3⟩:=h;cases i with
  |zero=>simp only [q8,r9.g];exact ⟨_,_,rfl,e,h3⟩
  |succ i=>simp only [q7,r9.g];exact ⟨_,_,rfl,h2,r9.set h3 i e⟩
theorem E7.set:∀ {x:List SO} {d:o6},E7.g C vs x d->∀ (i:Nat) {a:SO} {b:u5},a.g C vs b->E7.g C vs (x.set i a) (d.set i b)
 |[],_,h,_,_,_,_=>by simp only [E7.g] at h;subst h;simp [E7.g]
 |x::xs,_,h,i,a,b,e=>by
  simp only [E7.g] at h;obtain ⟨d,ds,rfl,h2,h3⟩:=h;cases i with
  |zero=>simp only [q8,E7.g];exact ⟨_,_,rfl,e,h3⟩
  |succ i=>simp only [q7,E7.g];exact ⟨_,_,rfl,h2,E7.set h3 i e⟩
theorem r9.take:∀ {x:List SV} {d:List b6},r9.g C vs x d->∀ (n:Nat),r9.g C vs (x.take n) (d.take n)
 |[],_,h,n=>by simp only [r9.g] at h;subst h;simp [r9.g]
 |x::xs,_,h,n=>by
  simp only [r9.g] at h;obtain ⟨d,ds,rfl,h2,h3⟩:=h;cases n with
  |zero=>simp [r9.g]
  |succ n=>simp only [List.take_succ_cons,r9.g];exact ⟨_,_,rfl,h2,r9.take h3 n⟩
theorem r9.drop:∀ {x:List SV} {d:List b6},r9.g C vs x d->∀ (n:Nat),r9.g C vs (x.drop n) (d.drop n)
 |[],_,h,n=>by simp only [r9.g] at h;subst h;simp [r9.g]
 |x::xs,_,h,n=>by
  have h' :=h;simp only [r9.g] at h;obtain ⟨d,ds,rfl,h2,h3⟩:=h;cases n with
  |zero=>exact h'
  |succ n=>simpa using r9.drop h3 n
theorem E7.take:∀ {x:List SO} {d:o6},E7.g C vs x d->∀ (n:Nat),E7.g C vs (x.take n) (d.take n)
 |[],_,h,n=>by simp only [E7.g] at h;subst h;simp [E7.g]
 |x::xs,_,h,n=>by
  simp only [E7.g] at h;obtain ⟨d,ds,rfl,h2,h3⟩:=h;cases n with
  |zero=>simp [E7.g]
  |succ n=>simp only [List.take_succ_cons,E7.g];exact ⟨_,_,rfl,h2,E7.take h3 n⟩
theorem E7.drop:∀ {x:List SO} {d:o6},E7.g C vs x d->∀ (n:Nat),E7.g C vs (x.drop n) (d.drop n)
 |[],_,h,n=>by simp only [E7.g] at h;subst h;simp [E7.g]
 |x::xs,_,h,n=>by
  have h' :=h;simp only [E7.g] at h;obtain ⟨d,ds,rfl,h2,h3⟩:=h;cases n with
  |zero=>exact h'
  |succ n=>simpa using E7.drop h3 n
theorem r9.map {f:SV->SV}{f' :b6->b6}(hf:∀ x a,SV.g C vs x a->SV.g C vs (f x) (f' a)):∀ {x:List SV} {d:List b6},r9.g C vs x d->r9.g C vs (x.map f) (d.map f')
 |[],_,h=>by simp only [r9.g] at h;subst h;simp [r9.g]
 |x::xs,_,h=>by
  simp only [r9.g] at h;obtain ⟨d,ds,rfl,h2,h3⟩:=h;simp only [G7,r9.g];exact ⟨_,_,rfl,hf _ _ h2,r9.map hf h3⟩
end
def LF:IntKind->IntKind->Bool:=fun a b=>decide (a=b)
mutual
def Kr:Data->Data->Bool
 | .bool a,.bool b=>a==b
 | .int k n,.int k' n' =>decide (k=k')&&decide (n=n')
 | .str s,.str t=>s==t
 | .slice n l,.slice m r=>y4 n m&&Ks l r
 | .bN,.bN=>true
 | .M5,.M5=>true
 | .dY,.dY=>true
 | .nilIface,.nilIface=>true
 |_,_=>false
def Ks:List Data->List Data->Bool
 |[],[]=>true
 |a::l,b::r=>Kr a b&&Ks l r
 |_,_=>false
end
mutual
theorem AR:∀ (a b:Data),Kr a b=true->a=b
 | .bool a,b,h=>by cases b<;>simp_all [Kr]
 | .int k n,b,h=>by cases b<;>simp_all [Kr]
 | .str s,b,h=>by cases b<;>simp_all [Kr]
 | .slice n l,b,h=>by
  cases b<;>simp only [Kr,b5,b7] at h;rename_i m r;rw [b8 h.1,AS l r h.2]
 | .bN,b,h=>by cases b<;>simp_all [Kr]
 | .M5,b,h=>by cases b<;>simp_all [Kr]
 | .dY,b,h=>by cases b<;>simp_all [Kr]
 | .nilIface,b,h=>by cases b<;>simp_all [Kr]
theorem AS:∀ (a b:List Data),Ks a b=true->a=b
 |[],b,h=>by cases b<;>simp_all [Ks]
 |x::a,b,h=>by
  cases b<;>simp only [Ks,b5,b7] at h;rw [AR _ _ h.1,AS _ _ h.2]
end
abbrev ig:=List (Nat×Nat)
def Bg (vs:List Nat)(B:ig):Prop:=vs.length=B.length/\∀ (i lo hi:Nat),B[i]? =some (lo,hi)->∃ m,vs[i]? =some m/\lo<=m/\m<=hi
def VF (B:ig)(v:Option Nat)(lo hi:Nat):Nat×Nat:=match v with
 |none=>(lo,hi)
 |some i=>match B[i]? with
  |some (a,b)=>(max lo a,min hi b)
  |none=>(lo,hi)
theorem RM {vs:List Nat}{B:ig}(hB:Bg vs B){v:Option Nat}{lo hi m:Nat}(h1:lo<=m)(h2:m<=hi)(h3:∀ i,v=some i->vs[i]? =some m):(VF B v lo hi).1<=m/\m<=(VF B v lo hi).2:=by
 unfold VF;split
 ·exact ⟨h1,h2⟩
 ·rename_i i
  split
  ·rename_i a b hb
   obtain ⟨m',e1,e2,e3⟩:=hB.2 _ _ _ hb;rw [h3 i rfl] at e1;cases e1;simp;omega
  ·exact ⟨h1,h2⟩
def SD.int? (B:ig):SD->Option (IntKind×Int×Int×Rel)
 | .lit (.int k n)=>some (k,n,n,.no)
 | .int k lo hi r=>match r with
  | .eq i=>match B[i]? with
   |some (a,b)=>some (k,max lo a,min hi b,.eq i)
   |none=>some (k,lo,hi,.eq i)
  |_=>some (k,lo,hi,r)
 | .pr _ x=>x.int? B
 |_=>none
def SD.qq :SD->Option (Nat×Option (List UInt8))
 | .lit (.str s)=>some (s.length,some s)
 | .str m=>some (m,none)
 | .pr _ x=>x.qq
 |_=>none
inductive BK where
 |t (b:Bool)
 |u (c:SB)
def SD.bool? :SD->Option BK
 | .lit (.bool b)=>some (.t b)
 | .bool c=>some (.u c)
 | .pr _ x=>x.bool?
 |_=>none
def SD.kind? :SD->Option IntKind
 | .lit (.int k _)=>some k
 | .int k _ _ _=>some k
 | .anyI k=>some k
 | .pr _ x=>x.kind?
 |_=>none
def kr:List Data->Option (IntKind×Int×Int)
 |[]=>none
 | .int k n::r=>match r with
  |[]=>some (k,n,n)
  |_=>match kr r with
   |some (k',lo,hi)=>if LF k k' then some (k,min lo n,max hi n) else none
   |none=>none
 |_=>none
def Di:Data->Data->SD
 | .int k n,.int k' n' =>if LF k k' then .int k (min n n') (max n n') .no else .top
 | .str s,.str t=> .str (max s.length t.length)
 | .bool _,.bool _=> .bool .qU
 | .slice n cs,.slice m ds=>if y4 cs.length n&&y4 ds.length m then match kr (cs++ds) with
   |some (k,lo,hi)=> .slice none (min n m) (max n m) [.int k lo hi .no]
   |none=> .top
  else .top
 |_,_=> .top
def Rel.join:Rel->Rel->Rel
 | .eq i,.eq j=>if y4 i j then .eq i else .no
 | .lt i,.lt j=>if y4 i j then .lt i else .no
 |_,_=> .no
def KZ:SD->Data->SD
 | .lit a,b=>if Kr a b then .lit a else Di a b
 | .int k lo hi _,.int k' n=>if LF k k' then .int k (min lo n) (max hi n) .no else .top
 | .str m,.str t=> .str (max m t.length)
 | .bool _,.bool _=> .bool .qU
 |_,_=> .top
def nq:List SD->List Data->List SD
 |x::xs,d::ds=>KZ x d::nq xs ds
 |_,_=>[]
def rowsOf (sz:Nat):Nat->List Data->List (List Data)
 |0,_=>[]
 |n+1,cs=>cs.take sz::rowsOf sz n (cs.drop sz)
def DQ (sz:Nat):List (List Data)->List SD
 |[]=>c9 sz .top
 |r::rs=>rs.foldl nq (r.map .lit)
def SD.ov (B:ig):SD->Option (Option Nat×Nat×Nat)
 | .lit (.slice n _)=>some (none,n,n)
 | .slice v lo hi _=>some (v,VF B v lo hi)
 | .pr _ x=>x.ov B
 |_=>none
def SD.slice? (B:ig)(sz:Nat):SD->Option (Option Nat×Nat×Nat×List SD)
 | .lit (.slice n cells)=>if y4 cells.length (n * sz) then some (none,n,n,DQ sz (rowsOf sz n cells)) else none
 | .slice v lo hi row=>if y4 row.length sz then some (v,(VF B v lo hi).1,(VF B v lo hi).2,row) else none
 | .pr _ x=>x.slice? B sz
 |_=>none
section
variable {C:Ctx} {vs:List Nat} {B:ig}
theorem SD.iw (hB:Bg vs B):∀ {x:SD} {d:Data} {k:IntKind} {lo hi:Int} {r:Rel},x.int? B=some (k,lo,hi,r)->x.g C vs d->∃ n,d= .int k n/\lo<=n/\n<=hi/\r.g vs n
 | .lit (.int k' n'),_,_,_,_,_,h,hg=>by
  simp only [SD.int?,Option.some.injEq,Prod.mk.injEq] at h;obtain ⟨rfl,rfl,rfl,rfl⟩:=h;simp only [SD.g] at hg;exact ⟨_,hg,Int.le_refl _,Int.le_refl _,trivial⟩
 | .int k' lo' hi' r',_,_,_,_,_,h,hg=>by
  simp only [SD.g] at hg;obtain ⟨n,rfl,h1,h2,h3⟩:=hg;simp only [SD.int?] at h;split at h
  ·rename_i i
   split at h
   ·rename_i a b hb
    simp only [Option.some.injEq,Prod.mk.injEq] at h;obtain ⟨rfl,rfl,rfl,rfl⟩:=h;obtain ⟨m,e1,e2⟩:=h3;obtain ⟨m',e3,e4,e5⟩:=hB.2 _ _ _ hb;rw [e1] at e3;cases e3;exact ⟨n,rfl,by omega,by omega,m,e1,e2⟩
   ·simp only [Option.some.injEq,Prod.mk.injEq] at h
    obtain ⟨rfl,rfl,rfl,rfl⟩:=h;exact ⟨n,rfl,h1,h2,h3⟩
  ·simp only [Option.some.injEq,Prod.mk.injEq] at h
   obtain ⟨rfl,rfl,rfl,rfl⟩:=h;exact ⟨n,rfl,h1,h2,h3⟩
 | .pr k' x,_,_,_,_,_,h,hg=>by
  simp only [SD.g] at hg;simp only [SD.int?] at h;exact SD.iw hB h hg.2
 | .lit (.bool _),_,_,_,_,_,h,_=>by simp [SD.int?] at h
 | .lit (.str _),_,_,_,_,_,h,_=>by simp [SD.int?] at h
 | .lit (.slice _ _),_,_,_,_,_,h,_=>by simp [SD.int?] at h
 | .lit .bN,_,_,_,_,_,h,_=>by simp [SD.int?] at h
 | .lit .M5,_,_,_,_,_,h,_=>by simp [SD.int?] at h
 | .lit .dY,_,_,_,_,_,h,_=>by simp [SD.int?] at h
 | .lit .nilIface,_,_,_,_,_,h,_=>by simp [SD.int?] at h
 | .top,_,_,_,_,_,h,_=>by simp [SD.int?] at h
 | .bool _,_,_,_,_,_,h,_=>by simp [SD.int?] at h
 | .anyI _,_,_,_,_,_,h,_=>by simp [SD.int?] at h
 | .str _,_,_,_,_,_,h,_=>by simp [SD.int?] at h
 | .slice ..,_,_,_,_,_,h,_=>by simp [SD.int?] at h
theorem SD.sv:∀ {x:SD} {d:Data} {m:Nat} {e:Option (List UInt8)},x.qq =some (m,e)->x.g C vs d->∃ s,d= .str s/\s.length<=m/\∀ t,e=some t->s=t
 | .lit x,_,_,_,h,hg=>by
  cases x<;>simp only [SD.qq,Option.some.injEq,Prod.mk.injEq,reduceCtorEq] at h;obtain ⟨rfl,rfl⟩:=h;simp only [SD.g] at hg;exact ⟨_,hg,l5 _,fun t h=>Option.some.inj h⟩
 | .str m',_,_,_,h,hg=>by
  simp only [SD.qq,Option.some.injEq,Prod.mk.injEq] at h;obtain ⟨rfl,rfl⟩:=h;simp only [SD.g] at hg;obtain ⟨s,rfl,h1⟩:=hg;exact ⟨_,rfl,h1,fun t h=>by cases h⟩
 | .pr _ x,_,_,_,h,hg=>by
  simp only [SD.g] at hg;simp only [SD.qq] at h;exact SD.sv h hg.2
 | .top,_,_,_,h,_=>by simp [SD.qq] at h
 | .bool _,_,_,_,h,_=>by simp [SD.qq] at h
 | .anyI _,_,_,_,h,_=>by simp [SD.qq] at h
 | .int ..,_,_,_,h,_=>by simp [SD.qq] at h
 | .slice ..,_,_,_,h,_=>by simp [SD.qq] at h
theorem SD.cE:∀ {x:SD} {d:Data} {c:BK},x.bool? =some c->x.g C vs d->∃ b,d= .bool b/\match c with| .t b' =>b=b' | .u c=>c.g vs b
 | .lit x,_,_,h,hg=>by
  cases x<;>simp only [SD.bool?,Option.some.injEq,reduceCtorEq] at h;subst h;simp only [SD.g] at hg;exact ⟨_,hg,rfl⟩
 | .bool c,_,_,h,hg=>by
  simp only [SD.bool?,Option.some.injEq] at h;subst h;simp only [SD.g] at hg;exact hg
 | .pr _ x,_,_,h,hg=>by
  simp only [SD.g] at hg;simp only [SD.bool?] at h;exact SD.cE h hg.2
 | .top,_,_,h,_=>by simp [SD.bool?] at h
 | .str _,_,_,h,_=>by simp [SD.bool?] at h
 | .anyI _,_,_,h,_=>by simp [SD.bool?] at h
 | .int ..,_,_,h,_=>by simp [SD.bool?] at h
 | .slice ..,_,_,h,_=>by simp [SD.bool?] at h
theorem SD.uj:∀ {x:SD} {d:Data} {k:IntKind},x.kind? =some k->x.g C vs d->∃ n,d= .int k n
 | .lit x,_,_,h,hg=>by
  cases x<;>simp only [SD.kind?,Option.some.injEq,reduceCtorEq] at h;subst h;simp only [SD.g] at hg;exact ⟨_,hg⟩
 | .int ..,_,_,h,hg=>by
  simp only [SD.kind?,Option.some.injEq] at h;subst h;simp only [SD.g] at hg;obtain ⟨n,h,_⟩:=hg;exact ⟨n,h⟩
 | .anyI _,_,_,h,hg=>by
  simp only [SD.kind?,Option.some.injEq] at h;subst h;simpa only [SD.g] using hg
 | .pr _ x,_,_,h,hg=>by
  simp only [SD.g] at hg;simp only [SD.kind?] at h;exact SD.uj h hg.2
 | .top,_,_,h,_=>by simp [SD.kind?] at h
 | .str _,_,_,h,_=>by simp [SD.kind?] at h
 | .bool _,_,_,h,_=>by simp [SD.kind?] at h
 | .slice ..,_,_,h,_=>by simp [SD.kind?] at h
theorem SD.Gw (hB:Bg vs B):∀ {x:SD} {d:Data} {v:Option Nat} {lo hi:Nat},x.ov B=some (v,lo,hi)->x.g C vs d->∃ n cells,d= .slice n cells/\lo<=n/\n<=hi/\∀ i,v=some i->vs[i]? =some n
 | .lit x,_,_,_,_,h,hg=>by
  cases x<;>simp only [SD.ov,Option.some.injEq,Prod.mk.injEq,reduceCtorEq] at h;obtain ⟨rfl,rfl,rfl⟩:=h;simp only [SD.g] at hg;exact ⟨_,_,hg,l5 _,l5 _,fun i h=>by cases h⟩
 | .slice v' lo' hi' row,_,_,_,_,h,hg=>by
  simp only [SD.ov,Option.some.injEq,Prod.mk.injEq] at h;obtain ⟨rfl,h⟩:=h;simp only [SD.g] at hg;obtain ⟨rows,rfl,h1,h2,h3,_⟩:=hg;have:=RM hB h1 h2 h3;rw [h] at this;exact ⟨_,_,rfl,this.1,this.2,h3⟩
 | .pr _ x,_,_,_,_,h,hg=>by
  simp only [SD.g] at hg;simp only [SD.ov] at h;exact SD.Gw hB h hg.2
 | .top,_,_,_,_,h,_=>by simp [SD.ov] at h
 | .str _,_,_,_,_,h,_=>by simp [SD.ov] at h
 | .bool _,_,_,_,_,h,_=>by simp [SD.ov] at h
 | .anyI _,_,_,_,_,h,_=>by simp [SD.ov] at h
 | .int ..,_,_,_,_,h,_=>by simp [SD.ov] at h
theorem HX:∀ {l:List Data} {k:IntKind} {lo hi:Int},kr l=some (k,lo,hi)->∀ d,d ∈ l->∃ n,d= .int k n/\lo<=n/\n<=hi
 |[],_,_,_,h,_,_=>by simp [kr] at h
 | .int k n::r,_,_,_,h,d,hd=>by
  simp only [kr] at h;split at h
  ·cases h
   simp at hd;subst hd;exact ⟨_,rfl,Int.le_refl _,Int.le_refl _⟩
  ·split at h
   ·rename_i k' lo' hi' e
    split at h
    ·rename_i hk
     have hk:k=k' :=of_decide_eq_true hk;subst hk;cases h
     rcases B8.1 hd with rfl|hd
     ·exact ⟨_,rfl,by omega,by omega⟩
     ·obtain ⟨m,rfl,h1,h2⟩:=HX e d hd
      exact ⟨m,rfl,by omega,by omega⟩
    ·cases h
   ·cases h
 | .bool _::_,_,_,_,h,_,_=>by simp [kr] at h
 | .str _::_,_,_,_,h,_,_=>by simp [kr] at h
 | .slice _ _::_,_,_,_,h,_,_=>by simp [kr] at h
 | .bN::_,_,_,_,h,_,_=>by simp [kr] at h
 | .M5::_,_,_,_,h,_,_=>by simp [kr] at h
 | .dY::_,_,_,_,h,_,_=>by simp [kr] at h
 | .nilIface::_,_,_,_,h,_,_=>by simp [kr] at h
theorem Mj:∀ l:List Data,(l.map fun d=>[d]).flatten=l
 |[]=>rfl
 |d::l=>by simp [Mj l]
theorem Bi (a b:Data):(Di a b).g C vs a/\(Di a b).g C vs b:=by
 unfold Di;split
 ·rename_i k n k' n'
  split
  ·rename_i hk
   have hk:k=k' :=of_decide_eq_true hk;subst hk;simp only [SD.g];exact ⟨⟨_,rfl,by omega,by omega,trivial⟩,⟨_,rfl,by omega,by omega,trivial⟩⟩
  ·simp [SD.g]
 ·simp only [SD.g]
  exact ⟨⟨_,rfl,by omega⟩,⟨_,rfl,by omega⟩⟩
 ·simp only [SD.g]
  exact ⟨⟨_,rfl,trivial⟩,⟨_,rfl,trivial⟩⟩
 ·rename_i n cs m ds
  split
  ·rename_i hc
   simp only [b5] at hc;have c1:=b8 hc.1;have c2:=b8 hc.2;split
   ·rename_i k lo hi e
    have key:∀ l:List Data,(∀ d,d ∈ l->d ∈ cs++ds)->∀ r,r ∈ l.map (fun d=>[d])->D7.g C vs [.int k lo hi .no] r:=by
     intro l hl r hr;obtain ⟨d,hd,rfl⟩:=List.mem_map.1 hr;obtain ⟨q,rfl,h1,h2⟩:=HX e d (hl d hd);simp only [D7.g,SD.g];exact ⟨_,_,rfl,⟨q,rfl,h1,h2,trivial⟩,rfl⟩
    simp only [SD.g];exact ⟨⟨cs.map fun d=>[d],by rw [Mj,List.length_map,c1],by rw [List.length_map];omega,by rw [List.length_map];omega,(fun i h=>by cases h),key cs fun d h=>List.mem_append_left _ h⟩,
     ⟨ds.map fun d=>[d],by rw [Mj,List.length_map,c2],by rw [List.length_map];omega,by rw [List.length_map];omega,(fun i h=>by cases h),key ds fun d h=>List.mem_append_right _ h⟩⟩
   ·simp [SD.g]
  ·simp [SD.g]
 ·simp [SD.g]
theorem NK {x:SD}{a:Data}(b:Data)(h:x.g C vs a):(KZ x b).g C vs a:=by
 unfold KZ;split
 ·split
  ·exact h
  ·simp only [SD.g] at h
   subst h;exact (Bi _ _).1
 ·rename_i k lo hi r k' n
  split
  ·simp only [SD.g] at h ⊢
   obtain ⟨m,rfl,h1,h2,_⟩:=h;exact ⟨_,rfl,by omega,by omega,trivial⟩
  ·simp [SD.g]
 ·simp only [SD.g] at h ⊢
  obtain ⟨m,rfl,h1⟩:=h;exact ⟨_,rfl,by omega⟩
 ·simp only [SD.g] at h ⊢
  obtain ⟨m,rfl,h1⟩:=h;exact ⟨_,rfl,trivial⟩
 ·simp [SD.g]
theorem NL (x:SD)(b:Data):(KZ x b).g C vs b:=by
 unfold KZ;split
 ·split
  ·rename_i h
   simp only [SD.g];exact (AR _ _ h).symm
  ·exact (Bi _ _).2
 ·rename_i k lo hi r k' n
  split
  ·rename_i hk
   have hk:k=k' :=of_decide_eq_true hk;subst hk;simp only [SD.g];exact ⟨_,rfl,by omega,by omega,trivial⟩
  ·simp [SD.g]
 ·simp only [SD.g]
  exact ⟨_,rfl,by omega⟩
 ·simp only [SD.g]
  exact ⟨_,rfl,trivial⟩
 ·simp [SD.g]
theorem NB:∀ {x:List SD} {a b:List Data},D7.g C vs x a->a.length=b.length->D7.g C vs (nq x b) a
 |[],_,_,h,hl=>by simp only [D7.g] at h;subst h;simp [nq,D7.g]
 |x::xs,_,b,h,hl=>by
  simp only [D7.g] at h;obtain ⟨d,ds,rfl,h1,h2⟩:=h;cases b with
  |nil=>simp at hl
  |cons b bs=>simp only [nq,D7.g];exact ⟨_,_,rfl,NK b h1,NB h2 (by simpa using hl)⟩
theorem NC:∀ {x:List SD} {b:List Data},x.length=b.length->D7.g C vs (nq x b) b
 |[],[],_=>by simp [nq,D7.g]
 |[],_::_,h=>by simp at h
 |_::_,[],h=>by simp at h
 |x::xs,b::bs,h=>by simp only [nq,D7.g];exact ⟨_,_,rfl,NL x b,NC (by simpa using h)⟩
theorem DO:∀ (x:List SD) (b:List Data),x.length=b.length->(nq x b).length=x.length
 |[],[],_=>rfl
 |[],_::_,h=>by simp at h
 |_::_,[],h=>by simp at h
 |x::xs,b::bs,h=>by simp only [nq,y8];rw [DO xs bs (by simpa using h)]
theorem MJ:∀ (r:List Data),D7.g C vs (r.map .lit) r
 |[]=>by simp [D7.g]
 |d::r=>by simp only [G7,D7.g,SD.g];exact ⟨_,_,rfl,rfl,MJ r⟩
theorem ug {sz:Nat}:∀ (rs:List (List Data)) (x:List SD),x.length=sz->(∀ r,r ∈ rs->r.length=sz)->(∀ a,a.length=sz->D7.g C vs x a->D7.g C vs (rs.foldl nq x) a)/\(∀ r,r ∈ rs->D7.g C vs (rs.foldl nq x) r)/\(rs.foldl nq x).length=sz
 |[],x,hx,_=>⟨fun a _ h=>h,by simp,hx⟩
 |r::rs,x,hx,hr=>by
  have hrl:=hr r (by simp);have hl:(nq x r).length=sz:=by rw [DO _ _ (by omega)];exact hx
  obtain ⟨h1,h2,h3⟩:=ug rs (nq x r) hl (fun r' h=>hr r' (by simp [h]));refine ⟨fun a ha h=>h1 a ha (NB h (by omega)),fun r' h=> ?_,h3⟩
  rcases B8.1 h with rfl|h
  ·exact h1 _ hrl (NC (by omega))
  ·exact h2 _ h
theorem ct {sz:Nat}:∀ (n:Nat) (cs:List Data),cs.length=n * sz->(rowsOf sz n cs).flatten=cs/\(rowsOf sz n cs).length=n/\∀ r,r ∈ rowsOf sz n cs->r.length=sz
 |0,cs,h=>by simp at h;subst h;simp [rowsOf]
 |n+1,cs,h=>by
  rw [Nat.succ_mul] at h;obtain ⟨h1,h2,h3⟩:=ct (sz:=sz) n (cs.drop sz) (by simp;omega);refine ⟨by simp [rowsOf,h1],by simp [rowsOf,h2],fun r hr=> ?_⟩;simp only [rowsOf,B8] at hr
  rcases hr with rfl|hr
  ·simp;omega
  ·exact h3 r hr
theorem Iv {sz:Nat}{rs:List (List Data)}(hr:∀ r,r ∈ rs->r.length=sz):(∀ r,r ∈ rs->D7.g C vs (DQ sz rs) r)/\(DQ sz rs).length=sz:=by
 cases rs with
 |nil=>exact ⟨(fun r h=>nomatch h),by simp [DQ]⟩
 |cons r rs =>
  obtain ⟨h1,h2,h3⟩:=ug (C:=C) (vs:=vs) rs (r.map .lit) (by simpa using hr r (by simp)) (fun r' h=>hr r' (by simp [h]));refine ⟨fun r' h=> ?_,h3⟩
  rcases B8.1 h with rfl|h
  ·exact h1 _ (hr _ (by simp)) (MJ _)
  ·exact h2 _ h
theorem SD.cT (hB:Bg vs B){sz:Nat}:∀ {x:SD} {d:Data} {v:Option Nat} {lo hi:Nat} {row:List SD},x.slice? B sz=some (v,lo,hi,row)->x.g C vs d ->
  row.length=sz/\∃ rows:List (List Data),d= .slice rows.length rows.flatten/\lo<=rows.length/\rows.length<=hi/\(∀ i,v=some i->vs[i]? =some rows.length)/\∀ r,r ∈ rows->D7.g C vs row r
 | .lit x,_,_,_,_,_,h,hg=>by
  cases x<;>simp only [SD.slice?,reduceCtorEq] at h;rename_i n cells;split at h
  ·rename_i hc
   have hc:=b8 hc;simp only [Option.some.injEq,Prod.mk.injEq] at h;obtain ⟨rfl,rfl,rfl,rfl⟩:=h;simp only [SD.g] at hg;subst hg;obtain ⟨h1,h2,h3⟩:=ct n cells hc;obtain ⟨h4,h5⟩:=Iv (C:=C) (vs:=vs) h3;exact ⟨h5,rowsOf sz n cells,by rw [h1,h2],by omega,by omega,(fun i h=>by cases h),h4⟩
  ·cases h
 | .slice v' lo' hi' row',_,_,_,_,_,h,hg=>by
  simp only [SD.slice?] at h;split at h
  ·rename_i hc
   have hc:=b8 hc;simp only [Option.some.injEq,Prod.mk.injEq] at h;obtain ⟨rfl,rfl,rfl,rfl⟩:=h;simp only [SD.g] at hg;obtain ⟨rows,rfl,h1,h2,h3,h4⟩:=hg;have:=RM hB h1 h2 h3;exact ⟨hc,rows,rfl,this.1,this.2,h3,h4⟩
  ·cases h
 | .pr _ x,_,_,_,_,_,h,hg=>by
  simp only [SD.g] at hg;simp only [SD.slice?] at h;exact SD.cT hB h hg.2
 | .top,_,_,_,_,_,h,_=>by simp [SD.slice?] at h
 | .str _,_,_,_,_,_,h,_=>by simp [SD.slice?] at h
 | .bool _,_,_,_,_,_,h,_=>by simp [SD.slice?] at h
 | .anyI _,_,_,_,_,_,h,_=>by simp [SD.slice?] at h
 | .int ..,_,_,_,_,_,h,_=>by simp [SD.slice?] at h
end
def Rel.le:Rel->Rel->Bool
 |_,.no=>true
 | .eq i,.eq j=>y4 i j
 | .lt i,.lt j=>y4 i j
 |_,_=>false
theorem Rel.aW {vs:List Nat}{r s:Rel}{n:Int}(h:r.le s=true)(hr:r.g vs n):s.g vs n:=by
 cases r<;>cases s<;>simp only [Rel.le,b7] at h<;>first
  |trivial
  |(rw [<- b8 h];exact hr)
def iLe (a b:Int):Bool:=decide (a<=b)
mutual
def SD.le (B:ig)(x:SD):SD->Bool
 | .top=>true
 | .lit b=>match x with
  | .lit a=>Kr a b
  |_=>false
 | .bool .qU=>match x.bool? with
  |some _=>true
  |none=>false
 | .bool _=>false
 | .int k lo hi r=>match x.int? B with
  |some (k',a,b,s)=>LF k' k&&iLe lo a&&iLe b hi&&s.le r
  |none=>false
 | .anyI k=>match x.kind? with
  |some k' =>LF k' k
  |none=>false
 | .str m=>match x.qq with
  |some (m',_)=>J7 m' m
  |none=>false
 | .slice none lo hi row=>match x.slice? B row.length with
  |some (_,a,b,row')=>J7 lo a&&J7 b hi&&(y4 b 0||D7.le B row' row)
  |none=>false
 | .slice (some i) lo hi row=>match x with
  | .slice (some j) lo' hi' row' =>y4 i j&&J7 lo lo' &&J7 hi' hi&&D7.le B row' row
  |_=>false
 | .pr k y=>match x with
  | .pr k' _=>y4 k k' &&SD.le B x y
  |_=>false
def D7.le (B:ig)(xs:List SD):List SD->Bool
 |[]=>xs.isEmpty
 |y::ys=>match xs with
  |x::xs=>SD.le B x y&&D7.le B xs ys
  |[]=>false
end
section
variable {C:Ctx} {vs:List Nat} {B:ig} (hB:Bg vs B)
include hB
mutual
theorem SD.aW:∀ (y:SD) {x:SD} {d:Data},SD.le B x y=true->x.g C vs d->y.g C vs d
 | .top,_,_,_,_=>by simp [SD.g]
 | .lit b,x,_,h,hx=>by
  simp only [SD.le] at h;split at h
  ·rename_i a
   simp only [SD.g] at hx ⊢;rw [hx,AR _ _ h]
  ·cases h
 | .bool c,x,_,h,hx=>by
  cases c with
  |cmp i n PC=>simp [SD.le] at h
  |qU =>
   simp only [SD.le] at h;split at h
   ·rename_i c hc
    obtain ⟨b,h1,_⟩:=SD.cE hc hx;simp only [SD.g];exact ⟨b,h1,trivial⟩
   ·cases h
 | .int k lo hi r,x,_,h,hx=>by
  simp only [SD.le] at h;split at h
  ·rename_i k' a b s hc
   simp only [b5,iLe,decide_eq_true_eq] at h;obtain ⟨n,h1,h2,h3,h4⟩:=SD.iw hB hc hx;have hk:k' =k:=of_decide_eq_true h.1.1.1;subst hk;simp only [SD.g];exact ⟨n,h1,by omega,by omega,Rel.aW h.2 h4⟩
  ·cases h
 | .anyI k,x,_,h,hx=>by
  simp only [SD.le] at h;split at h
  ·rename_i k' hc
   have hk:k' =k:=of_decide_eq_true h;subst hk;simp only [SD.g];exact SD.uj hc hx
  ·cases h
 | .str m,x,_,h,hx=>by
  simp only [SD.le] at h;split at h
  ·rename_i m' e hc
   obtain ⟨s,h1,h2,_⟩:=SD.sv hc hx;simp only [SD.g];exact ⟨s,h1,Nat.le_trans h2 (m6 h)⟩
  ·cases h
 | .slice none lo hi row,x,_,h,hx=>by
  simp only [SD.le] at h;split at h
  ·rename_i v a b row' hc
   simp only [b5,Bool.or_eq_true] at h;obtain ⟨e,rows,h1,h2,h3,h4,h5⟩:=SD.cT hB hc hx;have l1:=m6 h.1.1;have l2:=m6 h.1.2;simp only [SD.g];refine ⟨rows,h1,by omega,by omega,(fun i e=>by cases e),fun r hr=> ?_⟩
   rcases h.2 with h0|h0
   ·have:=b8 h0
    have hz:rows=[]:=List.eq_nil_of_length_eq_zero (by omega);rw [hz] at hr;cases hr
   ·exact D7.aW row h0 (h5 r hr)
  ·cases h
 | .slice (some i) lo hi row,x,_,h,hx=>by
  simp only [SD.le] at h;split at h
  ·rename_i j lo' hi' row'
   simp only [b5] at h;have l0:=b8 h.1.1.1;have l1:=m6 h.1.1.2;have l2:=m6 h.1.2;subst l0;simp only [SD.g] at hx ⊢;obtain ⟨rows,h1,h2,h3,h4,h5⟩:=hx;exact ⟨rows,h1,by omega,by omega,h4,fun r hr=>D7.aW row h.2 (h5 r hr)⟩
  ·cases h
 | .pr k y,x,_,h,hx=>by
  simp only [SD.le] at h;split at h
  ·rename_i k' x'
   simp only [b5] at h;have l0:=b8 h.1;subst l0;have h6:=SD.aW y h.2 hx;simp only [SD.g] at hx ⊢;exact ⟨hx.1,h6⟩
  ·cases h
theorem D7.aW:∀ (y:List SD) {x:List SD} {d:List Data},D7.le B x y=true->D7.g C vs x d->D7.g C vs y d
 |[],x,_,h,hx=>by
  simp only [D7.le] at h;cases x with
  |nil=>exact hx
  |cons=>cases h
 |y::ys,x,_,h,hx=>by
  simp only [D7.le] at h;cases x with
  |nil=>cases h
  |cons x xs =>
   simp only [b5] at h;simp only [D7.g] at hx ⊢;obtain ⟨d,ds,rfl,h1,h2⟩:=hx;exact ⟨d,ds,rfl,SD.aW y h.1 h1,D7.aW ys h.2 h2⟩
end
end
def SV.F2:SV->SV
 | .own _ x=> .d x
 | .I5=> .d (.lit (.slice 0 []))
 | .q x=> .d x
 |v=>v
def SV.one:SV->Bool
 | .top=>false
 | .any=>false
 | .agg _ _=>false
 | .tuple _=>false
 |_=>true
def SV.cells? :SV->Option (List SV)
 | .agg _ l=>if l.all SV.one then some l else none
 |v=>if v.one then some [v] else none
def SV.tag:SV->Option Nat
 | .agg p _=>p
 |_=>none
def SV.data? :SV->Option SD
 | .d x=>some x
 | .own _ x=>some x
 | .I5=>some (.lit (.slice 0 []))
 | .q x=>some x
 |_=>none
def gQ :List SV->Option (List SD)
 |[]=>some []
 |v::vs=>match v.data? with
  |some x=>match gQ vs with
   |some xs=>some (x::xs)
   |none=>none
  |none=>none
def PB:b6->SV
 | .any=> .any
 | .d x=> .d (.lit x)
 | .own z len cells=> .own z (.lit (.slice len cells))
 | .I5=> .I5
 | .ptr a b=> .ptr a b
 | .D0 a b c e=> .D0 a b c e
 |_=> .top
def bz (T L:List SV):r8->SV
 | .loc j=>(L.getD j .any).F2
 | .slot s=>(T.getD s .any).F2
 | .const v=>PB v.Lv
section
variable {C:Ctx} {vs:List Nat}
theorem SV.ny {x:SV}{v:b6}(h:x.g C vs v):x.F2.g C vs v.F2:=by
 cases x with
 |own sz x=>simp only [SV.g] at h;obtain ⟨len,cells,rfl,h1⟩:=h;simp only [SV.F2,b6.F2,SV.g];exact ⟨_,rfl,h1⟩
 |I5=>simp only [SV.g] at h;subst h;simp only [SV.F2,b6.F2,SV.g,SD.g];exact ⟨_,rfl,rfl⟩
 |top=>simp [SV.F2,SV.g]
 |any=>simp only [SV.g] at h;subst h;simp [SV.F2,b6.F2,SV.g]
 |d x=>have h' :=h;simp only [SV.g] at h;obtain ⟨y,rfl,h1⟩:=h;exact h'
 |ptr a b=>have h' :=h;simp only [SV.g] at h;subst h;exact h'
 |P9 a=>have h' :=h;simp only [SV.g] at h;obtain ⟨a,b,rfl,_⟩:=h;exact h'
 |D0 a b c e=>have h' :=h;simp only [SV.g] at h;subst h;exact h'
 |agg p l=>have h' :=h;simp only [SV.g] at h;obtain ⟨cs,rfl,_⟩:=h;exact h'
 |tuple l=>have h' :=h;simp only [SV.g] at h;obtain ⟨cs,rfl,_⟩:=h;exact h'
 |bn k =>
  simp only [SV.g] at h;simp only [SV.F2,SV.g];cases v<;>simp_all [b6.F2,b6.M3,b6.one]
 |q x =>
  simp only [SV.g] at h;obtain ⟨y,h1,h2⟩:=h;simp only [SV.F2,h1,SV.g];exact ⟨_,rfl,h2⟩
theorem SV.vU {x:SV}{v:b6}(h:x.g C vs v)(h1:x.one=true):v.one=true:=by
 cases x<;>simp only [SV.one,b7] at h1<;>simp only [SV.g] at h
 ·obtain ⟨y,rfl,_⟩:=h;rfl
 ·obtain ⟨a,b,rfl,_⟩:=h;rfl
 ·subst h;rfl
 ·subst h;rfl
 ·obtain ⟨a,b,rfl,_⟩:=h;rfl
 ·subst h;rfl
 ·exact h.2
 ·obtain ⟨y,h1,_⟩:=h;cases v<;>simp only [b6.F2,reduceCtorEq] at h1<;>rfl
theorem r9.vU:∀ {x:List SV} {v:List b6},r9.g C vs x v->x.all SV.one=true->v.all b6.one=true
 |[],_,h,_=>by simp only [r9.g] at h;subst h;rfl
 |x::xs,_,h,h1=>by
  simp only [r9.g] at h;obtain ⟨d,ds,rfl,h2,h3⟩:=h;simp only [List.all_cons,b5] at h1 ⊢;exact ⟨SV.vU h2 h1.1,r9.vU h3 h1.2⟩
theorem SV.AH {x:SV}{v:b6}{l:List SV}(h:x.g C vs v)(h1:x.cells? =some l):∃ cs,v.cells? =some cs/\r9.g C vs l cs/\∀ k,x.tag=some k->C.Θ k (cs.map b6.F2):=by
 cases x with
 |agg p l' =>
  simp only [SV.cells?] at h1;split at h1
  ·rename_i h2
   cases h1;simp only [SV.g] at h;obtain ⟨cs,rfl,h3,h4⟩:=h;exact ⟨cs,by simp [b6.cells?,r9.vU h3 h2],h3,h4⟩
  ·cases h1
 |_ =>
  simp only [SV.cells?] at h1;split at h1
  ·rename_i h2
   cases h1;have h3:=SV.vU h h2;refine ⟨[v],?_,by simp only [r9.g];exact ⟨_,_,rfl,h,rfl⟩,fun k h=>by cases h⟩;cases v<;>simp only [b6.one,b7] at h3<;>simp [b6.cells?,b6.one]
  ·cases h1
theorem SV.Tv {x:SV}{v:b6}{y:SD}(h:x.g C vs v)(h1:x.data? =some y):∃ d,v.data? =some d/\y.g C vs d:=by
 cases x<;>simp only [SV.data?,reduceCtorEq,Option.some.injEq] at h1<;>subst h1<;>simp only [SV.g] at h
 ·obtain ⟨d,rfl,h2⟩:=h;exact ⟨d,rfl,h2⟩
 ·obtain ⟨a,b,rfl,h2⟩:=h;exact ⟨_,rfl,h2⟩
 ·subst h;exact ⟨_,rfl,by simp [SD.g]⟩
 ·obtain ⟨d,h1,h2⟩:=h
  cases v<;>simp only [b6.F2,reduceCtorEq,b6.d.injEq] at h1<;>subst h1<;>exact ⟨_,rfl,h2⟩
theorem lQ:∀ {x:List SV} {v:List b6} {y:List SD},r9.g C vs x v->gQ x=some y->∃ d,L7 v=some d/\D7.g C vs y d
 |[],_,_,h,h1=>by simp only [r9.g] at h;subst h;simp only [gQ,Option.some.injEq] at h1;subst h1;exact ⟨[],rfl,by simp [D7.g]⟩
 |x::xs,_,_,h,h1=>by
  simp only [r9.g] at h;obtain ⟨d,ds,rfl,h2,h3⟩:=h;simp only [gQ] at h1;split at h1
  ·rename_i a ha
   split at h1
   ·rename_i as has
    simp only [Option.some.injEq] at h1;subst h1;obtain ⟨e,e1,e2⟩:=SV.Tv h2 ha;obtain ⟨es,e3,e4⟩:=lQ h3 has;exact ⟨e::es,by simp [L7,e1,e3],by simp only [D7.g];exact ⟨_,_,rfl,e2,e4⟩⟩
   ·cases h1
  ·cases h1
theorem MU (v:b6):(PB v).g C vs v:=by
 cases v<;>simp [PB,SV.g,SD.g]
theorem Mp {x:List SV}{v:List b6}(h:r9.g C vs x v)(j:Nat):(x.getD j .any).g C vs (v.getD j .any):=by
 rw [List.getD_eq_getElem?_getD,List.getD_eq_getElem?_getD];cases e:x[j]? with
 |none=>rw [r9.none h e];simp [SV.g]
 |some a=>obtain ⟨b,h1,h2⟩:=r9.get h e;rw [h1];exact h2
theorem BP {T L:List SV}{T' L' :List b6}(hT:r9.g C vs T T')(hL:r9.g C vs L L')(x:r8):(bz T L x).g C vs (F0 T' L' x):=by
 cases x with
 |loc j=>exact SV.ny (Mp hL j)
 |slot j=>exact SV.ny (Mp hT j)
 |const v=>exact MU _
end
def Rr (H:List SO)(id off n:Nat):Option (List SV):=match H[id]? with
 |some (.cells _ l)=>if J7 (off+n) l.length then some ((l.drop off).take n) else none
 |_=>none
def uz (l:List SV)(off:Nat)(vs:List SV):List SV:=l.take off++vs++l.drop (off+vs.length)
def swr (H:List SO)(id off:Nat)(p:Option Nat)(vs:List SV):Option (List SO):=match H[id]? with
 |some (.cells _ l)=>if J7 (off+vs.length) l.length then some (H.set id (.cells (if y4 off 0&&y4 vs.length l.length then p else none) (uz l off vs))) else none
 |_=>none
section
variable {C:Ctx} {vs:List Nat}
theorem zz {H:List SO}{H' :o6}{id off n:Nat}{l:List SV}(h:E7.g C vs H H')(h1:Rr H id off n=some l):∃ cs,rd H' id off n=some cs/\r9.g C vs l cs:=by
 unfold Rr at h1;split at h1
 ·rename_i p l' hl
  split at h1
  ·rename_i hb
   have hb:=m6 hb;cases h1;obtain ⟨o,h2,h3⟩:=E7.get h hl;obtain ⟨cs,rfl,h4,_⟩:=h3;refine ⟨(cs.drop off).take n,?_,r9.take (r9.drop h4 off) n⟩;have:=r9.len h4;simp only [rd,h2];rw [if_pos (by omega)]
  ·cases h1
 ·cases h1
theorem zD {l vl:List SV}{l' vl' :List b6}(off:Nat)(h:r9.g C vs l l')(h1:r9.g C vs vl vl'):r9.g C vs (uz l off vl) (splice l' off vl'):=by
 unfold uz splice;rw [r9.len h1];exact r9.app (r9.app (r9.take h off) h1) (r9.drop h _)
theorem Zs {H H2:List SO}{H' :o6}{id off:Nat}{p:Option Nat}{vl:List SV}{cs:List b6}(h:E7.g C vs H H')(hv:r9.g C vs vl cs)(hp:∀ k,p=some k->C.Θ k (cs.map b6.F2))(h1:swr H id off p vl=some H2) :
  ∃ H3,wr H' id off cs=some H3/\E7.g C vs H2 H3:=by
 unfold swr at h1;split at h1
 ·rename_i p' l hl
  split at h1
  ·rename_i hb
   have hb:=m6 hb;cases h1;obtain ⟨o,h2,h3⟩:=E7.get h hl;obtain ⟨cs',rfl,h4,_⟩:=h3;have e1:=r9.len h4;have e2:=r9.len hv;refine ⟨H'.set id (.cells (splice cs' off cs)),?_,E7.set h id ⟨_,rfl,zD off h4 hv,?_⟩⟩
   ·simp only [wr,h2]
    rw [if_pos (by omega)]
   ·intro k hk
    split at hk
    ·rename_i hc
     simp only [b5] at hc;have c1:=b8 hc.1;have c2:=b8 hc.2;subst c1;have:splice cs' 0 cs=cs:=by
      unfold splice;rw [m7 (by omega)];simp
     rw [this];exact hp k hk
    ·cases hk
  ·cases h1
 ·cases h1
end
def wG (cells:List SV):List (Nat×Nat×SV)->Option (List SV)
 |[]=>some cells
 |(off,sz,v)::rest=>match v.cells? with
  |some l=>if y4 l.length sz&&J7 (off+sz) cells.length then wG (uz cells off l) rest else none
  |none=>none
inductive LJ (C:Ctx) (vs:List Nat):List (Nat×Nat×SV)->List (Nat×Nat×b6)->Prop where
 |nil:LJ C vs [] []
 |cons {o s:Nat} {x:SV} {a:b6} {r r'}:x.g C vs a->LJ C vs r r' ->LJ C vs ((o,s,x)::r) ((o,s,a)::r')
theorem uw {C:Ctx}{vs:List Nat}:∀ {ps:List (Nat×Nat×SV)} {qs:List (Nat×Nat×b6)} {cells l:List SV} {cs:List b6},LJ C vs ps qs->r9.g C vs cells cs->wG cells ps=some l->∃ ds,bg cs qs=some ds/\r9.g C vs l ds
 |[],_,_,_,cs,hp,hc,h=>by
  cases hp;simp only [wG,Option.some.injEq] at h;subst h;exact ⟨cs,rfl,hc⟩
 |(o,s,x)::r,_,_,_,cs,hp,hc,h=>by
  cases hp with
  |cons hx hr =>
   simp only [wG] at h;split at h
   ·rename_i l' hl
    split at h
    ·rename_i hb
     simp only [b5] at hb;have c1:=b8 hb.1;have c2:=m6 hb.2;obtain ⟨ds,h1,h2,_⟩:=SV.AH hx hl;have e1:=r9.len h2;have e2:=r9.len hc;obtain ⟨es,h3,h4⟩:=uw hr (zD o hc h2) h;refine ⟨es,?_,h4⟩;simp only [bg,h1];rw [if_pos (by omega)];exact h3
    ·cases h
   ·cases h
theorem qc {C:Ctx}{vs:List Nat}{σ:r8->SV}{ρ:r8->b6}(hρ:∀ x,(σ x).g C vs (ρ x)):∀ (parts:List (Nat×Nat×r8)),LJ C vs (parts.map fun (o,s,x)=>(o,s,σ x)) (parts.map fun (o,s,x)=>(o,s,ρ x))
 |[]=> .nil
 |(_,_,x)::r=> .cons (hρ x) (qc hρ r)
theorem vQ {C:Ctx}{vs:List Nat}:∀ l:List b6,r9.g C vs (l.map PB) l
 |[]=>by simp [r9.g]
 |a::l=>by simp only [G7,r9.g];exact ⟨_,_,rfl,MU a,vQ l⟩
def mn:Int:= -9223372036854775808
def mx:Int:=9223372036854775807
def isI (k:IntKind):Bool:=LF k .i64
def SB.not:SB->SB
 | .qU=> .qU
 | .cmp i n p=> .cmp i n (!p)
def VT:Int×Int×Rel->Int×Int×Rel->SD
 |(l1,h1,r1),(l2,h2,r2) =>
  if decide (h1<l2) then .lit (.bool true) else if decide (h2<=l1) then .lit (.bool false) else
  match r2,r1 with
  | .eq i,_=>if decide (l1=h1)&&decide (0<=l1) then .bool (.cmp i l1.toNat true) else .bool .qU
  |_,.eq i=>if decide (l2=h2)&&decide (1<=l2) then .bool (.cmp i (l2 - 1).toNat false) else .bool .qU
  |_,_=> .bool .qU
def SD.neg:SD->SD
 | .lit (.bool b)=> .lit (.bool (!b))
 | .bool c=> .bool c.not
 |_=> .top
def sEq:Int×Int×Rel->Int×Int×Rel->SD
 |(l1,h1,r1),(l2,h2,r2) =>
  if decide (h1<l2)||decide (h2<l1) then .lit (.bool false) else if decide (l1=h1)&&decide (l2=h2)&&decide (l1=l2) then .lit (.bool true) else
  match r1,r2 with
  | .eq i,_=>if decide (l2=h2)&&decide (l2=0) then .bool (.cmp i 0 false) else .bool .qU
  |_,.eq i=>if decide (l1=h1)&&decide (l1=0) then .bool (.cmp i 0 false) else .bool .qU
  |_,_=> .bool .qU
def SH (k:IntKind)(lo hi:Int)(r:Rel):Option SD:=if isI k&&decide (mn<=lo)&&decide (hi<=mx) then some (if decide (lo=hi) then .lit (.int k lo) else .int k lo hi r) else none
def Ix (op:BinOp)(k:IntKind)(a b:Int×Int×Rel):Option SD :=
 match op with
 | .add=>SH k (a.1+b.1) (a.2.1+b.2.1) .no
 | .sub=>SH k (a.1 - b.2.1) (a.2.1 - b.1) .no
 | .mul=>if decide (0<=a.1)&&decide (0<=b.1) then SH k 0 (a.2.1 * b.2.1) .no else none
 | .quo=>if decide (0<=a.1)&&decide (b.1=b.2.1)&&decide (1<=b.1) then SH k (a.1.tdiv b.1) (a.2.1.tdiv b.1) .no else none
 | .rem=>if decide (1<=b.1) then (if decide (0<=a.1) then SH k 0 (min a.2.1 (b.2.1 - 1)) (match b.2.2 with| .eq i=> .lt i|_=> .no) else SH k (1 - b.2.1) (b.2.1 - 1) .no) else none
 | .eql=>some (sEq a b)
 | .neq=>some (sEq a b).neg
 | .lss=>some (VT a b)
 | .gtr=>some (VT b a)
 | .leq=>some (VT b a).neg
 | .geq=>some (VT a b).neg
 |_=>none
def ND (op:BinOp)(a b:Nat×Option (List UInt8)):Option SD :=
 match op with
 | .add=>if J7 (a.1+b.1) 4000000000 then (match a.2,b.2 with
  |some s,some t=>some (.lit (.str (s++t)))
  |_,_=>some (.str (a.1+b.1))) else none
 | .eql=>match a.2,b.2 with
  |some s,some t=>some (.lit (.bool (s==t)))
  |_,_=>some (.bool .qU)
 | .neq=>match a.2,b.2 with
  |some s,some t=>some (.lit (.bool (!(s==t))))
  |_,_=>some (.bool .qU)
 |_=>none
def UZ (B:ig)(op:BinOp)(x y:SD):Option SD :=
 match x.int? B,y.int? B with
 |some (k,a),some (k',b)=>if LF k k' then Ix op k a b else none
 |_,_=>match x.qq,y.qq with
  |some a,some b=>ND op a b
  |_,_=>none
section
variable {C:Ctx} {vs:List Nat} {B:ig}
theorem zq {k:IntKind}{lo hi:Int}{r:Rel}{x:SD}{n:Int}(h:SH k lo hi r=some x)(h1:lo<=n)(h2:n<=hi)(h3:r.g vs n):x.g C vs (.int k (k.wrap n))/\k.wrap n=n:=by
 unfold SH at h;split at h
 ·rename_i hc
  simp only [b5,decide_eq_true_eq] at hc;have e1:mn= -9223372036854775808:=rfl;have e2:mx=9223372036854775807:=rfl;rw [e1,e2] at hc;cases h;have hk:k= .i64:=of_decide_eq_true hc.1.1;subst hk;have e:IntKind.wrap .i64 n=n:=wrap_small (by omega) (by omega);rw [e];split
  ·rename_i he
   simp only [decide_eq_true_eq] at he;have:n=lo:=by omega
   subst this;exact ⟨by simp [SD.g],rfl⟩
  ·simp only [SD.g]
   exact ⟨⟨n,rfl,h1,h2,h3⟩,trivial⟩
 ·cases h
theorem Il {x:SD}{b:Bool}(h:x.g C vs (.bool b)):x.neg.g C vs (.bool (!b)):=by
 unfold SD.neg;split
 ·simp only [SD.g,Data.bool.injEq] at h ⊢
  rw [h]
 ·rename_i c
  simp only [SD.g] at h ⊢;obtain ⟨b',h1,h2⟩:=h;cases h1;refine ⟨_,rfl,?_⟩;cases c with
  |qU=>trivial
  |cmp i n p =>
   obtain ⟨m,e1,e2⟩:=h2;refine ⟨m,e1,?_⟩;rw [e2];cases p<;>cases decide (n<m)<;>rfl
 ·simp [SD.g]
theorem Iy {a b:Int×Int×Rel}{n m:Int}(h1:a.1<=n)(h2:n<=a.2.1)(h3:a.2.2.g vs n)(k1:b.1<=m)(k2:m<=b.2.1)(k3:b.2.2.g vs m):(VT a b).g C vs (.bool (decide (n<m))):=by
 obtain ⟨l1,u1,r1⟩:=a;obtain ⟨l2,u2,r2⟩:=b;simp only at *
 simp only [VT];split
 ·rename_i h;simp only [decide_eq_true_eq] at h;simp only [SD.g,Data.bool.injEq,decide_eq_true_eq];omega
 ·split
  ·rename_i h;simp only [decide_eq_true_eq] at h;simp only [SD.g,Data.bool.injEq,decide_eq_false_iff_not];omega
  ·split
   ·rename_i i
    split
    ·rename_i h
     simp only [b5,decide_eq_true_eq] at h;obtain ⟨q,e1,e2⟩:=k3;simp only [SD.g];refine ⟨_,rfl,q,e1,?_⟩;subst e2;rw [beq_true]
     congr 1
     apply propext;omega
    ·simp only [SD.g];exact ⟨_,rfl,trivial⟩
   ·rename_i i _
    split
    ·rename_i h
     simp only [b5,decide_eq_true_eq] at h;obtain ⟨q,e1,e2⟩:=h3;simp only [SD.g];refine ⟨_,rfl,q,e1,?_⟩;subst e2;rw [beq_false,<- decide_not]
     congr 1
     apply propext;omega
    ·simp only [SD.g];exact ⟨_,rfl,trivial⟩
   ·simp only [SD.g];exact ⟨_,rfl,trivial⟩
theorem SK {a b:Int×Int×Rel}{n m:Int}(h1:a.1<=n)(h2:n<=a.2.1)(h3:a.2.2.g vs n)(k1:b.1<=m)(k2:m<=b.2.1)(k3:b.2.2.g vs m):(sEq a b).g C vs (.bool (n==m)):=by
 obtain ⟨l1,u1,r1⟩:=a;obtain ⟨l2,u2,r2⟩:=b;simp only at *
 simp only [sEq];split
 ·rename_i h;simp only [Bool.or_eq_true,decide_eq_true_eq] at h;simp only [SD.g,Data.bool.injEq,beq_eq_false_iff_ne];omega
 ·split
  ·rename_i h;simp only [b5,decide_eq_true_eq] at h;simp only [SD.g,Data.bool.injEq,beq_iff_eq];omega
  ·split
   ·rename_i i _
    split
    ·rename_i h
     simp only [b5,decide_eq_true_eq] at h;obtain ⟨q,e1,e2⟩:=h3;simp only [SD.g];refine ⟨_,rfl,q,e1,?_⟩;subst e2;rw [beq_false,<- decide_not,Bool.eq_iff_iff];simp only [beq_iff_eq,decide_eq_true_eq];omega
    ·simp only [SD.g];exact ⟨_,rfl,trivial⟩
   ·rename_i i _
    split
    ·rename_i h
     simp only [b5,decide_eq_true_eq] at h;obtain ⟨q,e1,e2⟩:=k3;simp only [SD.g];refine ⟨_,rfl,q,e1,?_⟩;subst e2;rw [beq_false,<- decide_not,Bool.eq_iff_iff];simp only [beq_iff_eq,decide_eq_true_eq];omega
    ·simp only [SD.g];exact ⟨_,rfl,trivial⟩
   ·simp only [SD.g];exact ⟨_,rfl,trivial⟩
theorem zH {a b c:Int}(h0:0<=a)(h:a<=b)(hc:1<=c):a.tdiv c<=b.tdiv c:=by
 rw [Int.tdiv_eq_ediv_of_nonneg h0,Int.tdiv_eq_ediv_of_nonneg (by omega)];exact Int.ediv_le_ediv (by omega) h
theorem Ra {op:BinOp}{k:IntKind}{a b:Int×Int×Rel}{n m:Int}{x:SD}(h1:a.1<=n)(h2:n<=a.2.1)(h3:a.2.2.g vs n)(k1:b.1<=m)(k2:m<=b.2.1)(k3:b.2.2.g vs m)(h:Ix op k a b=some x) :
  ∃ d,aA op k n m=some d/\x.g C vs d:=by
 cases op<;>simp only [Ix,reduceCtorEq,Option.some.injEq] at h<;>simp only [aA]
 case add=>exact ⟨_,rfl,(zq h (by omega) (by omega) trivial).1⟩
 case sub=>exact ⟨_,rfl,(zq h (by omega) (by omega) trivial).1⟩
 case mul =>
  split at h
  ·rename_i hc
   simp only [b5,decide_eq_true_eq] at hc;exact ⟨_,rfl,(zq h (Int.mul_nonneg (by omega) (by omega)) (Int.mul_le_mul (by omega) (by omega) (by omega) (by omega)) trivial).1⟩
  ·cases h
 case quo =>
  split at h
  ·rename_i hc
   simp only [b5,decide_eq_true_eq] at hc;have hm:m=b.1:=by omega
   subst hm;rw [if_neg (by omega)];exact ⟨_,rfl,(zq h (zH (by omega) (by omega) (by omega)) (zH (by omega) (by omega) (by omega)) trivial).1⟩
  ·cases h
 case rem =>
  split at h
  ·rename_i hc
   simp only [decide_eq_true_eq] at hc;have hm:0<m:=by omega
   have hlt:=Int.tmod_lt_of_pos n hm;rw [if_neg (by omega)];refine ⟨_,rfl,?_⟩;split at h
   ·rename_i kj
    simp only [decide_eq_true_eq] at kj;have h0:=Int.tmod_nonneg (a:=n) m (by omega);have hle:n.tmod m<=n:=by
     by_cases hl:n<m
     ·rw [Int.tmod_eq_of_lt (by omega) hl]
      exact Int.le_refl _
     ·omega
    have:=(zq (C:=C) (vs:=vs) (n:=n.tmod m) h h0 (by omega) (by
     split
     ·rename_i i hi
      rw [hi] at k3;obtain ⟨q,e1,e2⟩:=k3;exact ⟨q,e1,h0,by omega⟩
     ·trivial))
    rw [<- this.2];exact this.1
   ·have hge: -m<n.tmod m:=by
     by_cases hn:n<0
     ·have e:n.tmod m= -((-n).tmod m):=by rw [<- Int.neg_tmod,Int.neg_neg]
      have:=Int.tmod_lt_of_pos (-n) hm;omega
     ·have:=Int.tmod_nonneg (a:=n) m (by omega)
      omega
    have:=(zq (C:=C) (vs:=vs) (n:=n.tmod m) h (by omega) (by omega) trivial);rw [<- this.2];exact this.1
  ·cases h
 case eql=>subst h;exact ⟨_,rfl,SK h1 h2 h3 k1 k2 k3⟩
 case neq=>subst h;exact ⟨_,rfl,Il (SK h1 h2 h3 k1 k2 k3)⟩
 case lss=>subst h;exact ⟨_,rfl,Iy h1 h2 h3 k1 k2 k3⟩
 case gtr=>subst h;exact ⟨_,rfl,Iy k1 k2 k3 h1 h2 h3⟩
 case leq =>
  subst h;refine ⟨_,rfl,?_⟩;have:=Il (Iy (C:=C) k1 k2 k3 h1 h2 h3);rw [<- decide_not] at this;have e:(decide (n<=m))=decide ¬ (m<n):=by congr 1;apply propext;omega
  rw [e];exact this
 case geq =>
  subst h;refine ⟨_,rfl,?_⟩;have:=Il (Iy (C:=C) h1 h2 h3 k1 k2 k3);rw [<- decide_not] at this;have e:(decide (n≥m))=decide ¬ (n<m):=by congr 1;apply propext;omega
  rw [e];exact this
theorem Rb {op:BinOp}{a b:Nat×Option (List UInt8)}{s t:List UInt8}{x:SD}(h1:s.length<=a.1)(h2:∀ u,a.2=some u->s=u)(k1:t.length<=b.1)(k2:∀ u,b.2=some u->t=u)(h:ND op a b=some x) :
  ∃ d,qX op s t=some d/\x.g C vs d:=by
 cases op<;>simp only [ND,reduceCtorEq] at h<;>simp only [qX]
 case add =>
  split at h
  ·rename_i hc
   have hc:=m6 hc;rw [if_pos (by omega)];refine ⟨_,rfl,?_⟩;split at h
   ·rename_i u w hu hw
    cases h;rw [h2 _ hu,k2 _ hw];simp [SD.g]
   ·cases h
    simp only [SD.g];exact ⟨_,rfl,by simp;omega⟩
  ·cases h
 case eql =>
  refine ⟨_,rfl,?_⟩;split at h
  ·rename_i u w hu hw
   cases h;rw [h2 _ hu,k2 _ hw];simp [SD.g]
  ·cases h
   simp only [SD.g];exact ⟨_,rfl,trivial⟩
 case neq =>
  refine ⟨_,rfl,?_⟩;split at h
  ·rename_i u w hu hw
   cases h;rw [h2 _ hu,k2 _ hw];simp [SD.g]
  ·cases h
   simp only [SD.g];exact ⟨_,rfl,trivial⟩
theorem Va (hB:Bg vs B){op:BinOp}{x y z:SD}{a b:Data}(hx:x.g C vs a)(hy:y.g C vs b)(h:UZ B op x y=some z):∃ d,K5 op a b=some d/\z.g C vs d:=by
 unfold UZ at h;split at h
 ·rename_i k p k' q hp hq
  split at h
  ·rename_i hk
   have hk:k=k' :=of_decide_eq_true hk;subst hk;obtain ⟨n,rfl,h1,h2,h3⟩:=SD.iw hB hp hx;obtain ⟨m,rfl,k1,k2,k3⟩:=SD.iw hB hq hy;obtain ⟨d,e1,e2⟩:=Ra (C:=C) (vs:=vs) h1 h2 h3 k1 k2 k3 h;refine ⟨d,?_,e2⟩;have hs:V1 op=false:=by cases op<;>first|rfl|(simp [Ix] at h;done)
   simp [K5,hs,e1]
  ·cases h
 ·split at h
  ·rename_i p q hp hq
   obtain ⟨p1,p2⟩:=p;obtain ⟨q1,q2⟩:=q;obtain ⟨s,rfl,h1,h2⟩:=SD.sv hp hx;obtain ⟨t,rfl,k1,k2⟩:=SD.sv hq hy;obtain ⟨d,e1,e2⟩:=Rb (C:=C) (vs:=vs) (a:=(p1,p2)) (b:=(q1,q2)) h1 h2 k1 k2 h;exact ⟨d,by simp [K5,e1],e2⟩
  ·cases h
end
def SB.join:SB->SB->SB
 | .cmp i n p,.cmp j m q=>if y4 i j&&y4 n m&&(p==q) then .cmp i n p else .qU
 |_,_=> .qU
def Et:Option Nat->Option Nat->Option Nat
 |some i,some j=>if y4 i j then some i else none
 |_,_=>none
def SD.strip:SD->SD
 | .pr _ x=>x.strip
 |x=>x
def Ig (a b:Data):SD:=match a,b with
 | .slice n cs,.slice m ds =>
  if y4 cs.length (n * (if y4 n 0 then ds.length / m else cs.length / n))&&y4 ds.length (m * (if y4 n 0 then ds.length / m else cs.length / n)) then
   .slice none (min n m) (max n m) (DQ (if y4 n 0 then ds.length / m else cs.length / n) (rowsOf (if y4 n 0 then ds.length / m else cs.length / n) n cs++rowsOf (if y4 n 0 then ds.length / m else cs.length / n) m ds))
  else .top
 |a,b=>Di a b
def yo (x:SD)(b:Data):SD:=match x,b with
 | .slice _ lo hi row,.slice n cells=>if y4 cells.length (n * row.length) then .slice none (min lo n) (max hi n) ((rowsOf row.length n cells).foldl nq row) else .top
 | .anyI k,.int k' _=>if LF k k' then .anyI k else .top
 |x,b=>KZ x b
mutual
def SD.join:SD->SD->SD
 | .lit a,y=>match y with
  | .lit b=>if Kr a b then .lit a else Ig a b
  |y=>yo y.strip a
 | .pr k x,y=>match y with
  | .pr k' y' =>if y4 k k' then .pr k (x.join y') else x.join y'
  |y=>x.join y
 | .int k lo hi r,y=>match y.strip with
  | .lit b=>yo (.int k lo hi r) b
  | .int k' lo' hi' r' =>if LF k k' then .int k (min lo lo') (max hi hi') (r.join r') else .top
  | .anyI k' =>if LF k k' then .anyI k else .top
  |_=> .top
 | .anyI k,y=>match y.strip with
  | .lit b=>yo (.anyI k) b
  | .int k' _ _ _=>if LF k k' then .anyI k else .top
  | .anyI k' =>if LF k k' then .anyI k else .top
  |_=> .top
 | .str m,y=>match y.strip with
  | .lit b=>yo (.str m) b
  | .str m' => .str (max m m')
  |_=> .top
 | .bool c,y=>match y.strip with
  | .lit b=>yo (.bool c) b
  | .bool c' => .bool (c.join c')
  |_=> .top
 | .slice v lo hi row,y=>match y.strip with
  | .lit b=>yo (.slice v lo hi row) b
  | .slice v' lo' hi' row' =>if y4 row.length row'.length then .slice (Et v v') (min lo lo') (max hi hi') (D7.join row row') else .top
  |_=> .top
 | .top,_=> .top
def D7.join:List SD->List SD->List SD
 |x::xs,y::ys=>x.join y::D7.join xs ys
 |_,_=>[]
end
section
variable {C:Ctx} {vs:List Nat}
theorem SD.jY:∀ {x:SD} {d:Data},x.g C vs d->x.strip.g C vs d
 | .pr _ x,_,h=>by simp only [SD.g] at h;simp only [SD.strip];exact SD.jY h.2
 | .top,_,h=>h
 | .lit _,_,h=>h
 | .bool _,_,h=>h
 | .int ..,_,h=>h
 | .anyI _,_,h=>h
 | .str _,_,h=>h
 | .slice ..,_,h=>h
theorem Ih (a b:Data):(Ig a b).g C vs a/\(Ig a b).g C vs b:=by
 unfold Ig;split
 ·rename_i n cs m ds
  generalize (if y4 n 0 then ds.length / m else cs.length / n)=sz;split
  ·rename_i hc
   simp only [b5] at hc;have c1:=b8 hc.1;have c2:=b8 hc.2;obtain ⟨e1,e2,e3⟩:=ct n cs c1;obtain ⟨f1,f2,f3⟩:=ct m ds c2;obtain ⟨g1,_⟩:=Iv (C:=C) (vs:=vs) (sz:=sz) (rs:=rowsOf sz n cs++rowsOf sz m ds) (fun r hr=>(List.mem_append.1 hr).elim (e3 r) (f3 r));simp only [SD.g];exact ⟨⟨_,by rw [e1,e2],by omega,by omega,(fun i h=>by cases h),fun r hr=>g1 r (List.mem_append_left _ hr)⟩,⟨_,by rw [f1,f2],by omega,by omega,(fun i h=>by cases h),fun r hr=>g1 r (List.mem_append_right _ hr)⟩⟩
  ·simp [SD.g]
 ·exact Bi a b
theorem rU {x:SD}{a:Data}(b:Data)(h:x.g C vs a):(yo x b).g C vs a:=by
 unfold yo;split
 ·rename_i v lo hi row n cells
  split
  ·rename_i hc
   have hc:=b8 hc;simp only [SD.g] at h ⊢;obtain ⟨rows,rfl,h1,h2,h3,h4⟩:=h;obtain ⟨e1,e2,e3⟩:=ct n cells hc;obtain ⟨f1,_,_⟩:=ug (C:=C) (vs:=vs) (rowsOf row.length n cells) row rfl e3;exact ⟨rows,rfl,by omega,by omega,(fun i h=>by cases h),fun r hr=>f1 r (D7.len (h4 r hr)) (h4 r hr)⟩
  ·simp [SD.g]
 ·split
  ·rename_i hk
   simp only [SD.g] at h ⊢;exact h
  ·simp [SD.g]
 ·exact NK b h
theorem rV (x:SD)(b:Data):(yo x b).g C vs b:=by
 unfold yo;split
 ·rename_i v lo hi row n cells
  split
  ·rename_i hc
   have hc:=b8 hc;simp only [SD.g];obtain ⟨e1,e2,e3⟩:=ct n cells hc;obtain ⟨_,f2,_⟩:=ug (C:=C) (vs:=vs) (rowsOf row.length n cells) row rfl e3;exact ⟨_,by rw [e1,e2],by omega,by omega,(fun i h=>by cases h),f2⟩
  ·simp [SD.g]
 ·split
  ·rename_i k k' n hk
   have hk:k=k' :=of_decide_eq_true hk;subst hk;simp only [SD.g];exact ⟨_,rfl⟩
  ·simp [SD.g]
 ·exact NL _ b
theorem SB.R4 {a b:SB}{t:Bool}(h:a.g vs t):(a.join b).g vs t:=by
 unfold SB.join;split
 ·split
  ·exact h
  ·trivial
 ·trivial
theorem SB.R5 {a b:SB}{t:Bool}(h:b.g vs t):(a.join b).g vs t:=by
 unfold SB.join;split
 ·split
  ·rename_i hc
   simp only [b5,beq_iff_eq] at hc;obtain ⟨⟨h1,h2⟩,h3⟩:=hc;rw [b8 h1,b8 h2,h3];exact h
  ·trivial
 ·trivial
theorem Rel.R4 {a b:Rel}{t:Int}(h:a.g vs t):(a.join b).g vs t:=by
 unfold Rel.join;split
 ·split
  ·exact h
  ·trivial
 ·split
  ·exact h
  ·trivial
 ·trivial
theorem Rel.R5 {a b:Rel}{t:Int}(h:b.g vs t):(a.join b).g vs t:=by
 unfold Rel.join;split
 ·split
  ·rename_i hc
   rw [b8 hc];exact h
  ·trivial
 ·split
  ·rename_i hc
   rw [b8 hc];exact h
  ·trivial
 ·trivial
theorem RA {v w:Option Nat}{m:Nat}(h:∀ i,v=some i->vs[i]? =some m):∀ i,Et v w=some i->vs[i]? =some m:=by
 intro i hi;unfold Et at hi;split at hi
 ·split at hi
  ·cases hi;exact h _ rfl
  ·cases hi
 ·cases hi
theorem RB {v w:Option Nat}{m:Nat}(h:∀ i,w=some i->vs[i]? =some m):∀ i,Et v w=some i->vs[i]? =some m:=by
 intro i hi;unfold Et at hi;split at hi
 ·split at hi
  ·rename_i hc
   cases hi;rw [b8 hc];exact h _ rfl
  ·cases hi
 ·cases hi
mutual
theorem SD.R4:∀ (x y:SD) {d:Data},x.g C vs d->(x.join y).g C vs d
 | .lit a,y,_,h=>by
  simp only [SD.join];split
  ·split
   ·exact h
   ·simp only [SD.g] at h;subst h;exact (Ih _ _).1
  ·simp only [SD.g] at h
   subst h;exact rV _ _
 | .pr k x,y,_,h=>by
  simp only [SD.g] at h;simp only [SD.join];split
  ·split
   ·simp only [SD.g];exact ⟨h.1,SD.R4 x _ h.2⟩
   ·exact SD.R4 x _ h.2
  ·exact SD.R4 x _ h.2
 | .int k lo hi r,y,_,h=>by
  simp only [SD.join];split
  ·exact rU _ h
  ·split
   ·simp only [SD.g] at h ⊢
    obtain ⟨n,rfl,h1,h2,h3⟩:=h;exact ⟨n,rfl,by omega,by omega,Rel.R4 (a:=r) h3⟩
   ·simp [SD.g]
  ·split
   ·simp only [SD.g] at h ⊢
    obtain ⟨n,rfl,_⟩:=h;exact ⟨n,rfl⟩
   ·simp [SD.g]
  ·simp [SD.g]
 | .anyI k,y,_,h=>by
  simp only [SD.join];split
  ·exact rU _ h
  ·split
   ·exact h
   ·simp [SD.g]
  ·split
   ·exact h
   ·simp [SD.g]
  ·simp [SD.g]
 | .str m,y,_,h=>by
  simp only [SD.join];split
  ·exact rU _ h
  ·simp only [SD.g] at h ⊢
   obtain ⟨s,rfl,h1⟩:=h;exact ⟨s,rfl,by omega⟩
  ·simp [SD.g]
 | .bool c,y,_,h=>by
  simp only [SD.join];split
  ·exact rU _ h
  ·simp only [SD.g] at h ⊢
   obtain ⟨s,rfl,h1⟩:=h;exact ⟨s,rfl,SB.R4 (a:=c) h1⟩
  ·simp [SD.g]
 | .slice v lo hi row,y,_,h=>by
  simp only [SD.join];split
  ·exact rU _ h
  ·split
   ·rename_i hc
    have hc:=b8 hc;simp only [SD.g] at h ⊢;obtain ⟨rows,rfl,h1,h2,h3,h4⟩:=h;exact ⟨rows,rfl,by omega,by omega,RA h3,fun r hr=>D7.R4 row _ hc (h4 r hr)⟩
   ·simp [SD.g]
  ·simp [SD.g]
 | .top,y,_,h=>by simp [SD.join,SD.g]
theorem D7.R4:∀ (x y:List SD) {d:List Data},x.length=y.length->D7.g C vs x d->D7.g C vs (D7.join x y) d
 |[],[],_,_,h=>by simpa [D7.join] using h
 |[],_::_,_,hl,h=>by simp at hl
 |_::_,[],_,hl,h=>by simp at hl
 |x::xs,y::ys,_,hl,h=>by
  simp only [D7.g] at h;obtain ⟨d,ds,rfl,h1,h2⟩:=h;simp only [D7.join,D7.g];exact ⟨_,_,rfl,SD.R4 x y h1,D7.R4 xs ys (by simpa using hl) h2⟩
end
mutual
theorem SD.R5:∀ (x y:SD) {d:Data},y.g C vs d->(x.join y).g C vs d
 | .lit a,y,_,h=>by
  simp only [SD.join];split
  ·split
   ·rename_i hc
    rw [AR _ _ hc];exact h
   ·simp only [SD.g] at h;subst h;exact (Ih _ _).2
  ·exact rU _ (SD.jY h)
 | .pr k x,y,_,h=>by
  simp only [SD.join];split
  ·simp only [SD.g] at h
   split
   ·rename_i hc
    simp only [SD.g];rw [b8 hc];exact ⟨h.1,SD.R5 x _ h.2⟩
   ·exact SD.R5 x _ h.2
  ·exact SD.R5 x _ h
 | .int k lo hi r,y,_,h=>by
  have h:=SD.jY h;simp only [SD.join];split
  ·rename_i e;rw [e] at h;simp only [SD.g] at h;subst h;exact rV _ _
  ·rename_i e
   rw [e] at h;split
   ·rename_i hk
    have hk:=of_decide_eq_true hk;subst hk;simp only [SD.g] at h ⊢;obtain ⟨n,rfl,h1,h2,h3⟩:=h;exact ⟨n,rfl,by omega,by omega,Rel.R5 (a:=r) h3⟩
   ·simp [SD.g]
  ·rename_i e
   rw [e] at h;split
   ·rename_i hk
    have hk:=of_decide_eq_true hk;subst hk;exact h
   ·simp [SD.g]
  ·simp [SD.g]
 | .anyI k,y,_,h=>by
  have h:=SD.jY h;simp only [SD.join];split
  ·rename_i e;rw [e] at h;simp only [SD.g] at h;subst h;exact rV _ _
  ·rename_i e
   rw [e] at h;split
   ·rename_i hk
    have hk:=of_decide_eq_true hk;subst hk;simp only [SD.g] at h ⊢;obtain ⟨n,rfl,_⟩:=h;exact ⟨n,rfl⟩
   ·simp [SD.g]
  ·rename_i e
   rw [e] at h;split
   ·rename_i hk
    have hk:=of_decide_eq_true hk;subst hk;exact h
   ·simp [SD.g]
  ·simp [SD.g]
 | .str m,y,_,h=>by
  have h:=SD.jY h;simp only [SD.join];split
  ·rename_i e;rw [e] at h;simp only [SD.g] at h;subst h;exact rV _ _
  ·rename_i e
   rw [e] at h;simp only [SD.g] at h ⊢;obtain ⟨s,rfl,h1⟩:=h;exact ⟨s,rfl,by omega⟩
  ·simp [SD.g]
 | .bool c,y,_,h=>by
  have h:=SD.jY h;simp only [SD.join];split
  ·rename_i e;rw [e] at h;simp only [SD.g] at h;subst h;exact rV _ _
  ·rename_i e
   rw [e] at h;simp only [SD.g] at h ⊢;obtain ⟨s,rfl,h1⟩:=h;exact ⟨s,rfl,SB.R5 (a:=c) h1⟩
  ·simp [SD.g]
 | .slice v lo hi row,y,_,h=>by
  have h:=SD.jY h;simp only [SD.join];split
  ·rename_i e;rw [e] at h;simp only [SD.g] at h;subst h;exact rV _ _
  ·rename_i e
   rw [e] at h;split
   ·rename_i hc
    have hc:=b8 hc;simp only [SD.g] at h ⊢;obtain ⟨rows,rfl,h1,h2,h3,h4⟩:=h;exact ⟨rows,rfl,by omega,by omega,RB h3,fun r hr=>D7.R5 row _ hc (h4 r hr)⟩
   ·simp [SD.g]
  ·simp [SD.g]
 | .top,y,_,h=>by simp [SD.join,SD.g]
theorem D7.R5:∀ (x y:List SD) {d:List Data},x.length=y.length->D7.g C vs y d->D7.g C vs (D7.join x y) d
 |[],[],_,_,h=>by simpa [D7.join] using h
 |[],_::_,_,hl,h=>by simp at hl
 |_::_,[],_,hl,h=>by simp at hl
 |x::xs,y::ys,_,hl,h=>by
  simp only [D7.g] at h;obtain ⟨d,ds,rfl,h1,h2⟩:=h;simp only [D7.join,D7.g];exact ⟨_,_,rfl,SD.R5 x y h1,D7.R5 xs ys (by simpa using hl) h2⟩
end
theorem D7.Df:∀ (x y:List SD),x.length=y.length->(D7.join x y).length=x.length
 |[],[],_=>rfl
 |[],_::_,h=>by simp at h
 |_::_,[],h=>by simp at h
 |x::xs,y::ys,h=>by simp only [D7.join,y8];rw [D7.Df xs ys (by simpa using h)]
end
def ql (sz:Nat):Nat->List SD->List (List SD)
 |0,_=>[]
 |n+1,cs=>cs.take sz::ql sz n (cs.drop sz)
def NG (sz:Nat):List (List SD)->List SD
 |[]=>c9 sz .top
 |r::rs=>rs.foldl D7.join r
def Dh :List SD->Option (List Data)
 |[]=>some []
 | .lit d::r=>match Dh r with
  |some ds=>some (d::ds)
  |none=>none
 |_=>none
def mkSlice (sz len:Nat)(xs:List SD):SD:=match Dh xs with
 |some ds=> .lit (.slice len ds)
 |none=> .slice none len len (NG sz (ql sz len xs))
section
variable {C:Ctx} {vs:List Nat}
theorem MI:∀ {xs:List SD} {ds es:List Data},Dh xs=some ds->D7.g C vs xs es->es=ds
 |[],_,_,h,hg=>by simp only [Dh,Option.some.injEq] at h;subst h;simpa only [D7.g] using hg
 |x::xs,_,_,h,hg=>by
  simp only [D7.g] at hg;obtain ⟨d,ds',rfl,h1,h2⟩:=hg;cases x<;>simp only [Dh,reduceCtorEq] at h;split at h
  ·rename_i ds hds
   cases h;simp only [SD.g] at h1;rw [h1,MI hds h2]
  ·cases h
theorem DV {sz:Nat}:∀ (rs:List (List SD)) (x:List SD),x.length=sz->(∀ r,r ∈ rs->r.length=sz)->(∀ a,D7.g C vs x a->D7.g C vs (rs.foldl D7.join x) a)/\(∀ r a,r ∈ rs->D7.g C vs r a->D7.g C vs (rs.foldl D7.join x) a)/\(rs.foldl D7.join x).length=sz
 |[],x,hx,_=>⟨fun a h=>h,by simp,hx⟩
 |r::rs,x,hx,hr=>by
  have hrl:=hr r (by simp);have hl:(D7.join x r).length=sz:=by rw [D7.Df _ _ (by omega)];exact hx
  obtain ⟨h1,h2,h3⟩:=DV rs (D7.join x r) hl (fun r' h=>hr r' (by simp [h]));refine ⟨fun a h=>h1 a (D7.R4 x r (by omega) h),fun r' a h hg=> ?_,h3⟩
  rcases B8.1 h with rfl|h
  ·exact h1 _ (D7.R5 x r' (by omega) hg)
  ·exact h2 _ _ h hg
theorem D7.take {x:List SD}:∀ {d:List Data},D7.g C vs x d->∀ n,D7.g C vs (x.take n) (d.take n):=by
 induction x with
 |nil=>intro d h n;simp only [D7.g] at h;subst h;simp [D7.g]
 |cons x xs ih =>
  intro d h n;simp only [D7.g] at h;obtain ⟨d,ds,rfl,h2,h3⟩:=h;cases n with
  |zero=>simp [D7.g]
  |succ n=>simp only [List.take_succ_cons,D7.g];exact ⟨_,_,rfl,h2,ih h3 n⟩
theorem D7.drop {x:List SD}:∀ {d:List Data},D7.g C vs x d->∀ n,D7.g C vs (x.drop n) (d.drop n):=by
 induction x with
 |nil=>intro d h n;simp only [D7.g] at h;subst h;simp [D7.g]
 |cons x xs ih =>
  intro d h n;have h' :=h;simp only [D7.g] at h;obtain ⟨d,ds,rfl,h2,h3⟩:=h;cases n with
  |zero=>exact h'
  |succ n=>simpa using ih h3 n
theorem Iz {sz:Nat}:∀ (n:Nat) {xs:List SD} {ds:List Data},xs.length=n * sz->D7.g C vs xs ds ->
  ∃ rows:List (List Data),rows.flatten=ds/\rows.length=n/\(∀ r,r ∈ ql sz n xs->r.length=sz)/\∀ r,r ∈ rows->∃ s,s ∈ ql sz n xs/\D7.g C vs s r
 |0,xs,ds,hl,h=>by
  have:xs=[]:=List.eq_nil_of_length_eq_zero (by omega);subst this;simp only [D7.g] at h;subst h;exact ⟨[],rfl,rfl,by simp [ql],by simp⟩
 |n+1,xs,ds,hl,h=>by
  rw [Nat.succ_mul] at hl;obtain ⟨rows,h1,h2,h3,h4⟩:=Iz (sz:=sz) n (xs:=xs.drop sz) (by simp;omega) (D7.drop h sz);refine ⟨ds.take sz::rows,by simp [h1],by simp [h2],fun r hr=> ?_,fun r hr=> ?_⟩
  ·simp only [ql,B8] at hr
   rcases hr with rfl|hr
   ·simp;omega
   ·exact h3 r hr
  ·rcases B8.1 hr with rfl|hr
   ·exact ⟨_,by simp [ql],D7.take h sz⟩
   ·obtain ⟨s,h5,h6⟩:=h4 r hr
    exact ⟨s,by simp [ql,h5],h6⟩
theorem mW {sz len:Nat}{xs:List SD}{ds:List Data}(hl:xs.length=len * sz)(h:D7.g C vs xs ds):(mkSlice sz len xs).g C vs (.slice len ds):=by
 unfold mkSlice;split
 ·rename_i es RU
  simp only [SD.g];rw [MI RU h]
 ·obtain ⟨rows,h1,h2,h3,h4⟩:=Iz len hl h
  simp only [SD.g];refine ⟨rows,by rw [h1,h2],by omega,by omega,(fun i e=>by cases e),fun r hr=> ?_⟩;obtain ⟨s,h5,h6⟩:=h4 r hr;cases hs:ql sz len xs with
  |nil=>rw [hs] at h5;cases h5
  |cons q qs =>
   rw [hs] at h5 h3;obtain ⟨f1,f2,_⟩:=DV (C:=C) (vs:=vs) qs q (h3 q (by simp)) (fun r hr=>h3 r (by simp [hr]));simp only [NG]
   rcases B8.1 h5 with rfl|h5
   ·exact f1 _ h6
   ·exact f2 _ _ h5 h6
end
def exact? (B:ig)(x:SD):Option Int:=match x.int? B with
 |some (_,a,b,_)=>if decide (a=b) then some a else none
 |none=>none
def wB (σ:r8->SV)(B:ig)(dl dh:Int):Option r8->Option (Int×Int)
 |none=>some (dl,dh)
 |some x=>match σ x with
  | .d y=>match y.int? B with
   |some (_,a,b,_)=>some (a,b)
   |none=>none
  |_=>none
def MH (v:Option Nat)(lo hi:Nat):SD:=if y4 lo hi then .lit (.int .i64 lo) else .int .i64 lo hi (match v with|some i=> .eq i|none=> .no)
def inR:Rel->Option Nat->Bool
 | .lt p,some q=>y4 p q
 |_,_=>false
def wM (σ:r8->SV)(H:List SO)(B:ig):s9->Option (SV×List Nat)
 | .pick c a b=>match σ c with
  | .d x=>match x.bool? with
   |some (.t t)=>some (if t then σ a else σ b,[])
   |_=>none
  |_=>none
 | .build zero parts=>match wG (zero.map PB) (parts.map fun (o,s,x)=>(o,s,σ x)) with
  |some cs=>some (.agg none cs,[])
  |none=>none
 | .y6 sz len zero parts false=>match wG (zero.map PB) (parts.map fun (o,s,x)=>(o,s,σ x)) with
  |some cs=>match gQ cs with
   |some xs=>if Nat.blt 0 sz&&y4 xs.length (len * sz) then some (.own sz (mkSlice sz len xs),[]) else none
   |none=>none
  |none=>none
 | .load none x=>match σ x with
  | .ptr id off=>match Rr H id off 1 with
   |some [v]=>some (v.F2,[id])
   |_=>none
  | .P9 (c::_)=>some (.d c,[])
  |_=>none
 | .load (some n) x=>match σ x with
  | .ptr id off=>match H[id]? with
   |some (.cells p l)=>if J7 (off+n) l.length then some (.agg (if y4 off 0&&y4 n l.length then p else none) (((l.drop off).take n).map SV.F2),[id]) else none
   |_=>none
  | .P9 row=>if J7 n row.length then some (.agg none ((row.take n).map .d),[]) else none
  |_=>none
 | .Y5 x=>match σ x with
  | .ptr id off=>some (.ptr id off,[])
  | .P9 row=>some (.P9 row,[])
  |_=>none
 | .bin op x y=>match σ x,σ y with
  | .d a,.d b=>match UZ B op a b with
   |some z=>some (.d z,[])
   |none=>none
  |_,_=>none
 | .o8 _ x y=>match σ x,σ y with
  | .d a,.d b=>match a.bool?,b.bool? with
   |some _,some _=>some (.d (.bool .qU),[])
   |_,_=>none
  |_,_=>none
 | .un .not x=>match σ x with
  | .d a=>match a.bool? with
   |some (.t b)=>some (.d (.lit (.bool (!b))),[])
   |some (.u c)=>some (.d (.bool c.not),[])
   |none=>none
  |_=>none
 | .ki k x=>match σ x with
  | .d a=>match a.kind? with
   |some _=>some (.d (.anyI k),[])
   |none=>none
  |_=>none
 | .iq x=>match σ x with
  | .d a=>match a.slice? B 1 with
   |some (_,_,hi,[c])=>match c.kind? with
    |some .u8=>some (.d (.str hi),[])
    |_=>none
   |_=>none
  |_=>none
 | .aE sz x lo hi=>match σ x with
  | .d a=>match a.slice? B sz with
   |some (_,l1,l2,row)=>match wB σ B 0 0 lo,hi with
    |some (a1,a2),none=>if decide (0<=a1)&&decide (a2<=l1) then some (.d (.slice none (l1 - a2.toNat) (l2 - a1.toNat) row),[]) else none
    |some (a1,a2),some h=>match wB σ B 0 0 (some h) with
     |some (b1,b2)=>if decide (0<=a1)&&decide (a2<=b1)&&decide (b2<=l1) then some (.d (.slice none (b1 - a2).toNat (b2 - a1).toNat row),[]) else none
     |none=>none
    |_,_=>none
   |none=>none
  | .D0 id z a len=>match wB σ B 0 0 lo,wB σ B len len hi with
   |some (a1,a2),some (b1,b2)=>if decide (a1=a2)&&decide (b1=b2)&&decide (0<=a1)&&decide (a1<=b1)&&decide (b1<=len)&&y4 z sz then
     (if decide (a1=b1) then some (.d (.lit (.slice 0 [])),[]) else some (.D0 id sz (a+a1.toNat * sz) (b1 - a1).toNat,[])) else none
   |_,_=>none
  |_=>none
 | .off k x=>match σ x with
  | .ptr id off=>some (.ptr id (off+k),[])
  | .P9 row=>if J7 k row.length then some (.P9 (row.drop k),[]) else none
  |_=>none
 | .B7 sz x i=>match σ x,σ i with
  | .d a,.d j=>match a.slice? B sz,j.int? B with
   |some (v,lo,_,row),some (_,j1,j2,r)=>if decide (0<=j1)&&(decide (j2<lo)||inR r v) then some (.P9 row,[]) else none
   |_,_=>none
  | .D0 id z lo len,.d j=>match exact? B j with
   |some n=>if decide (0<=n)&&decide (n<len)&&y4 z sz then some (.ptr id (lo+n.toNat * sz),[]) else none
   |none=>none
  |_,_=>none
 | .extract x i=>match σ x with
  | .tuple vs=>match vs[i]? with
   |some v=>some (v,[])
   |none=>none
  |_=>none
 | .len x=>match σ x with
  | .d a=>match a.ov B with
   |some (v,lo,hi)=>some (.d (MH v lo hi),[])
   |none=>none
  | .D0 _ _ _ len=>some (.d (.lit (.int .i64 len)),[])
  |_=>none
 | .U0 x=>match σ x with
  | .d a=>match a.qq with
   |some (m,none)=>some (.d (.int .i64 0 m .no),[])
   |some (_,some s)=>some (.d (.lit (.int .i64 s.length)),[])
   |none=>none
  |_=>none
 |_=>none
end Go.u7.Sh

