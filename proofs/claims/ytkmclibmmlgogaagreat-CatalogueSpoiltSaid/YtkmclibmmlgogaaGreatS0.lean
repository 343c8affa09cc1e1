/- Texts S1 S2 S3 S4 (made short by a program) -/
import Derived.Test.YtkmclibmmlgogaaGreatB5
set_option linter.unusedVariables false
set_option linter.unusedSimpArgs false
set_option linter.unusedSectionVars false
open Bool renaming and_eq_true → b5, false_eq_true → b7
open List renaming drop_of_length_le → k9, length_cons → B7, mem_cons → C6, replicate → c9
open Nat renaming beq → r9, ble → L3, eq_of_beq_eq_true → b9, le_of_ble_eq_true → o7
namespace Go.y3.Sh
open Go.y3
inductive Rel where
 |no
 |eq (i:Nat)
 |lt (i:Nat)
inductive SB where
 |qo
 |cmp (i n:Nat) (VN:Bool)
inductive SD where
 |top
 |lit (x:Data)
 |bool (c:SB)
 |int (k:IntKind) (lo hi:Int) (r:Rel)
 |anyI (k:IntKind)
 |str (n:Nat)
 |slice (v:Option Nat) (lo hi:Nat) (row:List SD)
 |pr (k:Nat) (x:SD)
inductive SV where
 |top
 |any
 |d (x:SD)
 |own (sz:Nat) (x:SD)
 |I8
 |ptr (id off:Nat)
 |Q5 (row:List SD)
 |D4 (id sz lo len:Nat)
 |agg (p:Option Nat) (l:List SV)
 |tuple (l:List SV)
 |bn (k:Nat)  
 |q (x:SD)    
 |wp (id lo sz cnt:Nat)  
instance:Inhabited SV:=⟨.any⟩
instance:Inhabited SD:=⟨.top⟩
inductive SO where
 |dead
 |cells (p:Option Nat) (l:List SV)
 |pr (k:Nat)
 |bn (k:Nat)
 |top
 |yd (k b:Nat)  
instance:Inhabited SO:=⟨.dead⟩
structure Ctx where
 Φ:Nat->Data->Prop
 Θ:Nat->List b6->Prop
 Ψ:Nat->y7->Prop
 N4:∀ k o,Ψ k o->o.N4=0
 Ω:Nat->y7->Prop:=fun _ _=>False
def Rel.g (vs:List Nat):Rel->Int->Prop
 | .no,_=>True
 | .eq i,n=>∃ m,vs[i]? =some m/\n=(m:Int)
 | .lt i,n=>∃ m,vs[i]? =some m/\0<=n/\n<(m:Int)
def SB.g (vs:List Nat):SB->Bool->Prop
 | .qo,_=>True
 | .cmp i n VN,b=>∃ m,vs[i]? =some m/\b=(decide (n<m)==VN)
section
variable (C:Ctx)
mutual
def SD.g (vs:List Nat):SD->Data->Prop
 | .top,_=>True
 | .lit x,d=>d=x
 | .bool c,d=>∃ b,d= .bool b/\c.g vs b
 | .int k lo hi r,d=>∃ n,d= .int k n/\lo<=n/\n<=hi/\r.g vs n
 | .anyI k,d=>∃ n,d= .int k n
 | .str m,d=>∃ s,d= .str s/\s.length<=m
 | .slice v lo hi row,d=>∃ rows:List (List Data),d= .slice rows.length rows.flatten/\lo<=rows.length/\rows.length<=hi/\(∀ i,v=some i->vs[i]? =some rows.length)/\∀ r,r ∈ rows->F2.g vs row r
 | .pr k x,d=>C.Φ k d/\SD.g vs x d
def F2.g (vs:List Nat):List SD->List Data->Prop
 |[],ds=>ds=[]
 |x::xs,ds=>∃ d ds',ds=d::ds' /\SD.g vs x d/\F2.g vs xs ds'
end
mutual
def SV.g (vs:List Nat):SV->b6->Prop
 | .top,_=>True
 | .any,v=>v= .any
 | .d x,v=>∃ y,v= .d y/\SD.g C vs x y
 | .own sz x,v=>∃ len cells,v= .own sz len cells/\SD.g C vs x (.slice len cells)
 | .I8,v=>v= .I8
 | .ptr id off,v=>v= .ptr id off
 | .Q5 row,v=>∃ cells rest,v= .Q5 (cells++rest)/\F2.g C vs row cells
 | .D4 id sz lo len,v=>v= .D4 id sz lo len
 | .agg p l,v=>∃ cs,v= .agg cs/\q6.g vs l cs/\∀ k,p=some k->C.Θ k (cs.map b6.G4)
 | .tuple l,v=>∃ cs,v= .tuple cs/\q6.g vs l cs
 | .bn k,v=>v.N4=k/\v.one=true
 | .q x,v=>∃ y,v.G4= .d y/\SD.g C vs x y
 | .wp id lo sz cnt,v=>∃ j,j<cnt/\v= .ptr id (lo+j * sz)
def q6.g (vs:List Nat):List SV->List b6->Prop
 |[],as=>as=[]
 |x::xs,as=>∃ a as',as=a::as' /\SV.g vs x a/\q6.g vs xs as'
end
def SO.g (vs:List Nat):SO->y7->Prop
 | .dead,o=>o= .dead
 | .cells p l,o=>∃ cs,o= .cells cs/\q6.g C vs l cs/\∀ k,p=some k->C.Θ k (cs.map b6.G4)
 | .pr k,o=>C.Ψ k o
 | .bn k,o=>o.N4=k
 | .top,_=>True
 | .yd k b,o=>C.Ω k o/\o.N4=b
def H6.g (vs:List Nat):List SO->o6->Prop
 |[],os=>os=[]
 |x::xs,os=>∃ o os',os=o::os' /\SO.g C vs x o/\H6.g vs xs os'
end
def Le (vs ws:List Nat):Prop:=∀ (i m:Nat),vs[i]? =some m->ws[i]? =some m
theorem Le.refl (vs:List Nat):Le vs vs:=fun _ _ h=>h
theorem Le.trans {a b c:List Nat}(h:Le a b)(k:Le b c):Le a c:=fun i m e=>k i m (h i m e)
theorem Le.app (vs ws:List Nat):Le vs (vs++ws):=fun i m h=>by
 grind
section
variable {C:Ctx} {vs ws:List Nat}
theorem Rel.O0 (hl:Le vs ws){r:Rel}{n:Int}(h:r.g vs n):r.g ws n:=by
 cases r with
 |no=>trivial
 |eq i=>obtain ⟨m,h1,h2⟩:=h;exact ⟨m,hl _ _ h1,h2⟩
 |lt i=>obtain ⟨m,h1,h2⟩:=h;exact ⟨m,hl _ _ h1,h2⟩
theorem SB.O0 (hl:Le vs ws){r:SB}{n:Bool}(h:r.g vs n):r.g ws n:=by
 cases r with
 |qo=>trivial
 |cmp i n VN=>obtain ⟨m,h1,h2⟩:=h;exact ⟨m,hl _ _ h1,h2⟩
mutual
theorem SD.O0 (hl:Le vs ws):∀ (x:SD) {d:Data},x.g C vs d->x.g C ws d
 | .top,_,h=>by simp [SD.g]
 | .lit _,_,h=>by simp_all [SD.g]
 | .bool c,_,h=>by grind [SD.g,SB.O0]
 | .int k lo hi r,_,h=>by grind [SD.g,Rel.O0]
 | .anyI _,_,h=>by simp_all [SD.g]
 | .str _,_,h=>by simp_all [SD.g]
 | .slice v lo hi row,_,h=>by
  obtain ⟨rows,h1,h2,h3,h4,h5⟩:=h;exact ⟨rows,h1,h2,h3,fun i e=>hl _ _ (h4 i e),fun r hr=>F2.O0 hl row (h5 r hr)⟩
 | .pr _ x,_,h=>by exact ⟨h.1,SD.O0 hl x h.2⟩
theorem F2.O0 (hl:Le vs ws):∀ (x:List SD) {d:List Data},F2.g C vs x d->F2.g C ws x d
 |[],_,h=>by simp_all [F2.g]
 |x::xs,_,h=>by obtain ⟨d,ds,h1,h2,h3⟩:=h;exact ⟨d,ds,h1,SD.O0 hl x h2,F2.O0 hl xs h3⟩
end
mutual
theorem SV.O0 (hl:Le vs ws):∀ (x:SV) {d:b6},x.g C vs d->x.g C ws d
 | .top,_,h=>by simp only [SV.g]
 | .any,_,h=>by simpa only [SV.g] using h
 | .d x,_,h=>by simp only [SV.g] at h ⊢;obtain ⟨y,h1,h2⟩:=h;exact ⟨y,h1,SD.O0 hl x h2⟩
 | .own _ x,_,h=>by simp only [SV.g] at h ⊢;obtain ⟨a,b,h1,h2⟩:=h;exact ⟨a,b,h1,SD.O0 hl x h2⟩
 | .I8,_,h=>by simpa only [SV.g] using h
 | .ptr ..,_,h=>by simpa only [SV.g] using h
 | .Q5 row,_,h=>by simp only [SV.g] at h ⊢;obtain ⟨a,b,h1,h2⟩:=h;exact ⟨a,b,h1,F2.O0 hl row h2⟩
 | .D4 ..,_,h=>by simpa only [SV.g] using h
 | .wp ..,_,h=>by simpa only [SV.g] using h
 | .agg p l,_,h=>by simp only [SV.g] at h ⊢;obtain ⟨cs,h1,h2,h3⟩:=h;exact ⟨cs,h1,q6.O0 hl l h2,h3⟩
 | .tuple l,_,h=>by simp only [SV.g] at h ⊢;obtain ⟨cs,h1,h2⟩:=h;exact ⟨cs,h1,q6.O0 hl l h2⟩
 | .bn _,_,h=>by simpa only [SV.g] using h
 | .q x,_,h=>by simp only [SV.g] at h ⊢;obtain ⟨y,h1,h2⟩:=h;exact ⟨y,h1,SD.O0 hl x h2⟩
theorem q6.O0 (hl:Le vs ws):∀ (x:List SV) {d:List b6},q6.g C vs x d->q6.g C ws x d
 |[],_,h=>by simpa only [q6.g] using h
 |x::xs,_,h=>by simp only [q6.g] at h ⊢;obtain ⟨d,ds,h1,h2,h3⟩:=h;exact ⟨d,ds,h1,SV.O0 hl x h2,q6.O0 hl xs h3⟩
end
theorem SO.O0 (hl:Le vs ws)(x:SO){o:y7}(h:x.g C vs o):x.g C ws o:=by
 cases x with
 |dead=>exact h
 |cells p l=>obtain ⟨cs,h1,h2,h3⟩:=h;exact ⟨cs,h1,q6.O0 hl l h2,h3⟩
 |pr k=>exact h
 |bn k=>exact h
 |top=>trivial
 |yd k b=>exact h
theorem H6.O0 (hl:Le vs ws):∀ (x:List SO) {o:o6},H6.g C vs x o->H6.g C ws x o
 |[],_,h=>by simp_all [H6.g]
 |x::xs,_,h=>by obtain ⟨d,ds,h1,h2,h3⟩:=h;exact ⟨d,ds,h1,SO.O0 hl x h2,H6.O0 hl xs h3⟩
end
section
variable {C:Ctx} {vs:List Nat}
theorem F2.len:∀ {x:List SD} {d:List Data},F2.g C vs x d->d.length=x.length
 |[],_,h=>by simp_all [F2.g]
 |x::xs,_,h=>by obtain ⟨d,ds,rfl,_,h3⟩:=h;simp [F2.len h3]
theorem q6.len:∀ {x:List SV} {d:List b6},q6.g C vs x d->d.length=x.length
 |[],_,h=>by simp_all [q6.g]
 |x::xs,_,h=>by obtain ⟨d,ds,rfl,_,h3⟩:=h;simp [q6.len h3]
theorem H6.len:∀ {x:List SO} {d:o6},H6.g C vs x d->d.length=x.length
 |[],_,h=>by simp_all [H6.g]
 |x::xs,_,h=>by obtain ⟨d,ds,rfl,_,h3⟩:=h;simp [H6.len h3]
theorem F2.app:∀ {x y:List SD} {d e:List Data},F2.g C vs x d->F2.g C vs y e->F2.g C vs (x++y) (d++e)
 |[],_,_,_,h,k=>by simp_all [F2.g]
 |x::xs,_,_,_,h,k=>by obtain ⟨d,ds,rfl,h2,h3⟩:=h;exact ⟨d,_,rfl,h2,F2.app h3 k⟩
theorem q6.app:∀ {x y:List SV} {d e:List b6},q6.g C vs x d->q6.g C vs y e->q6.g C vs (x++y) (d++e)
 |[],_,_,_,h,k=>by simp_all [q6.g]
 |x::xs,_,_,_,h,k=>by obtain ⟨d,ds,rfl,h2,h3⟩:=h;exact ⟨d,_,rfl,h2,q6.app h3 k⟩
theorem H6.app:∀ {x y:List SO} {d e:o6},H6.g C vs x d->H6.g C vs y e->H6.g C vs (x++y) (d++e)
 |[],_,_,_,h,k=>by simp_all [H6.g]
 |x::xs,_,_,_,h,k=>by obtain ⟨d,ds,rfl,h2,h3⟩:=h;exact ⟨d,_,rfl,h2,H6.app h3 k⟩
theorem q6.get:∀ {x:List SV} {d:List b6},q6.g C vs x d->∀ {i:Nat} {a:SV},x[i]? =some a->∃ b,d[i]? =some b/\a.g C vs b
 |[],_,_,_,_,e=>by simp at e
 |x::xs,_,h,i,a,e=>by
  obtain ⟨d,ds,rfl,h2,h3⟩:=h;cases i with
  |zero=>simp at e;subst e;exact ⟨d,rfl,h2⟩
  |succ i=>simpa using q6.get h3 (by simpa using e)
theorem q6.none:∀ {x:List SV} {d:List b6},q6.g C vs x d->∀ {i:Nat},x[i]? =none->d[i]? =none:=fun h i e=>by
 grind [List.getElem?_eq_none_iff,q6.len]
theorem H6.get:∀ {x:List SO} {d:o6},H6.g C vs x d->∀ {i:Nat} {a:SO},x[i]? =some a->∃ b,d[i]? =some b/\a.g C vs b
 |[],_,_,_,_,e=>by simp at e
 |x::xs,_,h,i,a,e=>by
  obtain ⟨d,ds,rfl,h2,h3⟩:=h;cases i with
  |zero=>simp at e;subst e;exact ⟨d,rfl,h2⟩
  |succ i=>simpa using H6.get h3 (by simpa using e)
theorem q6.set:∀ {x:List SV} {d:List b6},q6.g C vs x d->∀ (i:Nat) {a:SV} {b:b6},a.g C vs b->q6.g C vs (x.set i a) (d.set i b)
 |[],_,h,_,_,_,_=>by simp_all [q6.g]
 |x::xs,_,h,i,a,b,e=>by
  obtain ⟨d,ds,rfl,h2,h3⟩:=h;cases i with
  |zero=>exact ⟨_,_,rfl,e,h3⟩
  |succ i=>exact ⟨_,_,rfl,h2,q6.set h3 i e⟩
theorem H6.set:∀ {x:List SO} {d:o6},H6.g C vs x d->∀ (i:Nat) {a:SO} {b:y7},a.g C vs b->H6.g C vs (x.set i a) (d.set i b)
 |[],_,h,_,_,_,_=>by simp_all [H6.g]
 |x::xs,_,h,i,a,b,e=>by
  obtain ⟨d,ds,rfl,h2,h3⟩:=h;cases i with
  |zero=>exact ⟨_,_,rfl,e,h3⟩
  |succ i=>exact ⟨_,_,rfl,h2,H6.set h3 i e⟩
theorem q6.take:∀ {x:List SV} {d:List b6},q6.g C vs x d->∀ (n:Nat),q6.g C vs (x.take n) (d.take n)
 |[],_,h,n=>by simp_all [q6.g]
 |x::xs,_,h,n=>by
  obtain ⟨d,ds,rfl,h2,h3⟩:=h;cases n with
  |zero=>simp [q6.g]
  |succ n=>exact ⟨_,_,rfl,h2,q6.take h3 n⟩
theorem q6.drop:∀ {x:List SV} {d:List b6},q6.g C vs x d->∀ (n:Nat),q6.g C vs (x.drop n) (d.drop n)
 |[],_,h,n=>by simp_all [q6.g]
 |x::xs,_,h,n=>by
  have h' :=h;obtain ⟨d,ds,rfl,h2,h3⟩:=h;cases n with
  |zero=>exact h'
  |succ n=>simpa using q6.drop h3 n
theorem H6.take:∀ {x:List SO} {d:o6},H6.g C vs x d->∀ (n:Nat),H6.g C vs (x.take n) (d.take n)
 |[],_,h,n=>by simp_all [H6.g]
 |x::xs,_,h,n=>by
  obtain ⟨d,ds,rfl,h2,h3⟩:=h;cases n with
  |zero=>simp [H6.g]
  |succ n=>exact ⟨_,_,rfl,h2,H6.take h3 n⟩
theorem H6.drop:∀ {x:List SO} {d:o6},H6.g C vs x d->∀ (n:Nat),H6.g C vs (x.drop n) (d.drop n)
 |[],_,h,n=>by simp_all [H6.g]
 |x::xs,_,h,n=>by
  have h' :=h;obtain ⟨d,ds,rfl,h2,h3⟩:=h;cases n with
  |zero=>exact h'
  |succ n=>simpa using H6.drop h3 n
theorem q6.map {f:SV->SV}{f' :b6->b6}(hf:∀ x a,SV.g C vs x a->SV.g C vs (f x) (f' a)):∀ {x:List SV} {d:List b6},q6.g C vs x d->q6.g C vs (x.map f) (d.map f')
 |[],_,h=>by simp_all [q6.g]
 |x::xs,_,h=>by
  obtain ⟨d,ds,rfl,h2,h3⟩:=h;exact ⟨_,_,rfl,hf _ _ h2,q6.map hf h3⟩
end
def NV:IntKind->IntKind->Bool:=fun a b=>decide (a=b)
mutual
def MG:Data->Data->Bool
 | .bool a,.bool b=>a==b
 | .int k n,.int k' n' =>decide (k=k')&&decide (n=n')
 | .str s,.str t=>s==t
 | .slice n l,.slice m r=>r9 n m&&MH l r
 | .cD,.cD=>true
 | .O8,.O8=>true
 | .eD,.eD=>true
 | .nilIface,.nilIface=>true
 |_,_=>false
def MH:List Data->List Data->Bool
 |[],[]=>true
 |a::l,b::r=>MG a b&&MH l r
 |_,_=>false
end
mutual
theorem Cz:∀ (a b:Data),MG a b=true->a=b
 | .bool a,b,h=>by cases b<;>simp_all [MG]
 | .int k n,b,h=>by cases b<;>simp_all [MG]
 | .str s,b,h=>by cases b<;>simp_all [MG]
 | .slice n l,b,h=>by
  cases b<;>simp only [MG,b5,b7] at h;rename_i m r;rw [b9 h.1,CA l r h.2]
 | .cD,b,h=>by grind [MG]
 | .O8,b,h=>by grind [MG]
 | .eD,b,h=>by grind [MG]
 | .nilIface,b,h=>by grind [MG]
theorem CA:∀ (a b:List Data),MH a b=true->a=b
 |[],b,h=>by grind [MH]
 |x::a,b,h=>by
  cases b<;>simp [MH,b5,b7] at h;rw [Cz _ _ h.1,CA _ _ h.2]
end
abbrev fZ:=List (Nat×Nat)
def Bg (vs:List Nat)(B:fZ):Prop:=vs.length=B.length/\∀ (i lo hi:Nat),B[i]? =some (lo,hi)->∃ m,vs[i]? =some m/\lo<=m/\m<=hi
def UN (B:fZ)(v:Option Nat)(lo hi:Nat):Nat×Nat:=match v with
 |none=>(lo,hi)
 |some i=>match B[i]? with
  |some (a,b)=>(max lo a,min hi b)
  |none=>(lo,hi)
theorem UO {vs:List Nat}{B:fZ}(hB:Bg vs B){v:Option Nat}{lo hi m:Nat}(h1:lo<=m)(h2:m<=hi)(h3:∀ i,v=some i->vs[i]? =some m):(UN B v lo hi).1<=m/\m<=(UN B v lo hi).2:=by
 unfold UN;split
 ·omega
 ·split
  ·rename_i a b hb
   obtain ⟨m',e1,e2,e3⟩:=hB.2 _ _ _ hb
   grind
  omega
def SD.int? (B:fZ):SD->Option (IntKind×Int×Int×Rel)
 | .lit (.int k n)=>some (k,n,n,.no)
 | .int k lo hi r=>match r with
  | .eq i=>match B[i]? with
   |some (a,b)=>some (k,max lo a,min hi b,.eq i)
   |none=>some (k,lo,hi,.eq i)
  |_=>some (k,lo,hi,r)
 | .pr _ x=>x.int? B
 |_=>none
def SD.rU :SD->Option (Nat×Option (List UInt8))
 | .lit (.str s)=>some (s.length,some s)
 | .str m=>some (m,none)
 | .pr _ x=>x.rU
 |_=>none
inductive BK where
 |t (b:Bool)
 |u (c:SB)
def SD.bool? :SD->Option BK
 | .lit (.bool b)=>some (.t b)
 | .bool c=>some (.u c)
 | .pr _ x=>x.bool?
 |_=>none
def SD.kind? :SD->Option IntKind
 | .lit (.int k _)=>some k
 | .int k _ _ _=>some k
 | .anyI k=>some k
 | .pr _ x=>x.kind?
 |_=>none
def mI:List Data->Option (IntKind×Int×Int)
 |[]=>none
 | .int k n::r=>match r with
  |[]=>some (k,n,n)
  |_=>match mI r with
   |some (k',lo,hi)=>if NV k k' then some (k,min lo n,max hi n) else none
   |none=>none
 |_=>none
def EN:Data->Data->SD
 | .int k n,.int k' n' =>if NV k k' then .int k (min n n') (max n n') .no else .top
 | .str s,.str t=> .str (max s.length t.length)
 | .bool _,.bool _=> .bool .qo
 | .slice n cs,.slice m ds=>if r9 cs.length n&&r9 ds.length m then match mI (cs++ds) with
   |some (k,lo,hi)=> .slice none (min n m) (max n m) [.int k lo hi .no]
   |none=> .top
  else .top
 |_,_=> .top
def Rel.join:Rel->Rel->Rel
 | .eq i,.eq j=>if r9 i j then .eq i else .no
 | .lt i,.lt j=>if r9 i j then .lt i else .no
 |_,_=> .no
def Ns:SD->Data->SD
 | .lit a,b=>if MG a b then .lit a else EN a b
 | .int k lo hi _,.int k' n=>if NV k k' then .int k (min lo n) (max hi n) .no else .top
 | .str m,.str t=> .str (max m t.length)
 | .bool _,.bool _=> .bool .qo
 |_,_=> .top
def tI:List SD->List Data->List SD
 |x::xs,d::ds=>Ns x d::tI xs ds
 |_,_=>[]
def rowsOf (sz:Nat):Nat->List Data->List (List Data)
 |0,_=>[]
 |n+1,cs=>cs.take sz::rowsOf sz n (cs.drop sz)
def Fz (sz:Nat):List (List Data)->List SD
 |[]=>c9 sz .top
 |r::rs=>rs.foldl tI (r.map .lit)
def SD.pV (B:fZ):SD->Option (Option Nat×Nat×Nat)
 | .lit (.slice n _)=>some (none,n,n)
 | .slice v lo hi _=>some (v,UN B v lo hi)
 | .pr _ x=>x.pV B
 |_=>none
def SD.slice? (B:fZ)(sz:Nat):SD->Option (Option Nat×Nat×Nat×List SD)
 | .lit (.slice n cells)=>if r9 cells.length (n * sz) then some (none,n,n,Fz sz (rowsOf sz n cells)) else none
 | .slice v lo hi row=>if r9 row.length sz then some (v,(UN B v lo hi).1,(UN B v lo hi).2,row) else none
 | .pr _ x=>x.slice? B sz
 |_=>none
section
variable {C:Ctx} {vs:List Nat} {B:fZ}
theorem SD.gL (hB:Bg vs B):∀ {x:SD} {d:Data} {k:IntKind} {lo hi:Int} {r:Rel},x.int? B=some (k,lo,hi,r)->x.g C vs d->∃ n,d= .int k n/\lo<=n/\n<=hi/\r.g vs n
 | .lit (.int k' n'),_,_,_,_,_,h,hg=>by
  obtain ⟨rfl,rfl,rfl,rfl⟩:=h;exact ⟨_,hg,Int.le_refl _,Int.le_refl _,trivial⟩
 | .int k' lo' hi' r',_,_,_,_,_,h,hg=>by
  obtain ⟨n,rfl,h1,h2,h3⟩:=hg;simp [SD.int?] at h;split at h
  ·split at h
   ·rename_i a b hb
    obtain ⟨rfl,rfl,rfl,rfl⟩:=h;obtain ⟨m,e1,e2⟩:=h3;obtain ⟨m',e3,e4,e5⟩:=hB.2 _ _ _ hb;rw [e1] at e3;cases e3;exact ⟨n,rfl,by omega,by omega,m,e1,e2⟩
   simp_all
  simp_all
 | .pr k' x,_,_,_,_,_,h,hg=>by
  simp [SD.int?] at h;exact SD.gL hB h hg.2
 | .lit (.bool _),_,_,_,_,_,h,_=>by simp [SD.int?] at h
 | .lit (.str _),_,_,_,_,_,h,_=>by simp [SD.int?] at h
 | .lit (.slice _ _),_,_,_,_,_,h,_=>by simp [SD.int?] at h
 | .lit .cD,_,_,_,_,_,h,_=>by simp [SD.int?] at h
 | .lit .O8,_,_,_,_,_,h,_=>by simp [SD.int?] at h
 | .lit .eD,_,_,_,_,_,h,_=>by simp [SD.int?] at h
 | .lit .nilIface,_,_,_,_,_,h,_=>by simp [SD.int?] at h
 | .top,_,_,_,_,_,h,_=>by simp [SD.int?] at h
 | .bool _,_,_,_,_,_,h,_=>by simp [SD.int?] at h
 | .anyI _,_,_,_,_,_,h,_=>by simp [SD.int?] at h
 | .str _,_,_,_,_,_,h,_=>by simp [SD.int?] at h
 | .slice ..,_,_,_,_,_,h,_=>by simp [SD.int?] at h
theorem SD.tT:∀ {x:SD} {d:Data} {m:Nat} {e:Option (List UInt8)},x.rU =some (m,e)->x.g C vs d->∃ s,d= .str s/\s.length<=m/\∀ t,e=some t->s=t
 | .lit x,_,_,_,h,hg=>by
  cases x<;>simp [SD.rU,reduceCtorEq] at h
  grind [SD.g]
 | .str m',_,_,_,h,hg=>by
  grind [SD.rU,Option.some.injEq,Prod.mk.injEq,SD.g]
 | .pr _ x,_,_,_,h,hg=>by
  simp [SD.rU] at h;exact SD.tT h hg.2
 | .top,_,_,_,h,_=>by simp [SD.rU] at h
 | .bool _,_,_,_,h,_=>by simp [SD.rU] at h
 | .anyI _,_,_,_,h,_=>by simp [SD.rU] at h
 | .int ..,_,_,_,h,_=>by simp [SD.rU] at h
 | .slice ..,_,_,_,h,_=>by simp [SD.rU] at h
theorem SD.dc:∀ {x:SD} {d:Data} {c:BK},x.bool? =some c->x.g C vs d->∃ b,d= .bool b/\match c with| .t b' =>b=b' | .u c=>c.g vs b
 | .lit x,_,_,h,hg=>by
  cases x<;>simp [SD.bool?,reduceCtorEq] at h
  grind [SD.g]
 | .bool c,_,_,h,hg=>by
  grind [SD.bool?,Option.some.injEq,SD.g]
 | .pr _ x,_,_,h,hg=>by
  simp [SD.bool?] at h;exact SD.dc h hg.2
 | .top,_,_,h,_=>by simp [SD.bool?] at h
 | .str _,_,_,h,_=>by simp [SD.bool?] at h
 | .anyI _,_,_,h,_=>by simp [SD.bool?] at h
 | .int ..,_,_,h,_=>by simp [SD.bool?] at h
 | .slice ..,_,_,h,_=>by simp [SD.bool?] at h
theorem SD.vO:∀ {x:SD} {d:Data} {k:IntKind},x.kind? =some k->x.g C vs d->∃ n,d= .int k n
 | .lit x,_,_,h,hg=>by
  cases x<;>simp [SD.kind?,reduceCtorEq] at h;simp_all [SD.g]
 | .int ..,_,_,h,hg=>by
  grind [SD.kind?,Option.some.injEq,SD.g]
 | .anyI _,_,_,h,hg=>by
  simp_all [SD.kind?,Option.some.injEq,SD.g]
 | .pr _ x,_,_,h,hg=>by
  simp [SD.kind?] at h;exact SD.vO h hg.2
 | .top,_,_,h,_=>by simp [SD.kind?] at h
 | .str _,_,_,h,_=>by simp [SD.kind?] at h
 | .bool _,_,_,h,_=>by simp [SD.kind?] at h
 | .slice ..,_,_,h,_=>by simp [SD.kind?] at h
theorem SD.Ip (hB:Bg vs B):∀ {x:SD} {d:Data} {v:Option Nat} {lo hi:Nat},x.pV B=some (v,lo,hi)->x.g C vs d->∃ n cells,d= .slice n cells/\lo<=n/\n<=hi/\∀ i,v=some i->vs[i]? =some n
 | .lit x,_,_,_,_,h,hg=>by
  cases x<;>simp [SD.pV,reduceCtorEq] at h
  grind [SD.g]
 | .slice v' lo' hi' row,_,_,_,_,h,hg=>by
  simp [SD.pV,Option.some.injEq,Prod.mk.injEq] at h;obtain ⟨rfl,h⟩:=h;obtain ⟨rows,rfl,h1,h2,h3,_⟩:=hg;have:=UO hB h1 h2 h3;simp_all
 | .pr _ x,_,_,_,_,h,hg=>by
  simp [SD.pV] at h;exact SD.Ip hB h hg.2
 | .top,_,_,_,_,h,_=>by simp [SD.pV] at h
 | .str _,_,_,_,_,h,_=>by simp [SD.pV] at h
 | .bool _,_,_,_,_,h,_=>by simp [SD.pV] at h
 | .anyI _,_,_,_,_,h,_=>by simp [SD.pV] at h
 | .int ..,_,_,_,_,h,_=>by simp [SD.pV] at h
theorem JO:∀ {l:List Data} {k:IntKind} {lo hi:Int},mI l=some (k,lo,hi)->∀ d,d ∈ l->∃ n,d= .int k n/\lo<=n/\n<=hi
 |[],_,_,_,h,_,_=>by simp_all
 | .int k n::r,_,_,_,h,d,hd=>by
  simp [mI] at h;split at h
  ·grind
  ·split at h
   ·rename_i k' lo' hi' e
    split at h
    ·rename_i hk
     have hk:k=k' :=of_decide_eq_true hk
     rcases C6.1 hd with rfl|hd
     ·grind
     ·obtain ⟨m,rfl,h1,h2⟩:=JO e d hd
      grind
    ·cases h
   ·cases h
 | .bool _::_,_,_,_,h,_,_=>by simp [mI] at h
 | .str _::_,_,_,_,h,_,_=>by simp [mI] at h
 | .slice _ _::_,_,_,_,h,_,_=>by simp [mI] at h
 | .cD::_,_,_,_,h,_,_=>by simp [mI] at h
 | .O8::_,_,_,_,h,_,_=>by simp [mI] at h
 | .eD::_,_,_,_,h,_,_=>by simp [mI] at h
 | .nilIface::_,_,_,_,h,_,_=>by simp [mI] at h
theorem OI:∀ l:List Data,(l.map fun d=>[d]).flatten=l
 |[]=>rfl
 |d::l=>by simp [OI l]
theorem CM (a b:Data):(EN a b).g C vs a/\(EN a b).g C vs b:=by
 unfold EN;split
 ·rename_i k n k' n'
  split
  ·rename_i hk
   have hk:k=k' :=of_decide_eq_true hk;subst hk;exact ⟨⟨_,rfl,by omega,by omega,trivial⟩,⟨_,rfl,by omega,by omega,trivial⟩⟩
  ·simp [SD.g]
 ·grind [SD.g]
 ·exact ⟨⟨_,rfl,trivial⟩,⟨_,rfl,trivial⟩⟩
 ·rename_i n cs m ds
  split
  ·rename_i hc
   simp only [b5] at hc;have c1:=b9 hc.1;have c2:=b9 hc.2;split
   ·rename_i k lo hi e
    have key:∀ l:List Data,(∀ d,d ∈ l->d ∈ cs++ds)->∀ r,r ∈ l.map (fun d=>[d])->F2.g C vs [.int k lo hi .no] r:=by
     intro l hl r hr;obtain ⟨d,hd,rfl⟩:=List.mem_map.1 hr;obtain ⟨q,rfl,h1,h2⟩:=JO e d (hl d hd);exact ⟨_,_,rfl,⟨q,rfl,h1,h2,trivial⟩,rfl⟩
    exact ⟨⟨cs.map fun d=>[d],by rw [OI,List.length_map,c1],by grind,by grind,(fun i h=>by cases h),key cs fun d h=>List.mem_append_left _ h⟩,
     ⟨ds.map fun d=>[d],by rw [OI,List.length_map,c2],by grind,by grind,(fun i h=>by cases h),key ds fun d h=>List.mem_append_right _ h⟩⟩
   ·simp [SD.g]
  ·simp [SD.g]
 ·simp [SD.g]
theorem QE {x:SD}{a:Data}(b:Data)(h:x.g C vs a):(Ns x b).g C vs a:=by
 unfold Ns;split
 ·grind [SD.g,CM]
 ·split
  ·obtain ⟨m,rfl,h1,h2,_⟩:=h
   exact ⟨_,rfl,by omega,by omega,trivial⟩
  ·simp [SD.g]
 ·grind [SD.g]
 ·obtain ⟨m,rfl,h1⟩:=h
  exact ⟨_,rfl,trivial⟩
 ·simp [SD.g]
theorem QF (x:SD)(b:Data):(Ns x b).g C vs b:=by
 unfold Ns;split
 ·split
  ·grind [SD.g,Cz]
  ·exact (CM _ _).2
 ·rename_i k lo hi r k' n
  split
  ·rename_i hk
   have hk:k=k' :=of_decide_eq_true hk;subst hk;exact ⟨_,rfl,by omega,by omega,trivial⟩
  ·simp [SD.g]
 ·grind [SD.g]
 ·exact ⟨_,rfl,trivial⟩
 ·simp [SD.g]
theorem Qx:∀ {x:List SD} {a b:List Data},F2.g C vs x a->a.length=b.length->F2.g C vs (tI x b) a
 |[],_,_,h,hl=>by simp_all [F2.g,tI]
 |x::xs,_,b,h,hl=>by
  obtain ⟨d,ds,rfl,h1,h2⟩:=h;cases b with
  |nil=>simp at hl
  |cons b bs=>exact ⟨_,_,rfl,QE b h1,Qx h2 (by simp_all)⟩
theorem Qy:∀ {x:List SD} {b:List Data},x.length=b.length->F2.g C vs (tI x b) b
 |[],[],_=>by rfl
 |[],_::_,h=>by simp at h
 |_::_,[],h=>by simp at h
 |x::xs,b::bs,h=>by exact ⟨_,_,rfl,QF x b,Qy (by simpa using h)⟩
theorem Fx:∀ (x:List SD) (b:List Data),x.length=b.length->(tI x b).length=x.length
 |[],[],_=>rfl
 |[],_::_,h=>by simp at h
 |_::_,[],h=>by simp at h
 |x::xs,b::bs,h=>by simp [tI,B7];rw [Fx xs bs (by simpa using h)]
theorem Pv:∀ (r:List Data),F2.g C vs (r.map .lit) r
 |[]=>by simp [F2.g]
 |d::r=>by exact ⟨_,_,rfl,rfl,Pv r⟩
theorem vL {sz:Nat}:∀ (rs:List (List Data)) (x:List SD),x.length=sz->(∀ r,r ∈ rs->r.length=sz)->(∀ a,a.length=sz->F2.g C vs x a->F2.g C vs (rs.foldl tI x) a)/\(∀ r,r ∈ rs->F2.g C vs (rs.foldl tI x) r)/\(rs.foldl tI x).length=sz
 |[],x,hx,_=>⟨fun a _ h=>h,by simp,hx⟩
 |r::rs,x,hx,hr=>by
  have hl:(tI x r).length=sz:=by simp_all [Fx]
  obtain ⟨h1,h2,h3⟩:=vL rs (tI x r) hl (fun r' h=>hr r' (by simp [h]));simp_all [Qx,C6,Qy]
theorem cR {sz:Nat}:∀ (n:Nat) (cs:List Data),cs.length=n * sz->(rowsOf sz n cs).flatten=cs/\(rowsOf sz n cs).length=n/\∀ r,r ∈ rowsOf sz n cs->r.length=sz
 |0,cs,h=>by simp_all [rowsOf]
 |n+1,cs,h=>by
  rw [Nat.succ_mul] at h;obtain ⟨h1,h2,h3⟩:=cR (sz:=sz) n (cs.drop sz) (by simp;omega);simp_all [rowsOf,C6]
theorem Kh {sz:Nat}{rs:List (List Data)}(hr:∀ r,r ∈ rs->r.length=sz):(∀ r,r ∈ rs->F2.g C vs (Fz sz rs) r)/\(Fz sz rs).length=sz:=by
 cases rs with
 |nil=>simp_all [Fz]
 |cons r rs =>
  obtain ⟨h1,h2,h3⟩:=vL (C:=C) (vs:=vs) rs (r.map .lit) (by simp_all) (fun r' h=>hr r' (by simp [h]));refine ⟨fun r' h=> ?_,h3⟩
  rcases C6.1 h with rfl|h
  ·exact h1 _ (hr _ (by simp)) (Pv _)
  ·exact h2 _ h
theorem SD.dJ (hB:Bg vs B){sz:Nat}:∀ {x:SD} {d:Data} {v:Option Nat} {lo hi:Nat} {row:List SD},x.slice? B sz=some (v,lo,hi,row)->x.g C vs d ->
  row.length=sz/\∃ rows:List (List Data),d= .slice rows.length rows.flatten/\lo<=rows.length/\rows.length<=hi/\(∀ i,v=some i->vs[i]? =some rows.length)/\∀ r,r ∈ rows->F2.g C vs row r
 | .lit x,_,_,_,_,_,h,hg=>by
  cases x<;>simp only [SD.slice?,reduceCtorEq] at h;rename_i n cells;split at h
  ·rename_i hc
   have hc:=b9 hc;simp [Option.some.injEq] at h;subst hg;obtain ⟨h1,h2,h3⟩:=cR n cells hc;obtain ⟨h4,h5⟩:=Kh (C:=C) (vs:=vs) h3
   grind
  ·cases h
 | .slice v' lo' hi' row',_,_,_,_,_,h,hg=>by
  simp only [SD.slice?] at h;split at h
  ·rename_i hc
   have hc:=b9 hc;obtain ⟨rows,rfl,h1,h2,h3,h4⟩:=hg;have:=UO hB h1 h2 h3
   grind
  ·cases h
 | .pr _ x,_,_,_,_,_,h,hg=>by
  simp [SD.slice?] at h;exact SD.dJ hB h hg.2
 | .top,_,_,_,_,_,h,_=>by simp [SD.slice?] at h
 | .str _,_,_,_,_,_,h,_=>by simp [SD.slice?] at h
 | .bool _,_,_,_,_,_,h,_=>by simp [SD.slice?] at h
 | .anyI _,_,_,_,_,_,h,_=>by simp [SD.slice?] at h
 | .int ..,_,_,_,_,_,h,_=>by simp [SD.slice?] at h
end
def Rel.le:Rel->Rel->Bool
 |_,.no=>true
 | .eq i,.eq j=>r9 i j
 | .lt i,.lt j=>r9 i j
 |_,_=>false
theorem Rel.bw {vs:List Nat}{r s:Rel}{n:Int}(h:r.le s=true)(hr:r.g vs n):s.g vs n:=by
 cases r<;>cases s<;>simp [Rel.le] at h<;>first
  |trivial
  |simp_all
def iLe (a b:Int):Bool:=decide (a<=b)
mutual
def SD.le (B:fZ)(x:SD):SD->Bool
 | .top=>true
 | .lit b=>match x with
  | .lit a=>MG a b
  |_=>false
 | .bool .qo=>match x.bool? with
  |some _=>true
  |none=>false
 | .bool _=>false
 | .int k lo hi r=>match x.int? B with
  |some (k',a,b,s)=>NV k' k&&iLe lo a&&iLe b hi&&s.le r
  |none=>false
 | .anyI k=>match x.kind? with
  |some k' =>NV k' k
  |none=>false
 | .str m=>match x.rU with
  |some (m',_)=>L3 m' m
  |none=>false
 | .slice none lo hi row=>match x.slice? B row.length with
  |some (_,a,b,row')=>L3 lo a&&L3 b hi&&(r9 b 0||F2.le B row' row)
  |none=>false
 | .slice (some i) lo hi row=>match x with
  | .slice (some j) lo' hi' row' =>r9 i j&&L3 lo lo' &&L3 hi' hi&&F2.le B row' row
  |_=>false
 | .pr k y=>match x with
  | .pr k' _=>r9 k k' &&SD.le B x y
  |_=>false
def F2.le (B:fZ)(xs:List SD):List SD->Bool
 |[]=>xs.isEmpty
 |y::ys=>match xs with
  |x::xs=>SD.le B x y&&F2.le B xs ys
  |[]=>false
end
section
variable {C:Ctx} {vs:List Nat} {B:fZ} (hB:Bg vs B)
include hB
mutual
theorem SD.bw:∀ (y:SD) {x:SD} {d:Data},SD.le B x y=true->x.g C vs d->y.g C vs d
 | .top,_,_,_,_=>by simp [SD.g]
 | .lit b,x,_,h,hx=>by
  simp [SD.le] at h
  grind [SD.g,Cz]
 | .bool c,x,_,h,hx=>by
  cases c with
  |cmp i n VN=>simp [SD.le] at h
  |qo =>
   simp [SD.le] at h;split at h
   ·rename_i c hc
    obtain ⟨b,h1,_⟩:=SD.dc hc hx;exact ⟨b,h1,trivial⟩
   ·cases h
 | .int k lo hi r,x,_,h,hx=>by
  simp [SD.le] at h;split at h
  ·rename_i k' a b s hc
   simp [b5,iLe] at h;obtain ⟨n,h1,h2,h3,h4⟩:=SD.gL hB hc hx;have hk:k' =k:=of_decide_eq_true h.1.1.1
   grind [SD.g,Rel.bw]
  ·cases h
 | .anyI k,x,_,h,hx=>by
  simp [SD.le] at h;split at h
  ·rename_i k' hc
   have hk:k' =k:=of_decide_eq_true h
   grind [SD.g,SD.vO]
  ·cases h
 | .str m,x,_,h,hx=>by
  simp [SD.le] at h;split at h
  ·rename_i m' e hc
   obtain ⟨s,h1,h2,_⟩:=SD.tT hc hx;simp_all [SD.g]<;>omega
  ·cases h
 | .slice none lo hi row,x,_,h,hx=>by
  simp [SD.le] at h;split at h
  ·rename_i v a b row' hc
   simp only [b5,Bool.or_eq_true] at h;obtain ⟨e,rows,h1,h2,h3,h4,h5⟩:=SD.dJ hB hc hx;have l1:=o7 h.1.1;have l2:=o7 h.1.2;refine ⟨rows,h1,by omega,by omega,(fun i e=>by cases e),fun r hr=> ?_⟩
   rcases h.2 with h0|h0
   ·simp_all
   ·exact F2.bw row h0 (h5 r hr)
  ·cases h
 | .slice (some i) lo hi row,x,_,h,hx=>by
  simp [SD.le] at h;split at h
  ·simp only [b5] at h
   have l0:=b9 h.1.1.1;have l1:=o7 h.1.1.2;have l2:=o7 h.1.2;subst l0;obtain ⟨rows,h1,h2,h3,h4,h5⟩:=hx;exact ⟨rows,h1,by omega,by omega,h4,fun r hr=>F2.bw row h.2 (h5 r hr)⟩
  ·cases h
 | .pr k y,x,_,h,hx=>by
  simp [SD.le] at h;split at h
  ·simp only [b5] at h
   have l0:=b9 h.1;have h6:=SD.bw y h.2 hx;simp_all [SD.g]
  ·cases h
theorem F2.bw:∀ (y:List SD) {x:List SD} {d:List Data},F2.le B x y=true->F2.g C vs x d->F2.g C vs y d
 |[],x,_,h,hx=>by
  simp_all [F2.le]
 |y::ys,x,_,h,hx=>by
  simp [F2.le] at h;cases x with
  |nil=>cases h
  |cons x xs =>
   simp [b5] at h;obtain ⟨d,ds,rfl,h1,h2⟩:=hx;exact ⟨d,ds,rfl,SD.bw y h.1 h1,F2.bw ys h.2 h2⟩
end
end
def SV.G4:SV->SV
 | .own _ x=> .d x
 | .I8=> .d (.lit (.slice 0 []))
 | .q x=> .d x
 |v=>v
def SV.one:SV->Bool
 | .top=>false
 | .any=>false
 | .agg _ _=>false
 | .tuple _=>false
 |_=>true
def SV.cells? :SV->Option (List SV)
 | .agg _ l=>if l.all SV.one then some l else none
 |v=>if v.one then some [v] else none
def SV.tag:SV->Option Nat
 | .agg p _=>p
 |_=>none
def SV.data? :SV->Option SD
 | .d x=>some x
 | .own _ x=>some x
 | .I8=>some (.lit (.slice 0 []))
 | .q x=>some x
 |_=>none
def iN :List SV->Option (List SD)
 |[]=>some []
 |v::vs=>match v.data? with
  |some x=>match iN vs with
   |some xs=>some (x::xs)
   |none=>none
  |none=>none
def Sz:b6->SV
 | .any=> .any
 | .d x=> .d (.lit x)
 | .own z len cells=> .own z (.lit (.slice len cells))
 | .I8=> .I8
 | .ptr a b=> .ptr a b
 | .D4 a b c e=> .D4 a b c e
 |_=> .top
def bO (T L:List SV):q7->SV
 | .loc j=>(L.getD j .any).G4
 | .slot s=>(T.getD s .any).G4
 | .const v=>Sz v.NP
section
variable {C:Ctx} {vs:List Nat}
theorem SV.oC {x:SV}{v:b6}(h:x.g C vs v):x.G4.g C vs v.G4:=by
 cases x with
 |own sz x=>simp only [SV.g] at h;obtain ⟨len,cells,rfl,h1⟩:=h;simp only [SV.G4,b6.G4,SV.g];exact ⟨_,rfl,h1⟩
 |I8=>simp only [SV.g] at h;subst h;simp only [SV.G4,b6.G4,SV.g,SD.g];exact ⟨_,rfl,rfl⟩
 |top=>simp [SV.G4,SV.g]
 |any=>simp only [SV.g] at h;subst h;simp [SV.G4,b6.G4,SV.g]
 |d x=>have h' :=h;simp only [SV.g] at h;obtain ⟨y,rfl,h1⟩:=h;exact h'
 |ptr a b=>have h' :=h;simp only [SV.g] at h;subst h;exact h'
 |Q5 a=>have h' :=h;simp only [SV.g] at h;obtain ⟨a,b,rfl,_⟩:=h;exact h'
 |D4 a b c e=>have h' :=h;simp only [SV.g] at h;subst h;exact h'
 |wp a b c e=>have h' :=h;simp only [SV.g] at h;obtain ⟨_,_,rfl⟩:=h;exact h'
 |agg p l=>have h' :=h;simp only [SV.g] at h;obtain ⟨cs,rfl,_⟩:=h;exact h'
 |tuple l=>have h' :=h;simp only [SV.g] at h;obtain ⟨cs,rfl,_⟩:=h;exact h'
 |bn k =>
  simp only [SV.g] at h;simp only [SV.G4,SV.g];cases v<;>simp_all [b6.G4,b6.N4,b6.one]
 |q x =>
  simp only [SV.g] at h;obtain ⟨y,h1,h2⟩:=h;simp only [SV.G4,h1,SV.g];exact ⟨_,rfl,h2⟩
theorem SV.xS {x:SV}{v:b6}(h:x.g C vs v)(h1:x.one=true):v.one=true:=by
 cases x<;>simp only [SV.one,b7] at h1<;>simp only [SV.g] at h
 ·obtain ⟨y,rfl,_⟩:=h;rfl
 ·obtain ⟨a,b,rfl,_⟩:=h;rfl
 ·subst h;rfl
 ·subst h;rfl
 ·obtain ⟨a,b,rfl,_⟩:=h;rfl
 ·subst h;rfl
 ·exact h.2
 ·obtain ⟨y,h1,_⟩:=h;cases v<;>simp only [b6.G4,reduceCtorEq] at h1<;>rfl
 ·obtain ⟨_,_,rfl⟩:=h;rfl
theorem q6.xS:∀ {x:List SV} {v:List b6},q6.g C vs x v->x.all SV.one=true->v.all b6.one=true
 |[],_,h,_=>by simp_all [q6.g]
 |x::xs,_,h,h1=>by
  obtain ⟨d,ds,rfl,h2,h3⟩:=h;simp only [List.all_cons,b5] at h1 ⊢;exact ⟨SV.xS h2 h1.1,q6.xS h3 h1.2⟩
theorem SV.vI {x:SV}{v:b6}{l:List SV}(h:x.g C vs v)(h1:x.cells? =some l):∃ cs,v.cells? =some cs/\q6.g C vs l cs/\∀ k,x.tag=some k->C.Θ k (cs.map b6.G4):=by
 cases x with
 |agg p l' =>
  simp only [SV.cells?] at h1;split at h1
  ·rename_i h2
   cases h1;obtain ⟨cs,rfl,h3,h4⟩:=h;exact ⟨cs,by simp [b6.cells?,q6.xS h3 h2],h3,h4⟩
  ·cases h1
 |_ =>
  simp only [SV.cells?] at h1;split at h1
  ·rename_i h2
   cases h1;have h3:=SV.xS h h2;refine ⟨[v],?_,by simp_all [q6.g],fun k h=>by cases h⟩;simp_all [b6.one,b6.cells?]<;>grind
  ·cases h1
theorem SV.HS {x:SV}{v:b6}{y:SD}(h:x.g C vs v)(h1:x.data? =some y):∃ d,v.data? =some d/\y.g C vs d:=by
 cases x<;>simp [SV.data?,reduceCtorEq,Option.some.injEq] at h1<;>subst h1<;>simp [SV.g] at h
 ·obtain ⟨d,rfl,h2⟩:=h;exact ⟨d,rfl,h2⟩
 ·obtain ⟨a,b,rfl,h2⟩:=h;exact ⟨_,rfl,h2⟩
 ·subst h;exact ⟨_,rfl,by simp [SD.g]⟩
 ·obtain ⟨d,h1,h2⟩:=h
  cases v<;>simp [b6.G4,reduceCtorEq,b6.d.injEq] at h1<;>subst h1<;>exact ⟨_,rfl,h2⟩
theorem mX:∀ {x:List SV} {v:List b6} {y:List SD},q6.g C vs x v->iN x=some y->∃ d,N9 v=some d/\F2.g C vs y d
 |[],_,_,h,h1=>by subst h;simp [iN,Option.some.injEq] at h1;subst h1;exact ⟨[],rfl,by simp [F2.g]⟩
 |x::xs,_,_,h,h1=>by
  obtain ⟨d,ds,rfl,h2,h3⟩:=h;simp [iN] at h1;split at h1
  ·rename_i a ha
   split at h1
   ·rename_i as has
    simp [Option.some.injEq] at h1;obtain ⟨e,e1,e2⟩:=SV.HS h2 ha;obtain ⟨es,e3,e4⟩:=mX h3 has
    grind [N9,F2.g]
   ·cases h1
  ·cases h1
theorem PJ (v:b6):(Sz v).g C vs v:=by
 cases v<;>simp [Sz,SV.g,SD.g]
theorem OO {x:List SV}{v:List b6}(h:q6.g C vs x v)(j:Nat):(x.getD j .any).g C vs (v.getD j .any):=by
 grind [q6.none,SV.g,q6.get]
theorem Dw {T L:List SV}{T' L' :List b6}(hT:q6.g C vs T T')(hL:q6.g C vs L L')(x:q7):(bO T L x).g C vs (F5 T' L' x):=by
 cases x with
 |loc j=>exact SV.oC (OO hL j)
 |slot j=>exact SV.oC (OO hT j)
 |const v=>exact PJ _
end
def Ur (H:List SO)(id off n:Nat):Option (List SV):=match H[id]? with
 |some (.cells _ l)=>if L3 (off+n) l.length then some ((l.drop off).take n) else none
 |_=>none
def wk (l:List SV)(off:Nat)(vs:List SV):List SV:=l.take off++vs++l.drop (off+vs.length)
def swr (H:List SO)(id off:Nat)(p:Option Nat)(vs:List SV):Option (List SO):=match H[id]? with
 |some (.cells _ l)=>if L3 (off+vs.length) l.length then some (H.set id (.cells (if r9 off 0&&r9 vs.length l.length then p else none) (wk l off vs))) else none
 |_=>none
section
variable {C:Ctx} {vs:List Nat}
theorem Bi {H:List SO}{H' :o6}{id off n:Nat}{l:List SV}(h:H6.g C vs H H')(h1:Ur H id off n=some l):∃ cs,rd H' id off n=some cs/\q6.g C vs l cs:=by
 unfold Ur at h1;split at h1
 ·rename_i p l' hl
  split at h1
  ·cases h1
   obtain ⟨o,h2,h3⟩:=H6.get h hl;obtain ⟨cs,rfl,h4,_⟩:=h3;refine ⟨(cs.drop off).take n,?_,q6.take (q6.drop h4 off) n⟩;have:=q6.len h4;simp_all [rd,if_pos]
  ·cases h1
 ·cases h1
theorem Bl {l vl:List SV}{l' vl' :List b6}(off:Nat)(h:q6.g C vs l l')(h1:q6.g C vs vl vl'):q6.g C vs (wk l off vl) (splice l' off vl'):=by
 grind [wk,splice,q6.len,q6.app,q6.take,q6.drop]
theorem aq4 {H H2:List SO}{H' :o6}{id off:Nat}{p:Option Nat}{vl:List SV}{cs:List b6}(h:H6.g C vs H H')(hv:q6.g C vs vl cs)(hp:∀ k,p=some k->C.Θ k (cs.map b6.G4))(h1:swr H id off p vl=some H2) :
  ∃ H3,wr H' id off cs=some H3/\H6.g C vs H2 H3:=by
 unfold swr at h1;split at h1
 ·rename_i p' l hl
  split at h1
  ·cases h1
   obtain ⟨o,h2,h3⟩:=H6.get h hl;obtain ⟨cs',rfl,h4,_⟩:=h3;have e1:=q6.len h4;have e2:=q6.len hv;refine ⟨H'.set id (.cells (splice cs' off cs)),?_,H6.set h id ⟨_,rfl,Bl off h4 hv,?_⟩⟩
   ·simp_all [wr,if_pos]
   simp_all [b5,b9,splice,k9]
  ·cases h1
 ·cases h1
end
def yp (cells:List SV):List (Nat×Nat×SV)->Option (List SV)
 |[]=>some cells
 |(off,sz,v)::rest=>match v.cells? with
  |some l=>if r9 l.length sz&&L3 (off+sz) cells.length then yp (wk cells off l) rest else none
  |none=>none
inductive Oa (C:Ctx) (vs:List Nat):List (Nat×Nat×SV)->List (Nat×Nat×b6)->Prop where
 |nil:Oa C vs [] []
 |cons {o s:Nat} {x:SV} {a:b6} {r r'}:x.g C vs a->Oa C vs r r' ->Oa C vs ((o,s,x)::r) ((o,s,a)::r')
theorem vX {C:Ctx}{vs:List Nat}:∀ {ps:List (Nat×Nat×SV)} {qs:List (Nat×Nat×b6)} {cells l:List SV} {cs:List b6},Oa C vs ps qs->q6.g C vs cells cs->yp cells ps=some l->∃ ds,bU cs qs=some ds/\q6.g C vs l ds
 |[],_,_,_,cs,hp,hc,h=>by
  cases hp;simp [yp,Option.some.injEq] at h;subst h;exact ⟨cs,rfl,hc⟩
 |(o,s,x)::r,_,_,_,cs,hp,hc,h=>by
  cases hp with
  |cons hx hr =>
   simp [yp] at h;split at h
   ·rename_i l' hl
    split at h
    ·obtain ⟨ds,h1,h2,_⟩:=SV.vI hx hl
     have e1:=q6.len h2;have e2:=q6.len hc;obtain ⟨es,h3,h4⟩:=vX hr (Bl o hc h2) h;simp_all [bU,if_pos]
    ·cases h
   ·cases h
theorem rC {C:Ctx}{vs:List Nat}{σ:q7->SV}{ρ:q7->b6}(hρ:∀ x,(σ x).g C vs (ρ x)):∀ (parts:List (Nat×Nat×q7)),Oa C vs (parts.map fun (o,s,x)=>(o,s,σ x)) (parts.map fun (o,s,x)=>(o,s,ρ x))
 |[]=> .nil
 |(_,_,x)::r=> .cons (hρ x) (rC hρ r)
theorem xP {C:Ctx}{vs:List Nat}:∀ l:List b6,q6.g C vs (l.map Sz) l
 |[]=>by simp [q6.g]
 |a::l=>by exact ⟨_,_,rfl,PJ a,xP l⟩
def mn:Int:= -9223372036854775808
def mx:Int:=9223372036854775807
def isI (k:IntKind):Bool:=NV k .i64
def SB.not:SB->SB
 | .qo=> .qo
 | .cmp i n p=> .cmp i n (!p)
def ZD:Int×Int×Rel->Int×Int×Rel->SD
 |(l1,h1,r1),(l2,h2,r2) =>
  if decide (h1<l2) then .lit (.bool true) else if decide (h2<=l1) then .lit (.bool false) else
  match r2,r1 with
  | .eq i,_=>if decide (l1=h1)&&decide (0<=l1) then .bool (.cmp i l1.toNat true) else .bool .qo
  |_,.eq i=>if decide (l2=h2)&&decide (1<=l2) then .bool (.cmp i (l2 - 1).toNat false) else .bool .qo
  |_,_=> .bool .qo
def SD.neg:SD->SD
 | .lit (.bool b)=> .lit (.bool (!b))
 | .bool c=> .bool c.not
 |_=> .top
def sEq:Int×Int×Rel->Int×Int×Rel->SD
 |(l1,h1,r1),(l2,h2,r2) =>
  if decide (h1<l2)||decide (h2<l1) then .lit (.bool false) else if decide (l1=h1)&&decide (l2=h2)&&decide (l1=l2) then .lit (.bool true) else
  match r1,r2 with
  | .eq i,_=>if decide (l2=h2)&&decide (l2=0) then .bool (.cmp i 0 false) else .bool .qo
  |_,.eq i=>if decide (l1=h1)&&decide (l1=0) then .bool (.cmp i 0 false) else .bool .qo
  |_,_=> .bool .qo
def VQ (k:IntKind)(lo hi:Int)(r:Rel):Option SD:=if isI k&&decide (mn<=lo)&&decide (hi<=mx) then some (if decide (lo=hi) then .lit (.int k lo) else .int k lo hi r) else none
def Kj (op:BinOp)(k:IntKind)(a b:Int×Int×Rel):Option SD :=
 match op with
 | .add=>VQ k (a.1+b.1) (a.2.1+b.2.1) .no
 | .sub=>VQ k (a.1 - b.2.1) (a.2.1 - b.1) .no
 | .mul=>if decide (0<=a.1)&&decide (0<=b.1) then VQ k 0 (a.2.1 * b.2.1) .no else none
 | .quo=>if decide (0<=a.1)&&decide (b.1=b.2.1)&&decide (1<=b.1) then VQ k (a.1.tdiv b.1) (a.2.1.tdiv b.1) .no else none
 | .rem=>if decide (1<=b.1) then (if decide (0<=a.1) then VQ k 0 (min a.2.1 (b.2.1 - 1)) (match b.2.2 with| .eq i=> .lt i|_=> .no) else VQ k (1 - b.2.1) (b.2.1 - 1) .no) else none
 | .eql=>some (sEq a b)
 | .neq=>some (sEq a b).neg
 | .lss=>some (ZD a b)
 | .gtr=>some (ZD b a)
 | .leq=>some (ZD b a).neg
 | .geq=>some (ZD a b).neg
 |_=>none
def Qz (op:BinOp)(a b:Nat×Option (List UInt8)):Option SD :=
 match op with
 | .add=>if L3 (a.1+b.1) 4000000000 then (match a.2,b.2 with
  |some s,some t=>some (.lit (.str (s++t)))
  |_,_=>some (.str (a.1+b.1))) else none
 | .eql=>match a.2,b.2 with
  |some s,some t=>some (.lit (.bool (s==t)))
  |_,_=>some (.bool .qo)
 | .neq=>match a.2,b.2 with
  |some s,some t=>some (.lit (.bool (!(s==t))))
  |_,_=>some (.bool .qo)
 |_=>none
def YH (B:fZ)(op:BinOp)(x y:SD):Option SD :=
 match x.int? B,y.int? B with
 |some (k,a),some (k',b)=>if NV k k' then Kj op k a b else none
 |_,_=>match x.rU,y.rU with
  |some a,some b=>Qz op a b
  |_,_=>none
section
variable {C:Ctx} {vs:List Nat} {B:fZ}
theorem AZ {k:IntKind}{lo hi:Int}{r:Rel}{x:SD}{n:Int}(h:VQ k lo hi r=some x)(h1:lo<=n)(h2:n<=hi)(h3:r.g vs n):x.g C vs (.int k (k.wrap n))/\k.wrap n=n:=by
 unfold VQ at h;split at h
 ·rename_i hc
  simp [b5,decide_eq_true_eq] at hc;have e1:mn= -9223372036854775808:=rfl;have e2:mx=9223372036854775807:=rfl;have hk:k= .i64:=of_decide_eq_true hc.1.1;have e:IntKind.wrap .i64 n=n:=wrap_small (by omega) (by omega)
  grind [SD.g]
 ·cases h
theorem JY {x:SD}{b:Bool}(h:x.g C vs (.bool b)):x.neg.g C vs (.bool (!b)):=by
 unfold SD.neg;split
 ·simp_all [SD.g,Data.bool.injEq]
 ·rename_i c
  obtain ⟨b',h1,h2⟩:=h;refine ⟨_,rfl,?_⟩;cases c with
  |qo=>trivial
  |cmp i n p =>
   obtain ⟨m,e1,e2⟩:=h2;refine ⟨m,e1,?_⟩
   grind
 ·simp [SD.g]
theorem Kk {a b:Int×Int×Rel}{n m:Int}(h1:a.1<=n)(h2:n<=a.2.1)(h3:a.2.2.g vs n)(k1:b.1<=m)(k2:m<=b.2.1)(k3:b.2.2.g vs m):(ZD a b).g C vs (.bool (decide (n<m))):=by
 obtain ⟨l1,u1,r1⟩:=a;obtain ⟨l2,u2,r2⟩:=b;simp [ZD];split
 ·grind [SD.g]
 ·split
  ·grind [SD.g]
  ·split
   ·split
    ·obtain ⟨q,e1,e2⟩:=k3
     refine ⟨_,rfl,q,e1,?_⟩
     grind
    ·exact ⟨_,rfl,trivial⟩
   ·split
    ·obtain ⟨q,e1,e2⟩:=h3
     refine ⟨_,rfl,q,e1,?_⟩
     grind
    ·exact ⟨_,rfl,trivial⟩
   ·exact ⟨_,rfl,trivial⟩
theorem VT {a b:Int×Int×Rel}{n m:Int}(h1:a.1<=n)(h2:n<=a.2.1)(h3:a.2.2.g vs n)(k1:b.1<=m)(k2:m<=b.2.1)(k3:b.2.2.g vs m):(sEq a b).g C vs (.bool (n==m)):=by
 obtain ⟨l1,u1,r1⟩:=a;obtain ⟨l2,u2,r2⟩:=b;simp [sEq];split
 ·simp_all [SD.g]<;>omega
 ·split
  ·grind [SD.g]
  ·split
   ·split
    ·obtain ⟨q,e1,e2⟩:=h3
     refine ⟨_,rfl,q,e1,?_⟩
     grind
    ·exact ⟨_,rfl,trivial⟩
   ·split
    ·obtain ⟨q,e1,e2⟩:=k3
     refine ⟨_,rfl,q,e1,?_⟩
     grind
    ·exact ⟨_,rfl,trivial⟩
   ·exact ⟨_,rfl,trivial⟩
theorem Bq {a b c:Int}(h0:0<=a)(h:a<=b)(hc:1<=c):a.tdiv c<=b.tdiv c:=by
 rw [Int.tdiv_eq_ediv_of_nonneg h0,Int.tdiv_eq_ediv_of_nonneg (by omega)];exact Int.ediv_le_ediv (by omega) h
theorem Ud {op:BinOp}{k:IntKind}{a b:Int×Int×Rel}{n m:Int}{x:SD}(h1:a.1<=n)(h2:n<=a.2.1)(h3:a.2.2.g vs n)(k1:b.1<=m)(k2:m<=b.2.1)(k3:b.2.2.g vs m)(h:Kj op k a b=some x) :
  ∃ d,aS op k n m=some d/\x.g C vs d:=by
 cases op<;>simp only [Kj,reduceCtorEq,Option.some.injEq] at h<;>simp only [aS]
 case add=>exact ⟨_,rfl,(AZ h (by omega) (by omega) trivial).1⟩
 case sub=>exact ⟨_,rfl,(AZ h (by omega) (by omega) trivial).1⟩
 case mul =>
  split at h
  ·rename_i hc
   simp [b5,decide_eq_true_eq] at hc;exact ⟨_,rfl,(AZ h (Int.mul_nonneg (by omega) (by omega)) (Int.mul_le_mul (by omega) (by omega) (by omega) (by omega)) trivial).1⟩
  ·cases h
 case quo =>
  split at h
  ·rename_i hc
   simp [b5,decide_eq_true_eq] at hc;have hm:m=b.1:=by omega
   subst hm;rw [if_neg (by omega)];exact ⟨_,rfl,(AZ h (Bq (by omega) (by omega) (by omega)) (Bq (by omega) (by omega) (by omega)) trivial).1⟩
  ·cases h
 case rem =>
  split at h
  ·rename_i hc
   simp [decide_eq_true_eq] at hc;have hm:0<m:=by omega
   have hlt:=Int.tmod_lt_of_pos n hm;split at h
   ·rename_i mE
    simp [decide_eq_true_eq] at mE;have h0:=Int.tmod_nonneg (a:=n) m (by omega);have hle:n.tmod m<=n:=by
     by_cases hl:n<m
     ·rw [Int.tmod_eq_of_lt (by omega) hl]
      omega
     ·omega
    have:=(AZ (C:=C) (vs:=vs) (n:=n.tmod m) h h0 (by omega) (by
     split
     ·rename_i i hi
      rw [hi] at k3;obtain ⟨q,e1,e2⟩:=k3;exact ⟨q,e1,h0,by omega⟩
     ·trivial))
    grind
   ·have hge: -m<n.tmod m:=by
     by_cases hn:n<0
     ·have e:n.tmod m= -((-n).tmod m):=by simp_all
      have:=Int.tmod_lt_of_pos (-n) hm;omega
     ·have:=Int.tmod_nonneg (a:=n) m (by omega)
      omega
    have:=(AZ (C:=C) (vs:=vs) (n:=n.tmod m) h (by omega) (by omega) trivial)
    grind
  ·cases h
 case eql=>grind [VT]
 case neq=>grind [JY,VT]
 case lss=>grind [Kk]
 case gtr=>subst h;simp_all [Kk]
 case leq =>
  have:=JY (Kk (C:=C) k1 k2 k3 h1 h2 h3)
  grind [decide_not,decide]
 case geq =>
  have:=JY (Kk (C:=C) h1 h2 h3 k1 k2 k3)
  grind [decide_not,decide]
theorem Ue {op:BinOp}{a b:Nat×Option (List UInt8)}{s t:List UInt8}{x:SD}(h1:s.length<=a.1)(h2:∀ u,a.2=some u->s=u)(k1:t.length<=b.1)(k2:∀ u,b.2=some u->t=u)(h:Qz op a b=some x) :
  ∃ d,sY op s t=some d/\x.g C vs d:=by
 cases op<;>simp only [Qz,reduceCtorEq] at h<;>simp only [sY]
 case add =>
  split at h
  ·rename_i hc
   have hc:=o7 hc;rw [if_pos (by omega)]
   grind [SD.g]
  ·cases h
 case eql =>
  refine ⟨_,rfl,?_⟩;split at h
  ·grind [SD.g]
  ·cases h
   exact ⟨_,rfl,trivial⟩
 case neq =>
  refine ⟨_,rfl,?_⟩;split at h
  ·grind [SD.g]
  ·cases h
   exact ⟨_,rfl,trivial⟩
theorem YI (hB:Bg vs B){op:BinOp}{x y z:SD}{a b:Data}(hx:x.g C vs a)(hy:y.g C vs b)(h:YH B op x y=some z):∃ d,M5 op a b=some d/\z.g C vs d:=by
 unfold YH at h;split at h
 ·rename_i k p k' q hp hq
  split at h
  ·rename_i hk
   have hk:k=k' :=of_decide_eq_true hk;obtain ⟨n,rfl,h1,h2,h3⟩:=SD.gL hB hp hx;obtain ⟨m,rfl,k1,k2,k3⟩:=SD.gL hB hq hy;obtain ⟨d,e1,e2⟩:=Ud (C:=C) (vs:=vs) h1 h2 h3 k1 k2 k3 h;simp_all [X4,Kj,M5]<;>grind
  ·cases h
 ·split at h
  ·rename_i p q hp hq
   obtain ⟨p1,p2⟩:=p;obtain ⟨q1,q2⟩:=q;obtain ⟨s,rfl,h1,h2⟩:=SD.tT hp hx;obtain ⟨t,rfl,k1,k2⟩:=SD.tT hq hy;obtain ⟨d,e1,e2⟩:=Ue (C:=C) (vs:=vs) (a:=(p1,p2)) (b:=(q1,q2)) h1 h2 k1 k2 h;simp_all [M5]
  ·cases h
end
def SB.join:SB->SB->SB
 | .cmp i n p,.cmp j m q=>if r9 i j&&r9 n m&&(p==q) then .cmp i n p else .qo
 |_,_=> .qo
def Gf:Option Nat->Option Nat->Option Nat
 |some i,some j=>if r9 i j then some i else none
 |_,_=>none
def SD.strip:SD->SD
 | .pr _ x=>x.strip
 |x=>x
def JU (a b:Data):SD:=match a,b with
 | .slice n cs,.slice m ds =>
  if r9 cs.length (n * (if r9 n 0 then ds.length / m else cs.length / n))&&r9 ds.length (m * (if r9 n 0 then ds.length / m else cs.length / n)) then
   .slice none (min n m) (max n m) (Fz (if r9 n 0 then ds.length / m else cs.length / n) (rowsOf (if r9 n 0 then ds.length / m else cs.length / n) n cs++rowsOf (if r9 n 0 then ds.length / m else cs.length / n) m ds))
  else .top
 |a,b=>EN a b
def Ai (x:SD)(b:Data):SD:=match x,b with
 | .slice _ lo hi row,.slice n cells=>if r9 cells.length (n * row.length) then .slice none (min lo n) (max hi n) ((rowsOf row.length n cells).foldl tI row) else .top
 | .anyI k,.int k' _=>if NV k k' then .anyI k else .top
 |x,b=>Ns x b
mutual
def SD.join:SD->SD->SD
 | .lit a,y=>match y with
  | .lit b=>if MG a b then .lit a else JU a b
  |y=>Ai y.strip a
 | .pr k x,y=>match y with
  | .pr k' y' =>if r9 k k' then .pr k (x.join y') else x.join y'
  |y=>x.join y
 | .int k lo hi r,y=>match y.strip with
  | .lit b=>Ai (.int k lo hi r) b
  | .int k' lo' hi' r' =>if NV k k' then .int k (min lo lo') (max hi hi') (r.join r') else .top
  | .anyI k' =>if NV k k' then .anyI k else .top
  |_=> .top
 | .anyI k,y=>match y.strip with
  | .lit b=>Ai (.anyI k) b
  | .int k' _ _ _=>if NV k k' then .anyI k else .top
  | .anyI k' =>if NV k k' then .anyI k else .top
  |_=> .top
 | .str m,y=>match y.strip with
  | .lit b=>Ai (.str m) b
  | .str m' => .str (max m m')
  |_=> .top
 | .bool c,y=>match y.strip with
  | .lit b=>Ai (.bool c) b
  | .bool c' => .bool (c.join c')
  |_=> .top
 | .slice v lo hi row,y=>match y.strip with
  | .lit b=>Ai (.slice v lo hi row) b
  | .slice v' lo' hi' row' =>if r9 row.length row'.length then .slice (Gf v v') (min lo lo') (max hi hi') (F2.join row row') else .top
  |_=> .top
 | .top,_=> .top
def F2.join:List SD->List SD->List SD
 |x::xs,y::ys=>x.join y::F2.join xs ys
 |_,_=>[]
end
section
variable {C:Ctx} {vs:List Nat}
theorem SD.kT:∀ {x:SD} {d:Data},x.g C vs d->x.strip.g C vs d
 | .pr _ x,_,h=>by simp_all [SD.g,SD.strip,SD.kT]
 | .top,_,h=>h
 | .lit _,_,h=>h
 | .bool _,_,h=>h
 | .int ..,_,h=>h
 | .anyI _,_,h=>h
 | .str _,_,h=>h
 | .slice ..,_,h=>h
theorem JV (a b:Data):(JU a b).g C vs a/\(JU a b).g C vs b:=by
 unfold JU;split
 ·rename_i n cs m ds
  generalize (if r9 n 0 then ds.length / m else cs.length / n)=sz;split
  ·rename_i hc
   simp only [b5] at hc;have c1:=b9 hc.1;have c2:=b9 hc.2;obtain ⟨e1,e2,e3⟩:=cR n cs c1;obtain ⟨f1,f2,f3⟩:=cR m ds c2;obtain ⟨g1,_⟩:=Kh (C:=C) (vs:=vs) (sz:=sz) (rs:=rowsOf sz n cs++rowsOf sz m ds) (fun r hr=>(List.mem_append.1 hr).elim (e3 r) (f3 r))
   grind [SD.g,List.mem_append_left,List.mem_append_right]
  ·simp [SD.g]
 ·exact CM a b
theorem tJ {x:SD}{a:Data}(b:Data)(h:x.g C vs a):(Ai x b).g C vs a:=by
 unfold Ai;split
 ·rename_i v lo hi row n cells
  split
  ·rename_i hc
   have hc:=b9 hc;simp [SD.g] at h ⊢;obtain ⟨e1,e2,e3⟩:=cR n cells hc;obtain ⟨f1,_,_⟩:=vL (C:=C) (vs:=vs) (rowsOf row.length n cells) row rfl e3
   grind [F2.len]
  ·simp [SD.g]
 all_goals grind [SD.g,QE]
theorem tK (x:SD)(b:Data):(Ai x b).g C vs b:=by
 unfold Ai;split
 ·rename_i v lo hi row n cells
  split
  ·rename_i hc
   have hc:=b9 hc;simp [SD.g];obtain ⟨e1,e2,e3⟩:=cR n cells hc;obtain ⟨_,f2,_⟩:=vL (C:=C) (vs:=vs) (rowsOf row.length n cells) row rfl e3
   grind
  ·simp [SD.g]
 ·split
  ·rename_i k k' n hk
   have hk:k=k' :=of_decide_eq_true hk;simp_all [SD.g]
  ·simp [SD.g]
 ·exact QF _ b
theorem SB.S8 {a b:SB}{t:Bool}(h:a.g vs t):(a.join b).g vs t:=by
 unfold SB.join;split
 ·split
  ·exact h
  ·trivial
 ·trivial
theorem SB.S9 {a b:SB}{t:Bool}(h:b.g vs t):(a.join b).g vs t:=by
 unfold SB.join;split
 ·split
  ·simp_all
  ·trivial
 ·trivial
theorem Rel.S8 {a b:Rel}{t:Int}(h:a.g vs t):(a.join b).g vs t:=by
 unfold Rel.join;split
 ·split
  ·exact h
  ·trivial
 ·split
  ·exact h
  ·trivial
 ·trivial
theorem Rel.S9 {a b:Rel}{t:Int}(h:b.g vs t):(a.join b).g vs t:=by
 unfold Rel.join;split
 ·split
  ·simp_all
  ·trivial
 ·split
  ·simp_all
  ·trivial
 ·trivial
theorem Ux {v w:Option Nat}{m:Nat}(h:∀ i,v=some i->vs[i]? =some m):∀ i,Gf v w=some i->vs[i]? =some m:=by
 simp_all [Gf]<;>grind
theorem Uy {v w:Option Nat}{m:Nat}(h:∀ i,w=some i->vs[i]? =some m):∀ i,Gf v w=some i->vs[i]? =some m:=by
 simp_all [Gf]<;>grind
mutual
theorem SD.S8:∀ (x y:SD) {d:Data},x.g C vs d->(x.join y).g C vs d
 | .lit a,y,_,h=>by
  simp [SD.join]
  grind [SD.g,JV,tK]
 | .pr k x,y,_,h=>by
  simp [SD.join];split
  ·split
   ·exact ⟨h.1,SD.S8 x _ h.2⟩
   ·exact SD.S8 x _ h.2
  ·exact SD.S8 x _ h.2
 | .int k lo hi r,y,_,h=>by
  grind [SD.join,tJ,SD.g,Rel.S8]
 | .anyI k,y,_,h=>by
  grind [SD.join,tJ,SD.g]
 | .str m,y,_,h=>by
  grind [SD.join,tJ,SD.g]
 | .bool c,y,_,h=>by
  grind [SD.join,tJ,SD.g,SB.S8]
 | .slice v lo hi row,y,_,h=>by
  simp only [SD.join];split
  ·exact tJ _ h
  ·split
   ·rename_i hc
    have hc:=b9 hc;obtain ⟨rows,rfl,h1,h2,h3,h4⟩:=h;exact ⟨rows,rfl,by omega,by omega,Ux h3,fun r hr=>F2.S8 row _ hc (h4 r hr)⟩
   ·simp [SD.g]
  ·simp [SD.g]
 | .top,y,_,h=>by simp [SD.join,SD.g]
theorem F2.S8:∀ (x y:List SD) {d:List Data},x.length=y.length->F2.g C vs x d->F2.g C vs (F2.join x y) d
 |[],[],_,_,h=>by grind [F2.join]
 |[],_::_,_,hl,h=>by simp at hl
 |_::_,[],_,hl,h=>by simp at hl
 |x::xs,y::ys,_,hl,h=>by
  obtain ⟨d,ds,rfl,h1,h2⟩:=h;exact ⟨_,_,rfl,SD.S8 x y h1,F2.S8 xs ys (by simp_all) h2⟩
end
mutual
theorem SD.S9:∀ (x y:SD) {d:Data},y.g C vs d->(x.join y).g C vs d
 | .lit a,y,_,h=>by
  simp [SD.join];split
  ·split
   ·grind [Cz]
   simp_all [SD.g,JV]
  ·exact tJ _ (SD.kT h)
 | .pr k x,y,_,h=>by
  simp only [SD.join];split
  ·split
   ·rename_i hc
    rw [b9 hc];exact ⟨h.1,SD.S9 x _ h.2⟩
   ·exact SD.S9 x _ h.2
  ·exact SD.S9 x _ h
 | .int k lo hi r,y,_,h=>by
  have h:=SD.kT h;simp [SD.join];split
  ·simp_all [SD.g,tK]
  ·split
   ·rename_i hk
    have hk:=of_decide_eq_true hk
    grind [SD.g,Rel.S9]
   ·simp [SD.g]
  ·split
   ·rename_i hk
    have hk:=of_decide_eq_true hk;simp_all
   ·simp [SD.g]
  ·simp [SD.g]
 | .anyI k,y,_,h=>by
  have h:=SD.kT h;simp [SD.join];split
  ·simp_all [SD.g,tK]
  ·split
   ·rename_i hk
    have hk:=of_decide_eq_true hk
    grind [SD.g]
   ·simp [SD.g]
  ·split
   ·rename_i hk
    have hk:=of_decide_eq_true hk;simp_all
   ·simp [SD.g]
  ·simp [SD.g]
 | .str m,y,_,h=>by
  have h:=SD.kT h
  grind [SD.join,SD.g,tK]
 | .bool c,y,_,h=>by
  have h:=SD.kT h
  grind [SD.join,SD.g,tK,SB.S9]
 | .slice v lo hi row,y,_,h=>by
  have h:=SD.kT h;simp only [SD.join];split
  ·simp_all [SD.g,tK]
  ·rename_i e
   rw [e] at h;split
   ·rename_i hc
    have hc:=b9 hc;obtain ⟨rows,rfl,h1,h2,h3,h4⟩:=h;exact ⟨rows,rfl,by omega,by omega,Uy h3,fun r hr=>F2.S9 row _ hc (h4 r hr)⟩
   ·simp [SD.g]
  ·simp [SD.g]
 | .top,y,_,h=>by simp [SD.join,SD.g]
theorem F2.S9:∀ (x y:List SD) {d:List Data},x.length=y.length->F2.g C vs y d->F2.g C vs (F2.join x y) d
 |[],[],_,_,h=>by grind [F2.join]
 |[],_::_,_,hl,h=>by simp at hl
 |_::_,[],_,hl,h=>by simp at hl
 |x::xs,y::ys,_,hl,h=>by
  obtain ⟨d,ds,rfl,h1,h2⟩:=h;exact ⟨_,_,rfl,SD.S9 x y h1,F2.S9 xs ys (by simp_all) h2⟩
end
theorem F2.EL:∀ (x y:List SD),x.length=y.length->(F2.join x y).length=x.length
 |[],[],_=>rfl
 |[],_::_,h=>by simp at h
 |_::_,[],h=>by simp at h
 |x::xs,y::ys,h=>by simp_all [F2.join,B7,F2.EL]
end
def uA (sz:Nat):Nat->List SD->List (List SD)
 |0,_=>[]
 |n+1,cs=>cs.take sz::uA sz n (cs.drop sz)
def QA (sz:Nat):List (List SD)->List SD
 |[]=>c9 sz .top
 |r::rs=>rs.foldl F2.join r
def EM :List SD->Option (List Data)
 |[]=>some []
 | .lit d::r=>match EM r with
  |some ds=>some (d::ds)
  |none=>none
 |_=>none
def mkSlice (sz len:Nat)(xs:List SD):SD:=match EM xs with
 |some ds=> .lit (.slice len ds)
 |none=> .slice none len len (QA sz (uA sz len xs))
section
variable {C:Ctx} {vs:List Nat}
theorem Pu:∀ {xs:List SD} {ds es:List Data},EM xs=some ds->F2.g C vs xs es->es=ds
 |[],_,_,h,hg=>by simp_all [EM,Option.some.injEq,F2.g]
 |x::xs,_,_,h,hg=>by
  obtain ⟨d,ds',rfl,h1,h2⟩:=hg;cases x<;>simp [EM,reduceCtorEq] at h;split at h
  ·rename_i ds hds
   cases h;rw [h1,Pu hds h2]
  ·cases h
theorem FE {sz:Nat}:∀ (rs:List (List SD)) (x:List SD),x.length=sz->(∀ r,r ∈ rs->r.length=sz)->(∀ a,F2.g C vs x a->F2.g C vs (rs.foldl F2.join x) a)/\(∀ r a,r ∈ rs->F2.g C vs r a->F2.g C vs (rs.foldl F2.join x) a)/\(rs.foldl F2.join x).length=sz
 |[],x,hx,_=>⟨fun a h=>h,by simp,hx⟩
 |r::rs,x,hx,hr=>by
  have hl:(F2.join x r).length=sz:=by simp_all [F2.EL]
  obtain ⟨h1,h2,h3⟩:=FE rs (F2.join x r) hl (fun r' h=>hr r' (by simp [h]))
  grind [F2.S8,F2.S9]
theorem F2.take {x:List SD}:∀ {d:List Data},F2.g C vs x d->∀ n,F2.g C vs (x.take n) (d.take n):=by
 induction x with
 |nil=>simp_all [F2.g]
 |cons x xs ih =>
  intro d h n;cases n with
  |zero=>simp [F2.g]
  |succ n=>grind [F2.g]
theorem F2.drop {x:List SD}:∀ {d:List Data},F2.g C vs x d->∀ n,F2.g C vs (x.drop n) (d.drop n):=by
 induction x with
 |nil=>simp_all [F2.g]
 |cons x xs ih =>
  intro d h n;have h' :=h;obtain ⟨d,ds,rfl,h2,h3⟩:=h;cases n with
  |zero=>exact h'
  |succ n=>simp_all
theorem Kl {sz:Nat}:∀ (n:Nat) {xs:List SD} {ds:List Data},xs.length=n * sz->F2.g C vs xs ds ->
  ∃ rows:List (List Data),rows.flatten=ds/\rows.length=n/\(∀ r,r ∈ uA sz n xs->r.length=sz)/\∀ r,r ∈ rows->∃ s,s ∈ uA sz n xs/\F2.g C vs s r
 |0,xs,ds,hl,h=>by
  have:xs=[]:=List.eq_nil_of_length_eq_zero (by omega);subst this;simp only [F2.g] at h;subst h;exact ⟨[],rfl,rfl,by simp [uA],by simp⟩
 |n+1,xs,ds,hl,h=>by
  rw [Nat.succ_mul] at hl;obtain ⟨rows,h1,h2,h3,h4⟩:=Kl (sz:=sz) n (xs:=xs.drop sz) (by simp;omega) (F2.drop h sz);refine ⟨ds.take sz::rows,by simp [h1],by simp [h2],fun r hr=> ?_,fun r hr=> ?_⟩
  ·grind [uA]
  ·rcases C6.1 hr with rfl|hr
   all_goals simp_all [uA,F2.take]
theorem od {sz len:Nat}{xs:List SD}{ds:List Data}(hl:xs.length=len * sz)(h:F2.g C vs xs ds):(mkSlice sz len xs).g C vs (.slice len ds):=by
 unfold mkSlice;split
 ·grind [SD.g,Pu]
 ·obtain ⟨rows,h1,h2,h3,h4⟩:=Kl len hl h
  refine ⟨rows,by rw [h1,h2],by omega,by omega,(fun i e=>by cases e),fun r hr=> ?_⟩;obtain ⟨s,h5,h6⟩:=h4 r hr;cases hs:uA sz len xs with
  |nil=>simp_all
  |cons q qs =>
   rw [hs] at h5 h3;obtain ⟨f1,f2,_⟩:=FE (C:=C) (vs:=vs) qs q (h3 q (by simp)) (fun r hr=>h3 r (by simp [hr]))
   grind [QA]
end
def exact? (B:fZ)(x:SD):Option Int:=match x.int? B with
 |some (_,a,b,_)=>if decide (a=b) then some a else none
 |none=>none
def Bb (σ:q7->SV)(B:fZ)(dl dh:Int):Option q7->Option (Int×Int)
 |none=>some (dl,dh)
 |some x=>match σ x with
  | .d y=>match y.int? B with
   |some (_,a,b,_)=>some (a,b)
   |none=>none
  |_=>none
def Pr (v:Option Nat)(lo hi:Nat):SD:=if r9 lo hi then .lit (.int .i64 lo) else .int .i64 lo hi (match v with|some i=> .eq i|none=> .no)
def inR:Rel->Option Nat->Bool
 | .lt p,some q=>r9 p q
 |_,_=>false
def yz (σ:q7->SV)(H:List SO)(B:fZ):q9->Option (SV×List Nat)
 | .pick c a b=>match σ c with
  | .d x=>match x.bool? with
   |some (.t t)=>some (if t then σ a else σ b,[])
   |_=>none
  |_=>none
 | .build zero parts=>match yp (zero.map Sz) (parts.map fun (o,s,x)=>(o,s,σ x)) with
  |some cs=>some (.agg none cs,[])
  |none=>none
 | .p8 sz len zero parts false=>match yp (zero.map Sz) (parts.map fun (o,s,x)=>(o,s,σ x)) with
  |some cs=>match iN cs with
   |some xs=>if Nat.blt 0 sz&&r9 xs.length (len * sz) then some (.own sz (mkSlice sz len xs),[]) else none
   |none=>none
  |none=>none
 | .load none x=>match σ x with
  | .ptr id off=>match Ur H id off 1 with
   |some [v]=>some (v.G4,[id])
   |_=>none
  | .Q5 (c::_)=>some (.d c,[])
  |_=>none
 | .load (some n) x=>match σ x with
  | .ptr id off=>match H[id]? with
   |some (.cells p l)=>if L3 (off+n) l.length then some (.agg (if r9 off 0&&r9 n l.length then p else none) (((l.drop off).take n).map SV.G4),[id]) else none
   |_=>none
  | .Q5 row=>if L3 n row.length then some (.agg none ((row.take n).map .d),[]) else none
  |_=>none
 | .X6 x=>match σ x with
  | .ptr id off=>some (.ptr id off,[])
  | .wp id lo z c=>some (.wp id lo z c,[])
  | .Q5 row=>some (.Q5 row,[])
  |_=>none
 | .bin op x y=>match σ x,σ y with
  | .d a,.d b=>match YH B op a b with
   |some z=>some (.d z,[])
   |none=>none
  |_,_=>none
 | .o9 _ x y=>match σ x,σ y with
  | .d a,.d b=>match a.bool?,b.bool? with
   |some _,some _=>some (.d (.bool .qo),[])
   |_,_=>none
  |_,_=>none
 | .un .not x=>match σ x with
  | .d a=>match a.bool? with
   |some (.t b)=>some (.d (.lit (.bool (!b))),[])
   |some (.u c)=>some (.d (.bool c.not),[])
   |none=>none
  |_=>none
 | .kY k x=>match σ x with
  | .d a=>match a.kind? with
   |some _=>some (.d (.anyI k),[])
   |none=>none
  |_=>none
 | .je x=>match σ x with
  | .d a=>match a.slice? B 1 with
   |some (_,_,hi,[c])=>match c.kind? with
    |some .u8=>some (.d (.str hi),[])
    |_=>none
   |_=>none
  |_=>none
 | .aN sz x lo hi=>match σ x with
  | .d a=>match a.slice? B sz with
   |some (_,l1,l2,row)=>match Bb σ B 0 0 lo,hi with
    |some (a1,a2),none=>if decide (0<=a1)&&decide (a2<=l1) then some (.d (.slice none (l1 - a2.toNat) (l2 - a1.toNat) row),[]) else none
    |some (a1,a2),some h=>match Bb σ B 0 0 (some h) with
     |some (b1,b2)=>if decide (0<=a1)&&decide (a2<=b1)&&decide (b2<=l1) then some (.d (.slice none (b1 - a2).toNat (b2 - a1).toNat row),[]) else none
     |none=>none
    |_,_=>none
   |none=>none
  | .D4 id z a len=>match Bb σ B 0 0 lo,Bb σ B len len hi with
   |some (a1,a2),some (b1,b2)=>if decide (a1=a2)&&decide (b1=b2)&&decide (0<=a1)&&decide (a1<=b1)&&decide (b1<=len)&&r9 z sz then
     (if decide (a1=b1) then some (.d (.lit (.slice 0 [])),[]) else some (.D4 id sz (a+a1.toNat * sz) (b1 - a1).toNat,[])) else none
   |_,_=>none
  |_=>none
 | .off k x=>match σ x with
  | .ptr id off=>some (.ptr id (off+k),[])
  | .wp id lo z c=>some (.wp id (lo+k) z c,[])
  | .Q5 row=>if L3 k row.length then some (.Q5 (row.drop k),[]) else none
  |_=>none
 | .C4 sz x i=>match σ x,σ i with
  | .d a,.d j=>match a.slice? B sz,j.int? B with
   |some (v,lo,_,row),some (_,j1,j2,r)=>if decide (0<=j1)&&(decide (j2<lo)||inR r v) then some (.Q5 row,[]) else none
   |_,_=>none
  | .D4 id z lo len,.d j=>match exact? B j with
   |some n=>if decide (0<=n)&&decide (n<len)&&r9 z sz then some (.ptr id (lo+n.toNat * sz),[]) else none
   |none=>match j.int? B with
    |some (_,a,b,_)=>if decide (0<=a)&&decide (b<len)&&r9 z sz then some (.wp id lo sz len,[]) else none
    |none=>none
  |_,_=>none
 | .extract x i=>match σ x with
  | .tuple vs=>match vs[i]? with
   |some v=>some (v,[])
   |none=>none
  |_=>none
 | .len x=>match σ x with
  | .d a=>match a.pV B with
   |some (v,lo,hi)=>some (.d (Pr v lo hi),[])
   |none=>none
  | .D4 _ _ _ len=>some (.d (.lit (.int .i64 len)),[])
  |_=>none
 | .U9 x=>match σ x with
  | .d a=>match a.rU with
   |some (m,none)=>some (.d (.int .i64 0 m .no),[])
   |some (_,some s)=>some (.d (.lit (.int .i64 s.length)),[])
   |none=>none
  |_=>none
 |_=>none
end Go.y3.Sh

