import Derived.Test.YtibjocmpkoepoaaGreatB6
set_option linter.all false
open Bool renaming and_eq_true → c9, false_eq_true → j5, not_eq_true' → o8, or_eq_true → L5
open List renaming all_eq_true → L1, append_assoc → A9, cons_append → B7, drop_of_length_le → n5, getElem?_append_left → q7, getElem?_append_right → p7, length_append → n9, length_cons → q6, length_map → A1, map_cons → E0, mem_append_left → M1, mem_cons → y7, mem_map → L6, mem_singleton → s6, nil_append → B9, replicate → j4, take_of_length_le → A8
open Nat renaming beq → s7, ble → D9, eq_of_beq_eq_true → j7, le_of_ble_eq_true → k9, le_refl → o5, le_trans → B5, lt_or_ge → s5, mul_le_mul_right → M3
namespace Go.Abs.Sh
open Go.Abs
inductive Rel where
 |no
 |eq (i:Nat)
 |lt (i:Nat)
inductive SB where
 |uv
 |cmp (i n:Nat) (pol:Bool)
inductive SD where
 |top
 |lit (x:Data)
 |bool (c:SB)
 |int (k:IntKind) (lo hi:Int) (r:Rel)
 |anyI (k:IntKind)
 |str (n:Nat)
 |slice (v:Option Nat) (lo hi:Nat) (row:List SD)
 |pr (k:Nat) (x:SD)
inductive SV where
 |top
 |any
 |d (x:SD)
 |own (sz:Nat) (x:SD)
 |P5
 |ptr (id off:Nat)
 |S9 (row:List SD)
 |B6 (id sz lo len:Nat)
 |agg (p:Option Nat) (l:List SV)
 |tuple (l:List SV)
 |bn (k:Nat)  
 |q (x:SD)    
 |wp (id lo sz cnt:Nat)  
instance:Inhabited SV:=⟨.any⟩
instance:Inhabited SD:=⟨.top⟩
inductive SO where
 |dead
 |cells (p:Option Nat) (l:List SV)
 |pr (k:Nat)
 |bn (k:Nat)
 |top
 |Rb (k b:Nat)  
instance:Inhabited SO:=⟨.dead⟩
structure Ctx where
 Φ:Nat->Data->Prop
 Θ:Nat->List j3->Prop
 Ψ:Nat->x9->Prop
 L7:∀ k o,Ψ k o->o.L7=0
 Ω:Nat->x9->Prop:=fun _ _=>False
def Rel.g (vs:List Nat):Rel->Int->Prop
 | .no,_=>True
 | .eq i,n=>∃ m,vs[i]? =some m/\n=(m:Int)
 | .lt i,n=>∃ m,vs[i]? =some m/\0<=n/\n<(m:Int)
def SB.g (vs:List Nat):SB->Bool->Prop
 | .uv,_=>True
 | .cmp i n pol,b=>∃ m,vs[i]? =some m/\b=(decide (n<m)==pol)
section
variable (C:Ctx)
mutual
def SD.g (vs:List Nat):SD->Data->Prop
 | .top,_=>True
 | .lit x,d=>d=x
 | .bool c,d=>∃ b,d= .bool b/\c.g vs b
 | .int k lo hi r,d=>∃ n,d= .int k n/\lo<=n/\n<=hi/\r.g vs n
 | .anyI k,d=>∃ n,d= .int k n
 | .str m,d=>∃ s,d= .str s/\s.length<=m
 | .slice v lo hi row,d=>∃ rows:List (List Data),d= .slice rows.length rows.flatten/\lo<=rows.length/\rows.length<=hi/\(∀ i,v=some i->vs[i]? =some rows.length)/\∀ r,r ∈ rows->K7.g vs row r
 | .pr k x,d=>C.Φ k d/\SD.g vs x d
def K7.g (vs:List Nat):List SD->List Data->Prop
 |[],ds=>ds=[]
 |x::xs,ds=>∃ d ds',ds=d::ds' /\SD.g vs x d/\K7.g vs xs ds'
end
mutual
def SV.g (vs:List Nat):SV->j3->Prop
 | .top,_=>True
 | .any,v=>v= .any
 | .d x,v=>∃ y,v= .d y/\SD.g C vs x y
 | .own sz x,v=>∃ len cells,v= .own sz len cells/\SD.g C vs x (.slice len cells)
 | .P5,v=>v= .P5
 | .ptr id off,v=>v= .ptr id off
 | .S9 row,v=>∃ cells rest,v= .S9 (cells++rest)/\K7.g C vs row cells
 | .B6 id sz lo len,v=>v= .B6 id sz lo len
 | .agg p l,v=>∃ cs,v= .agg cs/\y5.g vs l cs/\∀ k,p=some k->C.Θ k (cs.map j3.I7)
 | .tuple l,v=>∃ cs,v= .tuple cs/\y5.g vs l cs
 | .bn k,v=>v.L7=k/\v.one=true
 | .q x,v=>∃ y,v.I7= .d y/\SD.g C vs x y
 | .wp id lo sz cnt,v=>∃ j,j<cnt/\v= .ptr id (lo+j * sz)
def y5.g (vs:List Nat):List SV->List j3->Prop
 |[],as=>as=[]
 |x::xs,as=>∃ a as',as=a::as' /\SV.g vs x a/\y5.g vs xs as'
end
def SO.g (vs:List Nat):SO->x9->Prop
 | .dead,o=>o= .dead
 | .cells p l,o=>∃ cs,o= .cells cs/\y5.g C vs l cs/\∀ k,p=some k->C.Θ k (cs.map j3.I7)
 | .pr k,o=>C.Ψ k o
 | .bn k,o=>o.L7=k
 | .top,_=>True
 | .Rb k b,o=>C.Ω k o/\o.L7=b
def K2.g (vs:List Nat):List SO->q8->Prop
 |[],os=>os=[]
 |x::xs,os=>∃ o os',os=o::os' /\SO.g C vs x o/\K2.g vs xs os'
end
def Le (vs ws:List Nat):Prop:=∀ (i m:Nat),vs[i]? =some m->ws[i]? =some m
theorem Le.refl (vs:List Nat):Le vs vs:=fun _ _ h=>h
theorem Le.trans {a b c:List Nat}(h:Le a b)(k:Le b c):Le a c:=fun i m e=>k i m (h i m e)
theorem Le.app (vs ws:List Nat):Le vs (vs++ws):=fun i m h=>by
 grind
section
variable {C:Ctx} {vs ws:List Nat}
theorem Rel.P3 (hl:Le vs ws){r:Rel}{n:Int}(h:r.g vs n):r.g ws n:=by
 cases r with
 |no=>trivial
 |eq i=>obtain ⟨m,h1,h2⟩:=h;exact ⟨m,hl _ _ h1,h2⟩
 |lt i=>obtain ⟨m,h1,h2⟩:=h;exact ⟨m,hl _ _ h1,h2⟩
theorem SB.P3 (hl:Le vs ws){r:SB}{n:Bool}(h:r.g vs n):r.g ws n:=by
 cases r with
 |uv=>trivial
 |cmp i n pol=>obtain ⟨m,h1,h2⟩:=h;exact ⟨m,hl _ _ h1,h2⟩
mutual
theorem SD.P3 (hl:Le vs ws):∀ (x:SD) {d:Data},x.g C vs d->x.g C ws d
 | .top,_,h=>by simp [SD.g]
 | .lit _,_,h=>by simp_all [SD.g]
 | .bool c,_,h=>by grind [SD.g,SB.P3]
 | .int k lo hi r,_,h=>by grind [SD.g,Rel.P3]
 | .anyI _,_,h=>by simp_all [SD.g]
 | .str _,_,h=>by simp_all [SD.g]
 | .slice v lo hi row,_,h=>by
  obtain ⟨rows,h1,h2,h3,h4,h5⟩:=h;exact ⟨rows,h1,h2,h3,fun i e=>hl _ _ (h4 i e),fun r hr=>K7.P3 hl row (h5 r hr)⟩
 | .pr _ x,_,h=>by exact ⟨h.1,SD.P3 hl x h.2⟩
theorem K7.P3 (hl:Le vs ws):∀ (x:List SD) {d:List Data},K7.g C vs x d->K7.g C ws x d
 |[],_,h=>by simp_all [K7.g]
 |x::xs,_,h=>by obtain ⟨d,ds,h1,h2,h3⟩:=h;exact ⟨d,ds,h1,SD.P3 hl x h2,K7.P3 hl xs h3⟩
end
mutual
theorem SV.P3 (hl:Le vs ws):∀ (x:SV) {d:j3},x.g C vs d->x.g C ws d
 | .top,_,h=>by simp only [SV.g]
 | .any,_,h=>by simpa only [SV.g] using h
 | .d x,_,h=>by simp only [SV.g] at h ⊢;obtain ⟨y,h1,h2⟩:=h;exact ⟨y,h1,SD.P3 hl x h2⟩
 | .own _ x,_,h=>by simp only [SV.g] at h ⊢;obtain ⟨a,b,h1,h2⟩:=h;exact ⟨a,b,h1,SD.P3 hl x h2⟩
 | .P5,_,h=>by simpa only [SV.g] using h
 | .ptr ..,_,h=>by simpa only [SV.g] using h
 | .S9 row,_,h=>by simp only [SV.g] at h ⊢;obtain ⟨a,b,h1,h2⟩:=h;exact ⟨a,b,h1,K7.P3 hl row h2⟩
 | .B6 ..,_,h=>by simpa only [SV.g] using h
 | .wp ..,_,h=>by simpa only [SV.g] using h
 | .agg p l,_,h=>by simp only [SV.g] at h ⊢;obtain ⟨cs,h1,h2,h3⟩:=h;exact ⟨cs,h1,y5.P3 hl l h2,h3⟩
 | .tuple l,_,h=>by simp only [SV.g] at h ⊢;obtain ⟨cs,h1,h2⟩:=h;exact ⟨cs,h1,y5.P3 hl l h2⟩
 | .bn _,_,h=>by simpa only [SV.g] using h
 | .q x,_,h=>by simp only [SV.g] at h ⊢;obtain ⟨y,h1,h2⟩:=h;exact ⟨y,h1,SD.P3 hl x h2⟩
theorem y5.P3 (hl:Le vs ws):∀ (x:List SV) {d:List j3},y5.g C vs x d->y5.g C ws x d
 |[],_,h=>by simpa only [y5.g] using h
 |x::xs,_,h=>by simp only [y5.g] at h ⊢;obtain ⟨d,ds,h1,h2,h3⟩:=h;exact ⟨d,ds,h1,SV.P3 hl x h2,y5.P3 hl xs h3⟩
end
theorem SO.P3 (hl:Le vs ws)(x:SO){o:x9}(h:x.g C vs o):x.g C ws o:=by
 cases x with
 |dead=>exact h
 |cells p l=>obtain ⟨cs,h1,h2,h3⟩:=h;exact ⟨cs,h1,y5.P3 hl l h2,h3⟩
 |pr k=>exact h
 |bn k=>exact h
 |top=>trivial
 |Rb k b=>exact h
theorem K2.P3 (hl:Le vs ws):∀ (x:List SO) {o:q8},K2.g C vs x o->K2.g C ws x o
 |[],_,h=>by simp_all [K2.g]
 |x::xs,_,h=>by obtain ⟨d,ds,h1,h2,h3⟩:=h;exact ⟨d,ds,h1,SO.P3 hl x h2,K2.P3 hl xs h3⟩
end
section
variable {C:Ctx} {vs:List Nat}
theorem K7.len:∀ {x:List SD} {d:List Data},K7.g C vs x d->d.length=x.length
 |[],_,h=>by simp_all [K7.g]
 |x::xs,_,h=>by obtain ⟨d,ds,rfl,_,h3⟩:=h;simp [K7.len h3]
theorem y5.len:∀ {x:List SV} {d:List j3},y5.g C vs x d->d.length=x.length
 |[],_,h=>by simp_all [y5.g]
 |x::xs,_,h=>by obtain ⟨d,ds,rfl,_,h3⟩:=h;simp [y5.len h3]
theorem K2.len:∀ {x:List SO} {d:q8},K2.g C vs x d->d.length=x.length
 |[],_,h=>by simp_all [K2.g]
 |x::xs,_,h=>by obtain ⟨d,ds,rfl,_,h3⟩:=h;simp [K2.len h3]
theorem y5.app:∀ {x y:List SV} {d e:List j3},y5.g C vs x d->y5.g C vs y e->y5.g C vs (x++y) (d++e)
 |[],_,_,_,h,k=>by simp_all [y5.g]
 |x::xs,_,_,_,h,k=>by obtain ⟨d,ds,rfl,h2,h3⟩:=h;exact ⟨d,_,rfl,h2,y5.app h3 k⟩
theorem K2.app:∀ {x y:List SO} {d e:q8},K2.g C vs x d->K2.g C vs y e->K2.g C vs (x++y) (d++e)
 |[],_,_,_,h,k=>by simp_all [K2.g]
 |x::xs,_,_,_,h,k=>by obtain ⟨d,ds,rfl,h2,h3⟩:=h;exact ⟨d,_,rfl,h2,K2.app h3 k⟩
theorem y5.get:∀ {x:List SV} {d:List j3},y5.g C vs x d->∀ {i:Nat} {a:SV},x[i]? =some a->∃ b,d[i]? =some b/\a.g C vs b
 |[],_,_,_,_,e=>by simp at e
 |x::xs,_,h,i,a,e=>by
  obtain ⟨d,ds,rfl,h2,h3⟩:=h;cases i with
  |zero=>simp at e;subst e;exact ⟨d,rfl,h2⟩
  |succ i=>simpa using y5.get h3 (by simpa using e)
theorem y5.none:∀ {x:List SV} {d:List j3},y5.g C vs x d->∀ {i:Nat},x[i]? =none->d[i]? =none:=fun h i e=>by
 grind [List.getElem?_eq_none_iff,y5.len]
theorem K2.get:∀ {x:List SO} {d:q8},K2.g C vs x d->∀ {i:Nat} {a:SO},x[i]? =some a->∃ b,d[i]? =some b/\a.g C vs b
 |[],_,_,_,_,e=>by simp at e
 |x::xs,_,h,i,a,e=>by
  obtain ⟨d,ds,rfl,h2,h3⟩:=h;cases i with
  |zero=>simp at e;subst e;exact ⟨d,rfl,h2⟩
  |succ i=>simpa using K2.get h3 (by simpa using e)
theorem y5.set:∀ {x:List SV} {d:List j3},y5.g C vs x d->∀ (i:Nat) {a:SV} {b:j3},a.g C vs b->y5.g C vs (x.set i a) (d.set i b)
 |[],_,h,_,_,_,_=>by simp_all [y5.g]
 |x::xs,_,h,i,a,b,e=>by
  obtain ⟨d,ds,rfl,h2,h3⟩:=h;cases i with
  |zero=>exact ⟨_,_,rfl,e,h3⟩
  |succ i=>exact ⟨_,_,rfl,h2,y5.set h3 i e⟩
theorem K2.set:∀ {x:List SO} {d:q8},K2.g C vs x d->∀ (i:Nat) {a:SO} {b:x9},a.g C vs b->K2.g C vs (x.set i a) (d.set i b)
 |[],_,h,_,_,_,_=>by simp_all [K2.g]
 |x::xs,_,h,i,a,b,e=>by
  obtain ⟨d,ds,rfl,h2,h3⟩:=h;cases i with
  |zero=>exact ⟨_,_,rfl,e,h3⟩
  |succ i=>exact ⟨_,_,rfl,h2,K2.set h3 i e⟩
theorem y5.take:∀ {x:List SV} {d:List j3},y5.g C vs x d->∀ (n:Nat),y5.g C vs (x.take n) (d.take n)
 |[],_,h,n=>by simp_all [y5.g]
 |x::xs,_,h,n=>by
  obtain ⟨d,ds,rfl,h2,h3⟩:=h;cases n with
  |zero=>simp [y5.g]
  |succ n=>exact ⟨_,_,rfl,h2,y5.take h3 n⟩
theorem y5.drop:∀ {x:List SV} {d:List j3},y5.g C vs x d->∀ (n:Nat),y5.g C vs (x.drop n) (d.drop n)
 |[],_,h,n=>by simp_all [y5.g]
 |x::xs,_,h,n=>by
  have h' :=h;obtain ⟨d,ds,rfl,h2,h3⟩:=h;cases n with
  |zero=>exact h'
  |succ n=>simpa using y5.drop h3 n
theorem K2.take:∀ {x:List SO} {d:q8},K2.g C vs x d->∀ (n:Nat),K2.g C vs (x.take n) (d.take n)
 |[],_,h,n=>by simp_all [K2.g]
 |x::xs,_,h,n=>by
  obtain ⟨d,ds,rfl,h2,h3⟩:=h;cases n with
  |zero=>simp [K2.g]
  |succ n=>exact ⟨_,_,rfl,h2,K2.take h3 n⟩
theorem K2.drop:∀ {x:List SO} {d:q8},K2.g C vs x d->∀ (n:Nat),K2.g C vs (x.drop n) (d.drop n)
 |[],_,h,n=>by simp_all [K2.g]
 |x::xs,_,h,n=>by
  have h' :=h;obtain ⟨d,ds,rfl,h2,h3⟩:=h;cases n with
  |zero=>exact h'
  |succ n=>simpa using K2.drop h3 n
theorem y5.map {f:SV->SV}{f' :j3->j3}(hf:∀ x a,SV.g C vs x a->SV.g C vs (f x) (f' a)):∀ {x:List SV} {d:List j3},y5.g C vs x d->y5.g C vs (x.map f) (d.map f')
 |[],_,h=>by simp_all [y5.g]
 |x::xs,_,h=>by
  obtain ⟨d,ds,rfl,h2,h3⟩:=h;exact ⟨_,_,rfl,hf _ _ h2,y5.map hf h3⟩
end
def RU:IntKind->IntKind->Bool:=fun a b=>decide (a=b)
mutual
def EI:Data->Data->Bool
 | .bool a,.bool b=>a==b
 | .int k n,.int k' n' =>decide (k=k')&&decide (n=n')
 | .str s,.str t=>s==t
 | .slice n l,.slice m r=>s7 n m&&uK l r
 | .br,.br=>true
 | .O0,.O0=>true
 | .bM,.bM=>true
 | .nilIface,.nilIface=>true
 |_,_=>false
def uK:List Data->List Data->Bool
 |[],[]=>true
 |a::l,b::r=>EI a b&&uK l r
 |_,_=>false
end
mutual
theorem EJ:∀ (a b:Data),EI a b=true->a=b
 | .bool a,b,h=>by cases b<;>simp_all [EI]
 | .int k n,b,h=>by cases b<;>simp_all [EI]
 | .str s,b,h=>by cases b<;>simp_all [EI]
 | .slice n l,b,h=>by
  cases b<;>simp only [EI,c9,j5] at h;rename_i m r;rw [j7 h.1,EK l r h.2]
 | .br,b,h=>by grind [EI]
 | .O0,b,h=>by grind [EI]
 | .bM,b,h=>by grind [EI]
 | .nilIface,b,h=>by grind [EI]
theorem EK:∀ (a b:List Data),uK a b=true->a=b
 |[],b,h=>by grind [uK]
 |x::a,b,h=>by
  cases b<;>simp [uK,c9,j5] at h;rw [EJ _ _ h.1,EK _ _ h.2]
end
abbrev jh:=List (Nat×Nat)
def Bg (vs:List Nat)(B:jh):Prop:=vs.length=B.length/\∀ (i lo hi:Nat),B[i]? =some (lo,hi)->∃ m,vs[i]? =some m/\lo<=m/\m<=hi
def bdV (B:jh)(v:Option Nat)(lo hi:Nat):Nat×Nat:=match v with
 |none=>(lo,hi)
 |some i=>match B[i]? with
  |some (a,b)=>(max lo a,min hi b)
  |none=>(lo,hi)
def Zn {vs:List Nat}{B:jh}(hB:Bg vs B){v:Option Nat}{lo hi m:Nat}(h1:lo<=m)(h2:m<=hi)(h3:∀ i,v=some i->vs[i]? =some m):(bdV B v lo hi).1<=m/\m<=(bdV B v lo hi).2:=by
 unfold bdV;split
 .omega
 .split
  .rename_i a b hb
   obtain ⟨m',e1,e2,e3⟩:=hB.2 _ _ _ hb
   grind
  omega
def SD.int? (B:jh):SD->Option (IntKind×Int×Int×Rel)
 | .lit (.int k n)=>some (k,n,n,.no)
 | .int k lo hi r=>match r with
  | .eq i=>match B[i]? with
   |some (a,b)=>some (k,max lo a,min hi b,.eq i)
   |none=>some (k,lo,hi,.eq i)
  |_=>some (k,lo,hi,r)
 | .pr _ x=>x.int? B
 |_=>none
def SD.tK :SD->Option (Nat×Option (List UInt8))
 | .lit (.str s)=>some (s.length,some s)
 | .str m=>some (m,none)
 | .pr _ x=>x.tK
 |_=>none
inductive BK where
 |t (b:Bool)
 |u (c:SB)
def SD.bool? :SD->Option BK
 | .lit (.bool b)=>some (.t b)
 | .bool c=>some (.u c)
 | .pr _ x=>x.bool?
 |_=>none
def SD.kind? :SD->Option IntKind
 | .lit (.int k _)=>some k
 | .int k _ _ _=>some k
 | .anyI k=>some k
 | .pr _ x=>x.kind?
 |_=>none
def nQ:List Data->Option (IntKind×Int×Int)
 |[]=>none
 | .int k n::r=>match r with
  |[]=>some (k,n,n)
  |_=>match nQ r with
   |some (k',lo,hi)=>if RU k k' then some (k,min lo n,max hi n) else none
   |none=>none
 |_=>none
def HG:Data->Data->SD
 | .int k n,.int k' n' =>if RU k k' then .int k (min n n') (max n n') .no else .top
 | .str s,.str t=> .str (max s.length t.length)
 | .bool _,.bool _=> .bool .uv
 | .slice n cs,.slice m ds=>if s7 cs.length n&&s7 ds.length m then match nQ (cs++ds) with
   |some (k,lo,hi)=> .slice none (min n m) (max n m) [.int k lo hi .no]
   |none=> .top
  else .top
 |_,_=> .top
def Rel.join:Rel->Rel->Rel
 | .eq i,.eq j=>if s7 i j then .eq i else .no
 | .lt i,.lt j=>if s7 i j then .lt i else .no
 |_,_=> .no
def Rq:SD->Data->SD
 | .lit a,b=>if EI a b then .lit a else HG a b
 | .int k lo hi _,.int k' n=>if RU k k' then .int k (min lo n) (max hi n) .no else .top
 | .str m,.str t=> .str (max m t.length)
 | .bool _,.bool _=> .bool .uv
 |_,_=> .top
def vg:List SD->List Data->List SD
 |x::xs,d::ds=>Rq x d::vg xs ds
 |_,_=>[]
def rowsOf (sz:Nat):Nat->List Data->List (List Data)
 |0,_=>[]
 |n+1,cs=>cs.take sz::rowsOf sz n (cs.drop sz)
def IG (sz:Nat):List (List Data)->List SD
 |[]=>j4 sz .top
 |r::rs=>rs.foldl vg (r.map .lit)
def SD.rP (B:jh):SD->Option (Option Nat×Nat×Nat)
 | .lit (.slice n _)=>some (none,n,n)
 | .slice v lo hi _=>some (v,bdV B v lo hi)
 | .pr _ x=>x.rP B
 |_=>none
def SD.slice? (B:jh)(sz:Nat):SD->Option (Option Nat×Nat×Nat×List SD)
 | .lit (.slice n cells)=>if s7 cells.length (n * sz) then some (none,n,n,IG sz (rowsOf sz n cells)) else none
 | .slice v lo hi row=>if s7 row.length sz then some (v,(bdV B v lo hi).1,(bdV B v lo hi).2,row) else none
 | .pr _ x=>x.slice? B sz
 |_=>none
section
variable {C:Ctx} {vs:List Nat} {B:jh}
theorem SD.iT (hB:Bg vs B):∀ {x:SD} {d:Data} {k:IntKind} {lo hi:Int} {r:Rel},x.int? B=some (k,lo,hi,r)->x.g C vs d->∃ n,d= .int k n/\lo<=n/\n<=hi/\r.g vs n
 | .lit (.int k' n'),_,_,_,_,_,h,hg=>by
  obtain ⟨rfl,rfl,rfl,rfl⟩:=h;exact ⟨_,hg,Int.le_refl _,Int.le_refl _,trivial⟩
 | .int k' lo' hi' r',_,_,_,_,_,h,hg=>by
  obtain ⟨n,rfl,h1,h2,h3⟩:=hg;simp [SD.int?] at h;split at h
  .split at h
   .rename_i a b hb
    obtain ⟨rfl,rfl,rfl,rfl⟩:=h;obtain ⟨m,e1,e2⟩:=h3;obtain ⟨m',e3,e4,e5⟩:=hB.2 _ _ _ hb;rw [e1] at e3;cases e3;exact ⟨n,rfl,by omega,by omega,m,e1,e2⟩
   simp_all
  simp_all
 | .pr k' x,_,_,_,_,_,h,hg=>by
  simp [SD.int?] at h;exact SD.iT hB h hg.2
 | .lit (.bool _),_,_,_,_,_,h,_=>by simp [SD.int?] at h
 | .lit (.str _),_,_,_,_,_,h,_=>by simp [SD.int?] at h
 | .lit (.slice _ _),_,_,_,_,_,h,_=>by simp [SD.int?] at h
 | .lit .br,_,_,_,_,_,h,_=>by simp [SD.int?] at h
 | .lit .O0,_,_,_,_,_,h,_=>by simp [SD.int?] at h
 | .lit .bM,_,_,_,_,_,h,_=>by simp [SD.int?] at h
 | .lit .nilIface,_,_,_,_,_,h,_=>by simp [SD.int?] at h
 | .top,_,_,_,_,_,h,_=>by simp [SD.int?] at h
 | .bool _,_,_,_,_,_,h,_=>by simp [SD.int?] at h
 | .anyI _,_,_,_,_,_,h,_=>by simp [SD.int?] at h
 | .str _,_,_,_,_,_,h,_=>by simp [SD.int?] at h
 | .slice ..,_,_,_,_,_,h,_=>by simp [SD.int?] at h
theorem SD.vu:∀ {x:SD} {d:Data} {m:Nat} {e:Option (List UInt8)},x.tK =some (m,e)->x.g C vs d->∃ s,d= .str s/\s.length<=m/\∀ t,e=some t->s=t
 | .lit x,_,_,_,h,hg=>by
  cases x<;>simp [SD.tK,reduceCtorEq] at h
  grind [SD.g]
 | .str m',_,_,_,h,hg=>by
  grind [SD.tK,Option.some.injEq,Prod.mk.injEq,SD.g]
 | .pr _ x,_,_,_,h,hg=>by
  simp [SD.tK] at h;exact SD.vu h hg.2
 | .top,_,_,_,h,_=>by simp [SD.tK] at h
 | .bool _,_,_,_,h,_=>by simp [SD.tK] at h
 | .anyI _,_,_,_,h,_=>by simp [SD.tK] at h
 | .int ..,_,_,_,h,_=>by simp [SD.tK] at h
 | .slice ..,_,_,_,h,_=>by simp [SD.tK] at h
theorem SD.eu:∀ {x:SD} {d:Data} {c:BK},x.bool? =some c->x.g C vs d->∃ b,d= .bool b/\match c with| .t b' =>b=b' | .u c=>c.g vs b
 | .lit x,_,_,h,hg=>by
  cases x<;>simp [SD.bool?,reduceCtorEq] at h
  grind [SD.g]
 | .bool c,_,_,h,hg=>by
  grind [SD.bool?,Option.some.injEq,SD.g]
 | .pr _ x,_,_,h,hg=>by
  simp [SD.bool?] at h;exact SD.eu h hg.2
 | .top,_,_,h,_=>by simp [SD.bool?] at h
 | .str _,_,_,h,_=>by simp [SD.bool?] at h
 | .anyI _,_,_,h,_=>by simp [SD.bool?] at h
 | .int ..,_,_,h,_=>by simp [SD.bool?] at h
 | .slice ..,_,_,h,_=>by simp [SD.bool?] at h
theorem SD.xW:∀ {x:SD} {d:Data} {k:IntKind},x.kind? =some k->x.g C vs d->∃ n,d= .int k n
 | .lit x,_,_,h,hg=>by
  cases x<;>simp [SD.kind?,reduceCtorEq] at h;simp_all [SD.g]
 | .int ..,_,_,h,hg=>by
  grind [SD.kind?,Option.some.injEq,SD.g]
 | .anyI _,_,_,h,hg=>by
  simp_all [SD.kind?,Option.some.injEq,SD.g]
 | .pr _ x,_,_,h,hg=>by
  simp [SD.kind?] at h;exact SD.xW h hg.2
 | .top,_,_,h,_=>by simp [SD.kind?] at h
 | .str _,_,_,h,_=>by simp [SD.kind?] at h
 | .bool _,_,_,h,_=>by simp [SD.kind?] at h
 | .slice ..,_,_,h,_=>by simp [SD.kind?] at h
theorem SD.LF (hB:Bg vs B):∀ {x:SD} {d:Data} {v:Option Nat} {lo hi:Nat},x.rP B=some (v,lo,hi)->x.g C vs d->∃ n cells,d= .slice n cells/\lo<=n/\n<=hi/\∀ i,v=some i->vs[i]? =some n
 | .lit x,_,_,_,_,h,hg=>by
  cases x<;>simp [SD.rP,reduceCtorEq] at h
  grind [SD.g]
 | .slice v' lo' hi' row,_,_,_,_,h,hg=>by
  simp [SD.rP,Option.some.injEq,Prod.mk.injEq] at h;obtain ⟨rfl,h⟩:=h;obtain ⟨rows,rfl,h1,h2,h3,_⟩:=hg;have:=Zn hB h1 h2 h3;simp_all
 | .pr _ x,_,_,_,_,h,hg=>by
  simp [SD.rP] at h;exact SD.LF hB h hg.2
 | .top,_,_,_,_,h,_=>by simp [SD.rP] at h
 | .str _,_,_,_,_,h,_=>by simp [SD.rP] at h
 | .bool _,_,_,_,_,h,_=>by simp [SD.rP] at h
 | .anyI _,_,_,_,_,h,_=>by simp [SD.rP] at h
 | .int ..,_,_,_,_,h,_=>by simp [SD.rP] at h
theorem Ns:∀ {l:List Data} {k:IntKind} {lo hi:Int},nQ l=some (k,lo,hi)->∀ d,d ∈ l->∃ n,d= .int k n/\lo<=n/\n<=hi
 |[],_,_,_,h,_,_=>by simp_all
 | .int k n::r,_,_,_,h,d,hd=>by
  simp [nQ] at h;split at h
  .grind
  .split at h
   .rename_i k' lo' hi' e
    split at h
    .rename_i hk
     have hk:k=k' :=of_decide_eq_true hk
     rcases y7.1 hd with rfl|hd
     .grind
     .obtain ⟨m,rfl,h1,h2⟩:=Ns e d hd
      grind
    .cases h
   .cases h
 | .bool _::_,_,_,_,h,_,_=>by simp [nQ] at h
 | .str _::_,_,_,_,h,_,_=>by simp [nQ] at h
 | .slice _ _::_,_,_,_,h,_,_=>by simp [nQ] at h
 | .br::_,_,_,_,h,_,_=>by simp [nQ] at h
 | .O0::_,_,_,_,h,_,_=>by simp [nQ] at h
 | .bM::_,_,_,_,h,_,_=>by simp [nQ] at h
 | .nilIface::_,_,_,_,h,_,_=>by simp [nQ] at h
theorem SZ:∀ l:List Data,(l.map fun d=>[d]).flatten=l
 |[]=>rfl
 |d::l=>by simp [SZ l]
theorem Ff (a b:Data):(HG a b).g C vs a/\(HG a b).g C vs b:=by
 unfold HG;split
 .rename_i k n k' n'
  split
  .rename_i hk
   have hk:k=k' :=of_decide_eq_true hk;subst hk;exact ⟨⟨_,rfl,by omega,by omega,trivial⟩,⟨_,rfl,by omega,by omega,trivial⟩⟩
  .simp [SD.g]
 .grind [SD.g]
 .exact ⟨⟨_,rfl,trivial⟩,⟨_,rfl,trivial⟩⟩
 .rename_i n cs m ds
  split
  .rename_i hc
   simp only [c9] at hc;have c1:=j7 hc.1;have c2:=j7 hc.2;split
   .rename_i k lo hi e
    have key:∀ l:List Data,(∀ d,d ∈ l->d ∈ cs++ds)->∀ r,r ∈ l.map (fun d=>[d])->K7.g C vs [.int k lo hi .no] r:=by
     intro l hl r hr;obtain ⟨d,hd,rfl⟩:=L6.1 hr;obtain ⟨q,rfl,h1,h2⟩:=Ns e d (hl d hd);exact ⟨_,_,rfl,⟨q,rfl,h1,h2,trivial⟩,rfl⟩
    exact ⟨⟨cs.map fun d=>[d],by rw [SZ,A1,c1],by grind,by grind,(fun i h=>by cases h),key cs fun d h=>M1 _ h⟩,
     ⟨ds.map fun d=>[d],by rw [SZ,A1,c2],by grind,by grind,(fun i h=>by cases h),key ds fun d h=>List.mem_append_right _ h⟩⟩
   .simp [SD.g]
  .simp [SD.g]
 .simp [SD.g]
theorem UY {x:SD}{a:Data}(b:Data)(h:x.g C vs a):(Rq x b).g C vs a:=by
 unfold Rq;split
 .grind [SD.g,Ff]
 .split
  .obtain ⟨m,rfl,h1,h2,_⟩:=h
   exact ⟨_,rfl,by omega,by omega,trivial⟩
  .simp [SD.g]
 .grind [SD.g]
 .obtain ⟨m,rfl,h1⟩:=h
  exact ⟨_,rfl,trivial⟩
 .simp [SD.g]
def UZ (x:SD)(b:Data):(Rq x b).g C vs b:=by
 unfold Rq;split
 .split
  .grind [SD.g,EJ]
  .exact (Ff _ _).2
 .rename_i k lo hi r k' n
  split
  .rename_i hk
   have hk:k=k' :=of_decide_eq_true hk;subst hk;exact ⟨_,rfl,by omega,by omega,trivial⟩
  .simp [SD.g]
 .grind [SD.g]
 .exact ⟨_,rfl,trivial⟩
 .simp [SD.g]
theorem UQ:∀ {x:List SD} {a b:List Data},K7.g C vs x a->a.length=b.length->K7.g C vs (vg x b) a
 |[],_,_,h,hl=>by simp_all [K7.g,vg]
 |x::xs,_,b,h,hl=>by
  obtain ⟨d,ds,rfl,h1,h2⟩:=h;cases b with
  |nil=>simp at hl
  |cons b bs=>exact ⟨_,_,rfl,UY b h1,UQ h2 (by simp_all)⟩
theorem UR:∀ {x:List SD} {b:List Data},x.length=b.length->K7.g C vs (vg x b) b
 |[],[],_=>by rfl
 |[],_::_,h=>by simp at h
 |_::_,[],h=>by simp at h
 |x::xs,b::bs,h=>by exact ⟨_,_,rfl,UZ x b,UR (by simpa using h)⟩
theorem ID:∀ (x:List SD) (b:List Data),x.length=b.length->(vg x b).length=x.length
 |[],[],_=>rfl
 |[],_::_,h=>by simp at h
 |_::_,[],h=>by simp at h
 |x::xs,b::bs,h=>by simp [vg,q6];rw [ID xs bs (by simpa using h)]
theorem TV:∀ (r:List Data),K7.g C vs (r.map .lit) r
 |[]=>by simp [K7.g]
 |d::r=>by exact ⟨_,_,rfl,rfl,TV r⟩
theorem xT {sz:Nat}:∀ (rs:List (List Data)) (x:List SD),x.length=sz->(∀ r,r ∈ rs->r.length=sz)->(∀ a,a.length=sz->K7.g C vs x a->K7.g C vs (rs.foldl vg x) a)/\(∀ r,r ∈ rs->K7.g C vs (rs.foldl vg x) r)/\(rs.foldl vg x).length=sz
 |[],x,hx,_=>⟨fun a _ h=>h,by simp,hx⟩
 |r::rs,x,hx,hr=>by
  have hl:(vg x r).length=sz:=by simp_all [ID]
  obtain ⟨h1,h2,h3⟩:=xT rs (vg x r) hl (fun r' h=>hr r' (by simp [h]));simp_all [UQ,y7,UR]
theorem dR {sz:Nat}:∀ (n:Nat) (cs:List Data),cs.length=n * sz->(rowsOf sz n cs).flatten=cs/\(rowsOf sz n cs).length=n/\∀ r,r ∈ rowsOf sz n cs->r.length=sz
 |0,cs,h=>by simp_all [rowsOf]
 |n+1,cs,h=>by
  rw [Nat.succ_mul] at h;obtain ⟨h1,h2,h3⟩:=dR (sz:=sz) n (cs.drop sz) (by simp;omega);simp_all [rowsOf,y7]
def NR {sz:Nat}{rs:List (List Data)}(hr:∀ r,r ∈ rs->r.length=sz):(∀ r,r ∈ rs->K7.g C vs (IG sz rs) r)/\(IG sz rs).length=sz:=by
 cases rs with
 |nil=>simp_all [IG]
 |cons r rs =>
  obtain ⟨h1,h2,h3⟩:=xT (C:=C) (vs:=vs) rs (r.map .lit) (by simp_all) (fun r' h=>hr r' (by simp [h]));refine ⟨fun r' h=> ?_,h3⟩
  rcases y7.1 h with rfl|h
  .exact h1 _ (hr _ (by simp)) (TV _)
  .exact h2 _ h
theorem SD.eM (hB:Bg vs B){sz:Nat}:∀ {x:SD} {d:Data} {v:Option Nat} {lo hi:Nat} {row:List SD},x.slice? B sz=some (v,lo,hi,row)->x.g C vs d ->
  row.length=sz/\∃ rows:List (List Data),d= .slice rows.length rows.flatten/\lo<=rows.length/\rows.length<=hi/\(∀ i,v=some i->vs[i]? =some rows.length)/\∀ r,r ∈ rows->K7.g C vs row r
 | .lit x,_,_,_,_,_,h,hg=>by
  cases x<;>simp only [SD.slice?,reduceCtorEq] at h;rename_i n cells;split at h
  .rename_i hc
   have hc:=j7 hc;simp [Option.some.injEq] at h;subst hg;obtain ⟨h1,h2,h3⟩:=dR n cells hc;obtain ⟨h4,h5⟩:=NR (C:=C) (vs:=vs) h3
   grind
  .cases h
 | .slice v' lo' hi' row',_,_,_,_,_,h,hg=>by
  simp only [SD.slice?] at h;split at h
  .rename_i hc
   have hc:=j7 hc;obtain ⟨rows,rfl,h1,h2,h3,h4⟩:=hg;have:=Zn hB h1 h2 h3
   grind
  .cases h
 | .pr _ x,_,_,_,_,_,h,hg=>by
  simp [SD.slice?] at h;exact SD.eM hB h hg.2
 | .top,_,_,_,_,_,h,_=>by simp [SD.slice?] at h
 | .str _,_,_,_,_,_,h,_=>by simp [SD.slice?] at h
 | .bool _,_,_,_,_,_,h,_=>by simp [SD.slice?] at h
 | .anyI _,_,_,_,_,_,h,_=>by simp [SD.slice?] at h
 | .int ..,_,_,_,_,_,h,_=>by simp [SD.slice?] at h
end
def Rel.le:Rel->Rel->Bool
 |_,.no=>true
 | .eq i,.eq j=>s7 i j
 | .lt i,.lt j=>s7 i j
 |_,_=>false
theorem Rel.cA {vs:List Nat}{r s:Rel}{n:Int}(h:r.le s=true)(hr:r.g vs n):s.g vs n:=by
 cases r<;>cases s<;>simp [Rel.le] at h<;>first
  |trivial
  |simp_all
def iLe (a b:Int):Bool:=decide (a<=b)
mutual
def SD.le (B:jh)(x:SD):SD->Bool
 | .top=>true
 | .lit b=>match x with
  | .lit a=>EI a b
  |_=>false
 | .bool .uv=>match x.bool? with
  |some _=>true
  |none=>false
 | .bool _=>false
 | .int k lo hi r=>match x.int? B with
  |some (k',a,b,s)=>RU k' k&&iLe lo a&&iLe b hi&&s.le r
  |none=>false
 | .anyI k=>match x.kind? with
  |some k' =>RU k' k
  |none=>false
 | .str m=>match x.tK with
  |some (m',_)=>D9 m' m
  |none=>false
 | .slice none lo hi row=>match x.slice? B row.length with
  |some (_,a,b,row')=>D9 lo a&&D9 b hi&&(s7 b 0||K7.le B row' row)
  |none=>false
 | .slice (some i) lo hi row=>match x with
  | .slice (some j) lo' hi' row' =>s7 i j&&D9 lo lo' &&D9 hi' hi&&K7.le B row' row
  |_=>false
 | .pr k y=>match x with
  | .pr k' _=>s7 k k' &&SD.le B x y
  |_=>false
def K7.le (B:jh)(xs:List SD):List SD->Bool
 |[]=>xs.isEmpty
 |y::ys=>match xs with
  |x::xs=>SD.le B x y&&K7.le B xs ys
  |[]=>false
end
section
variable {C:Ctx} {vs:List Nat} {B:jh} (hB:Bg vs B)
include hB
mutual
theorem SD.cA:∀ (y:SD) {x:SD} {d:Data},SD.le B x y=true->x.g C vs d->y.g C vs d
 | .top,_,_,_,_=>by simp [SD.g]
 | .lit b,x,_,h,hx=>by
  simp [SD.le] at h
  grind [SD.g,EJ]
 | .bool c,x,_,h,hx=>by
  cases c with
  |cmp i n pol=>simp [SD.le] at h
  |uv =>
   simp [SD.le] at h;split at h
   .rename_i c hc
    obtain ⟨b,h1,_⟩:=SD.eu hc hx;exact ⟨b,h1,trivial⟩
   .cases h
 | .int k lo hi r,x,_,h,hx=>by
  simp [SD.le] at h;split at h
  .rename_i k' a b s hc
   simp [c9,iLe] at h;obtain ⟨n,h1,h2,h3,h4⟩:=SD.iT hB hc hx;have hk:k' =k:=of_decide_eq_true h.1.1.1
   grind [SD.g,Rel.cA]
  .cases h
 | .anyI k,x,_,h,hx=>by
  simp [SD.le] at h;split at h
  .rename_i k' hc
   have hk:k' =k:=of_decide_eq_true h
   grind [SD.g,SD.xW]
  .cases h
 | .str m,x,_,h,hx=>by
  simp [SD.le] at h;split at h
  .rename_i m' e hc
   obtain ⟨s,h1,h2,_⟩:=SD.vu hc hx;simp_all [SD.g]<;>omega
  .cases h
 | .slice none lo hi row,x,_,h,hx=>by
  simp [SD.le] at h;split at h
  .rename_i v a b row' hc
   simp only [c9,L5] at h;obtain ⟨e,rows,h1,h2,h3,h4,h5⟩:=SD.eM hB hc hx;have l1:=k9 h.1.1;have l2:=k9 h.1.2;refine ⟨rows,h1,by omega,by omega,(fun i e=>by cases e),fun r hr=> ?_⟩
   rcases h.2 with h0|h0
   .simp_all
   .exact K7.cA row h0 (h5 r hr)
  .cases h
 | .slice (some i) lo hi row,x,_,h,hx=>by
  simp [SD.le] at h;split at h
  .simp only [c9] at h
   have l0:=j7 h.1.1.1;have l1:=k9 h.1.1.2;have l2:=k9 h.1.2;subst l0;obtain ⟨rows,h1,h2,h3,h4,h5⟩:=hx;exact ⟨rows,h1,by omega,by omega,h4,fun r hr=>K7.cA row h.2 (h5 r hr)⟩
  .cases h
 | .pr k y,x,_,h,hx=>by
  simp [SD.le] at h;split at h
  .simp only [c9] at h
   have l0:=j7 h.1;have h6:=SD.cA y h.2 hx;simp_all [SD.g]
  .cases h
theorem K7.cA:∀ (y:List SD) {x:List SD} {d:List Data},K7.le B x y=true->K7.g C vs x d->K7.g C vs y d
 |[],x,_,h,hx=>by
  simp_all [K7.le]
 |y::ys,x,_,h,hx=>by
  simp [K7.le] at h;cases x with
  |nil=>cases h
  |cons x xs =>
   simp [c9] at h;obtain ⟨d,ds,rfl,h1,h2⟩:=hx;exact ⟨d,ds,rfl,SD.cA y h.1 h1,K7.cA ys h.2 h2⟩
end
end
def SV.I7:SV->SV
 | .own _ x=> .d x
 | .P5=> .d (.lit (.slice 0 []))
 | .q x=> .d x
 |v=>v
def SV.one:SV->Bool
 | .top=>false
 | .any=>false
 | .agg _ _=>false
 | .tuple _=>false
 |_=>true
def SV.cells? :SV->Option (List SV)
 | .agg _ l=>if l.all SV.one then some l else none
 |v=>if v.one then some [v] else none
def SV.tag:SV->Option Nat
 | .agg p _=>p
 |_=>none
def SV.data? :SV->Option SD
 | .d x=>some x
 | .own _ x=>some x
 | .P5=>some (.lit (.slice 0 []))
 | .q x=>some x
 |_=>none
def jB :List SV->Option (List SD)
 |[]=>some []
 |v::vs=>match v.data? with
  |some x=>match jB vs with
   |some xs=>some (x::xs)
   |none=>none
  |none=>none
def WW:j3->SV
 | .any=> .any
 | .d x=> .d (.lit x)
 | .own z len cells=> .own z (.lit (.slice len cells))
 | .P5=> .P5
 | .ptr a b=> .ptr a b
 | .B6 a b c e=> .B6 a b c e
 |_=> .top
def bS (T L:List SV):u9->SV
 | .loc j=>(L.getD j .any).I7
 | .slot s=>(T.getD s .any).I7
 | .const v=>WW v.MX
section
variable {C:Ctx} {vs:List Nat}
theorem SV.qt {x:SV}{v:j3}(h:x.g C vs v):x.I7.g C vs v.I7:=by
 cases x with
 |own sz x=>simp only [SV.g] at h;obtain ⟨len,cells,rfl,h1⟩:=h;simp only [SV.I7,j3.I7,SV.g];exact ⟨_,rfl,h1⟩
 |P5=>simp only [SV.g] at h;subst h;simp only [SV.I7,j3.I7,SV.g,SD.g];exact ⟨_,rfl,rfl⟩
 |top=>simp [SV.I7,SV.g]
 |any=>simp only [SV.g] at h;subst h;simp [SV.I7,j3.I7,SV.g]
 |d x=>have h' :=h;simp only [SV.g] at h;obtain ⟨y,rfl,h1⟩:=h;exact h'
 |ptr a b=>have h' :=h;simp only [SV.g] at h;subst h;exact h'
 |S9 a=>have h' :=h;simp only [SV.g] at h;obtain ⟨a,b,rfl,_⟩:=h;exact h'
 |B6 a b c e=>have h' :=h;simp only [SV.g] at h;subst h;exact h'
 |wp a b c e=>have h' :=h;simp only [SV.g] at h;obtain ⟨_,_,rfl⟩:=h;exact h'
 |agg p l=>have h' :=h;simp only [SV.g] at h;obtain ⟨cs,rfl,_⟩:=h;exact h'
 |tuple l=>have h' :=h;simp only [SV.g] at h;obtain ⟨cs,rfl,_⟩:=h;exact h'
 |bn k =>
  simp only [SV.g] at h;simp only [SV.I7,SV.g];cases v<;>simp_all [j3.I7,j3.L7,j3.one]
 |q x =>
  simp only [SV.g] at h;obtain ⟨y,h1,h2⟩:=h;simp only [SV.I7,h1,SV.g];exact ⟨_,rfl,h2⟩
def SV.Ah {x:SV}{v:j3}(h:x.g C vs v)(h1:x.one=true):v.one=true:=by
 cases x<;>simp only [SV.one,j5] at h1<;>simp only [SV.g] at h
 .obtain ⟨y,rfl,_⟩:=h;rfl
 .obtain ⟨a,b,rfl,_⟩:=h;rfl
 .subst h;rfl
 .subst h;rfl
 .obtain ⟨a,b,rfl,_⟩:=h;rfl
 .subst h;rfl
 .exact h.2
 .obtain ⟨y,h1,_⟩:=h;cases v<;>simp only [j3.I7,reduceCtorEq] at h1<;>rfl
 .obtain ⟨_,_,rfl⟩:=h;rfl
theorem y5.Ah:∀ {x:List SV} {v:List j3},y5.g C vs x v->x.all SV.one=true->v.all j3.one=true
 |[],_,h,_=>by simp_all [y5.g]
 |x::xs,_,h,h1=>by
  obtain ⟨d,ds,rfl,h2,h3⟩:=h;simp only [List.all_cons,c9] at h1 ⊢;exact ⟨SV.Ah h2 h1.1,y5.Ah h3 h1.2⟩
def SV.xQ {x:SV}{v:j3}{l:List SV}(h:x.g C vs v)(h1:x.cells? =some l):∃ cs,v.cells? =some cs/\y5.g C vs l cs/\∀ k,x.tag=some k->C.Θ k (cs.map j3.I7):=by
 cases x with
 |agg p l' =>
  simp only [SV.cells?] at h1;split at h1
  .rename_i h2
   cases h1;obtain ⟨cs,rfl,h3,h4⟩:=h;exact ⟨cs,by simp [j3.cells?,y5.Ah h3 h2],h3,h4⟩
  .cases h1
 |_ =>
  simp only [SV.cells?] at h1;split at h1
  .rename_i h2
   cases h1;have h3:=SV.Ah h h2;refine ⟨[v],?_,by simp_all [y5.g],fun k h=>by cases h⟩;simp_all [j3.one,j3.cells?]<;>grind
  .cases h1
def SV.Lb {x:SV}{v:j3}{y:SD}(h:x.g C vs v)(h1:x.data? =some y):∃ d,v.data? =some d/\y.g C vs d:=by
 cases x<;>simp [SV.data?,reduceCtorEq,Option.some.injEq] at h1<;>subst h1<;>simp [SV.g] at h
 .obtain ⟨d,rfl,h2⟩:=h;exact ⟨d,rfl,h2⟩
 .obtain ⟨a,b,rfl,h2⟩:=h;exact ⟨_,rfl,h2⟩
 .subst h;exact ⟨_,rfl,by simp [SD.g]⟩
 .obtain ⟨d,h1,h2⟩:=h
  cases v<;>simp [j3.I7,reduceCtorEq,j3.d.injEq] at h1<;>subst h1<;>exact ⟨_,rfl,h2⟩
theorem oq:∀ {x:List SV} {v:List j3} {y:List SD},y5.g C vs x v->jB x=some y->∃ d,M5 v=some d/\K7.g C vs y d
 |[],_,_,h,h1=>by subst h;simp [jB,Option.some.injEq] at h1;subst h1;exact ⟨[],rfl,by simp [K7.g]⟩
 |x::xs,_,_,h,h1=>by
  obtain ⟨d,ds,rfl,h2,h3⟩:=h;simp [jB] at h1;split at h1
  .rename_i a ha
   split at h1
   .rename_i as has
    simp [Option.some.injEq] at h1;obtain ⟨e,e1,e2⟩:=SV.Lb h2 ha;obtain ⟨es,e3,e4⟩:=oq h3 has
    grind [M5,K7.g]
   .cases h1
  .cases h1
def Uj (v:j3):(WW v).g C vs v:=by
 cases v<;>simp [WW,SV.g,SD.g]
def Tm {x:List SV}{v:List j3}(h:y5.g C vs x v)(j:Nat):(x.getD j .any).g C vs (v.getD j .any):=by
 grind [y5.none,SV.g,y5.get]
def FM {T L:List SV}{T' L' :List j3}(hT:y5.g C vs T T')(hL:y5.g C vs L L')(x:u9):(bS T L x).g C vs (G9 T' L' x):=by
 cases x with
 |loc j=>exact SV.qt (Tm hL j)
 |slot j=>exact SV.qt (Tm hT j)
 |const v=>exact Uj _
end
def YQ (H:List SO)(id off n:Nat):Option (List SV):=match H[id]? with
 |some (.cells _ l)=>if D9 (off+n) l.length then some ((l.drop off).take n) else none
 |_=>none
def yl (l:List SV)(off:Nat)(vs:List SV):List SV:=l.take off++vs++l.drop (off+vs.length)
def swr (H:List SO)(id off:Nat)(p:Option Nat)(vs:List SV):Option (List SO):=match H[id]? with
 |some (.cells _ l)=>if D9 (off+vs.length) l.length then some (H.set id (.cells (if s7 off 0&&s7 vs.length l.length then p else none) (yl l off vs))) else none
 |_=>none
section
variable {C:Ctx} {vs:List Nat}
theorem Dy {H:List SO}{H' :q8}{id off n:Nat}{l:List SV}(h:K2.g C vs H H')(h1:YQ H id off n=some l):∃ cs,rd H' id off n=some cs/\y5.g C vs l cs:=by
 unfold YQ at h1;split at h1
 .rename_i p l' hl
  split at h1
  .cases h1
   obtain ⟨o,h2,h3⟩:=K2.get h hl;obtain ⟨cs,rfl,h4,_⟩:=h3;refine ⟨(cs.drop off).take n,?_,y5.take (y5.drop h4 off) n⟩;have:=y5.len h4;simp_all [rd,if_pos]
  .cases h1
 .cases h1
def DB {l vl:List SV}{l' vl' :List j3}(off:Nat)(h:y5.g C vs l l')(h1:y5.g C vs vl vl'):y5.g C vs (yl l off vl) (splice l' off vl'):=by
 grind [yl,splice,y5.len,y5.app,y5.take,y5.drop]
def aH9 {H H2:List SO}{H' :q8}{id off:Nat}{p:Option Nat}{vl:List SV}{cs:List j3}(h:K2.g C vs H H')(hv:y5.g C vs vl cs)(hp:∀ k,p=some k->C.Θ k (cs.map j3.I7))(h1:swr H id off p vl=some H2) :
  ∃ H3,wr H' id off cs=some H3/\K2.g C vs H2 H3:=by
 unfold swr at h1;split at h1
 .rename_i p' l hl
  split at h1
  .cases h1
   obtain ⟨o,h2,h3⟩:=K2.get h hl;obtain ⟨cs',rfl,h4,_⟩:=h3;have e1:=y5.len h4;have e2:=y5.len hv;refine ⟨H'.set id (.cells (splice cs' off cs)),?_,K2.set h id ⟨_,rfl,DB off h4 hv,?_⟩⟩
   .simp_all [wr,if_pos]
   simp_all [c9,j7,splice,n5]
  .cases h1
 .cases h1
end
def Ay (cells:List SV):List (Nat×Nat×SV)->Option (List SV)
 |[]=>some cells
 |(off,sz,v)::rest=>match v.cells? with
  |some l=>if s7 l.length sz&&D9 (off+sz) cells.length then Ay (yl cells off l) rest else none
  |none=>none
inductive Sb (C:Ctx) (vs:List Nat):List (Nat×Nat×SV)->List (Nat×Nat×j3)->Prop where
 |nil:Sb C vs [] []
 |cons {o s:Nat} {x:SV} {a:j3} {r r'}:x.g C vs a->Sb C vs r r' ->Sb C vs ((o,s,x)::r) ((o,s,a)::r')
theorem yg {C:Ctx}{vs:List Nat}:∀ {ps:List (Nat×Nat×SV)} {qs:List (Nat×Nat×j3)} {cells l:List SV} {cs:List j3},Sb C vs ps qs->y5.g C vs cells cs->Ay cells ps=some l->∃ ds,bA cs qs=some ds/\y5.g C vs l ds
 |[],_,_,_,cs,hp,hc,h=>by
  cases hp;simp [Ay,Option.some.injEq] at h;subst h;exact ⟨cs,rfl,hc⟩
 |(o,s,x)::r,_,_,_,cs,hp,hc,h=>by
  cases hp with
  |cons hx hr =>
   simp [Ay] at h;split at h
   .rename_i l' hl
    split at h
    .obtain ⟨ds,h1,h2,_⟩:=SV.xQ hx hl
     have e1:=y5.len h2;have e2:=y5.len hc;obtain ⟨es,h3,h4⟩:=yg hr (DB o hc h2) h;simp_all [bA,if_pos]
    .cases h
   .cases h
theorem tr {C:Ctx}{vs:List Nat}{σ:u9->SV}{ρ:u9->j3}(hρ:∀ x,(σ x).g C vs (ρ x)):∀ (parts:List (Nat×Nat×u9)),Sb C vs (parts.map fun (o,s,x)=>(o,s,σ x)) (parts.map fun (o,s,x)=>(o,s,ρ x))
 |[]=> .nil
 |(_,_,x)::r=> .cons (hρ x) (tr hρ r)
theorem Af {C:Ctx}{vs:List Nat}:∀ l:List j3,y5.g C vs (l.map WW) l
 |[]=>by simp [y5.g]
 |a::l=>by exact ⟨_,_,rfl,Uj a,Af l⟩
def mn:Int:= -9223372036854775808
def mx:Int:=9223372036854775807
def isI (k:IntKind):Bool:=RU k .i64
def SB.not:SB->SB
 | .uv=> .uv
 | .cmp i n p=> .cmp i n (!p)
def sLt:Int×Int×Rel->Int×Int×Rel->SD
 |(l1,h1,r1),(l2,h2,r2) =>
  if decide (h1<l2) then .lit (.bool true) else if decide (h2<=l1) then .lit (.bool false) else
  match r2,r1 with
  | .eq i,_=>if decide (l1=h1)&&decide (0<=l1) then .bool (.cmp i l1.toNat true) else .bool .uv
  |_,.eq i=>if decide (l2=h2)&&decide (1<=l2) then .bool (.cmp i (l2 - 1).toNat false) else .bool .uv
  |_,_=> .bool .uv
def SD.neg:SD->SD
 | .lit (.bool b)=> .lit (.bool (!b))
 | .bool c=> .bool c.not
 |_=> .top
def sEq:Int×Int×Rel->Int×Int×Rel->SD
 |(l1,h1,r1),(l2,h2,r2) =>
  if decide (h1<l2)||decide (h2<l1) then .lit (.bool false) else if decide (l1=h1)&&decide (l2=h2)&&decide (l1=l2) then .lit (.bool true) else
  match r1,r2 with
  | .eq i,_=>if decide (l2=h2)&&decide (l2=0) then .bool (.cmp i 0 false) else .bool .uv
  |_,.eq i=>if decide (l1=h1)&&decide (l1=0) then .bool (.cmp i 0 false) else .bool .uv
  |_,_=> .bool .uv
def rng (k:IntKind)(lo hi:Int)(r:Rel):Option SD:=if isI k&&decide (mn<=lo)&&decide (hi<=mx) then some (if decide (lo=hi) then .lit (.int k lo) else .int k lo hi r) else none
def NT (op:BinOp)(k:IntKind)(a b:Int×Int×Rel):Option SD :=
 match op with
 | .add=>rng k (a.1+b.1) (a.2.1+b.2.1) .no
 | .sub=>rng k (a.1 - b.2.1) (a.2.1 - b.1) .no
 | .mul=>if decide (0<=a.1)&&decide (0<=b.1) then rng k 0 (a.2.1 * b.2.1) .no else none
 | .quo=>if decide (0<=a.1)&&decide (b.1=b.2.1)&&decide (1<=b.1) then rng k (a.1.tdiv b.1) (a.2.1.tdiv b.1) .no else none
 | .rem=>if decide (1<=b.1) then (if decide (0<=a.1) then rng k 0 (min a.2.1 (b.2.1 - 1)) (match b.2.2 with| .eq i=> .lt i|_=> .no) else rng k (1 - b.2.1) (b.2.1 - 1) .no) else none
 | .eql=>some (sEq a b)
 | .neq=>some (sEq a b).neg
 | .lss=>some (sLt a b)
 | .gtr=>some (sLt b a)
 | .leq=>some (sLt b a).neg
 | .geq=>some (sLt a b).neg
 |_=>none
def US (op:BinOp)(a b:Nat×Option (List UInt8)):Option SD :=
 match op with
 | .add=>if D9 (a.1+b.1) 4000000000 then (match a.2,b.2 with
  |some s,some t=>some (.lit (.str (s++t)))
  |_,_=>some (.str (a.1+b.1))) else none
 | .eql=>match a.2,b.2 with
  |some s,some t=>some (.lit (.bool (s==t)))
  |_,_=>some (.bool .uv)
 | .neq=>match a.2,b.2 with
  |some s,some t=>some (.lit (.bool (!(s==t))))
  |_,_=>some (.bool .uv)
 |_=>none
def an8 (B:jh)(op:BinOp)(x y:SD):Option SD :=
 match x.int? B,y.int? B with
 |some (k,a),some (k',b)=>if RU k k' then NT op k a b else none
 |_,_=>match x.tK,y.tK with
  |some a,some b=>US op a b
  |_,_=>none
section
variable {C:Ctx} {vs:List Nat} {B:jh}
def Dn {k:IntKind}{lo hi:Int}{r:Rel}{x:SD}{n:Int}(h:rng k lo hi r=some x)(h1:lo<=n)(h2:n<=hi)(h3:r.g vs n):x.g C vs (.int k (k.wrap n))/\k.wrap n=n:=by
 unfold rng at h;split at h
 .rename_i hc
  simp [c9,decide_eq_true_eq] at hc;have e1:mn= -9223372036854775808:=rfl;have e2:mx=9223372036854775807:=rfl;have hk:k= .i64:=of_decide_eq_true hc.1.1;have e:IntKind.wrap .i64 n=n:=wrap_small (by omega) (by omega)
  grind [SD.g]
 .cases h
theorem ND {x:SD}{b:Bool}(h:x.g C vs (.bool b)):x.neg.g C vs (.bool (!b)):=by
 unfold SD.neg;split
 .simp_all [SD.g,Data.bool.injEq]
 .rename_i c
  obtain ⟨b',h1,h2⟩:=h;refine ⟨_,rfl,?_⟩;cases c with
  |uv=>trivial
  |cmp i n p =>
   obtain ⟨m,e1,e2⟩:=h2;refine ⟨m,e1,?_⟩
   grind
 .simp [SD.g]
theorem NU {a b:Int×Int×Rel}{n m:Int}(h1:a.1<=n)(h2:n<=a.2.1)(h3:a.2.2.g vs n)(k1:b.1<=m)(k2:m<=b.2.1)(k3:b.2.2.g vs m):(sLt a b).g C vs (.bool (decide (n<m))):=by
 obtain ⟨l1,u1,r1⟩:=a;obtain ⟨l2,u2,r2⟩:=b;simp [sLt];split
 .grind [SD.g]
 .split
  .grind [SD.g]
  .split
   .split
    .obtain ⟨q,e1,e2⟩:=k3
     refine ⟨_,rfl,q,e1,?_⟩
     grind
    .exact ⟨_,rfl,trivial⟩
   .split
    .obtain ⟨q,e1,e2⟩:=h3
     refine ⟨_,rfl,q,e1,?_⟩
     grind
    .exact ⟨_,rfl,trivial⟩
   .exact ⟨_,rfl,trivial⟩
theorem ab3 {a b:Int×Int×Rel}{n m:Int}(h1:a.1<=n)(h2:n<=a.2.1)(h3:a.2.2.g vs n)(k1:b.1<=m)(k2:m<=b.2.1)(k3:b.2.2.g vs m):(sEq a b).g C vs (.bool (n==m)):=by
 obtain ⟨l1,u1,r1⟩:=a;obtain ⟨l2,u2,r2⟩:=b;simp [sEq];split
 .simp_all [SD.g]<;>omega
 .split
  .grind [SD.g]
  .split
   .split
    .obtain ⟨q,e1,e2⟩:=h3
     refine ⟨_,rfl,q,e1,?_⟩
     grind
    .exact ⟨_,rfl,trivial⟩
   .split
    .obtain ⟨q,e1,e2⟩:=k3
     refine ⟨_,rfl,q,e1,?_⟩
     grind
    .exact ⟨_,rfl,trivial⟩
   .exact ⟨_,rfl,trivial⟩
def DG {a b c:Int}(h0:0<=a)(h:a<=b)(hc:1<=c):a.tdiv c<=b.tdiv c:=by
 rw [Int.tdiv_eq_ediv_of_nonneg h0,Int.tdiv_eq_ediv_of_nonneg (by omega)];exact Int.ediv_le_ediv (by omega) h
def YB {op:BinOp}{k:IntKind}{a b:Int×Int×Rel}{n m:Int}{x:SD}(h1:a.1<=n)(h2:n<=a.2.1)(h3:a.2.2.g vs n)(k1:b.1<=m)(k2:m<=b.2.1)(k3:b.2.2.g vs m)(h:NT op k a b=some x) :
  ∃ d,aC op k n m=some d/\x.g C vs d:=by
 cases op<;>simp only [NT,reduceCtorEq,Option.some.injEq] at h<;>simp only [aC]
 case add=>exact ⟨_,rfl,(Dn h (by omega) (by omega) trivial).1⟩
 case sub=>exact ⟨_,rfl,(Dn h (by omega) (by omega) trivial).1⟩
 case mul =>
  split at h
  .rename_i hc
   simp [c9,decide_eq_true_eq] at hc;exact ⟨_,rfl,(Dn h (Int.mul_nonneg (by omega) (by omega)) (Int.mul_le_mul (by omega) (by omega) (by omega) (by omega)) trivial).1⟩
  .cases h
 case quo =>
  split at h
  .rename_i hc
   simp [c9,decide_eq_true_eq] at hc;have hm:m=b.1:=by omega
   subst hm;rw [if_neg (by omega)];exact ⟨_,rfl,(Dn h (DG (by omega) (by omega) (by omega)) (DG (by omega) (by omega) (by omega)) trivial).1⟩
  .cases h
 case rem =>
  split at h
  .rename_i hc
   simp [decide_eq_true_eq] at hc;have hm:0<m:=by omega
   have hlt:=Int.tmod_lt_of_pos n hm;split at h
   .rename_i mJ
    simp [decide_eq_true_eq] at mJ;have h0:=Int.tmod_nonneg (a:=n) m (by omega);have hle:n.tmod m<=n:=by
     by_cases hl:n<m
     .rw [Int.tmod_eq_of_lt (by omega) hl]
      omega
     .omega
    have:=(Dn (C:=C) (vs:=vs) (n:=n.tmod m) h h0 (by omega) (by
     split
     .rename_i i hi
      rw [hi] at k3;obtain ⟨q,e1,e2⟩:=k3;exact ⟨q,e1,h0,by omega⟩
     .trivial))
    grind
   .have hge: -m<n.tmod m:=by
     by_cases hn:n<0
     .have e:n.tmod m= -((-n).tmod m):=by simp_all
      have:=Int.tmod_lt_of_pos (-n) hm;omega
     .have:=Int.tmod_nonneg (a:=n) m (by omega)
      omega
    have:=(Dn (C:=C) (vs:=vs) (n:=n.tmod m) h (by omega) (by omega) trivial)
    grind
  .cases h
 case eql=>grind [ab3]
 case neq=>grind [ND,ab3]
 case lss=>grind [NU]
 case gtr=>subst h;simp_all [NU]
 case leq =>
  have:=ND (NU (C:=C) k1 k2 k3 h1 h2 h3)
  grind [decide_not,decide]
 case geq =>
  have:=ND (NU (C:=C) h1 h2 h3 k1 k2 k3)
  grind [decide_not,decide]
def YC {op:BinOp}{a b:Nat×Option (List UInt8)}{s t:List UInt8}{x:SD}(h1:s.length<=a.1)(h2:∀ u,a.2=some u->s=u)(k1:t.length<=b.1)(k2:∀ u,b.2=some u->t=u)(h:US op a b=some x) :
  ∃ d,uy op s t=some d/\x.g C vs d:=by
 cases op<;>simp only [US,reduceCtorEq] at h<;>simp only [uy]
 case add =>
  split at h
  .rename_i hc
   have hc:=k9 hc;rw [if_pos (by omega)]
   grind [SD.g]
  .cases h
 case eql =>
  refine ⟨_,rfl,?_⟩;split at h
  .grind [SD.g]
  .cases h
   exact ⟨_,rfl,trivial⟩
 case neq =>
  refine ⟨_,rfl,?_⟩;split at h
  .grind [SD.g]
  .cases h
   exact ⟨_,rfl,trivial⟩
def an9 (hB:Bg vs B){op:BinOp}{x y z:SD}{a b:Data}(hx:x.g C vs a)(hy:y.g C vs b)(h:an8 B op x y=some z):∃ d,J7 op a b=some d/\z.g C vs d:=by
 unfold an8 at h;split at h
 .rename_i k p k' q hp hq
  split at h
  .rename_i hk
   have hk:k=k' :=of_decide_eq_true hk;obtain ⟨n,rfl,h1,h2,h3⟩:=SD.iT hB hp hx;obtain ⟨m,rfl,k1,k2,k3⟩:=SD.iT hB hq hy;obtain ⟨d,e1,e2⟩:=YB (C:=C) (vs:=vs) h1 h2 h3 k1 k2 k3 h;simp_all [U4,NT,J7]<;>grind
  .cases h
 .split at h
  .rename_i p q hp hq
   obtain ⟨p1,p2⟩:=p;obtain ⟨q1,q2⟩:=q;obtain ⟨s,rfl,h1,h2⟩:=SD.vu hp hx;obtain ⟨t,rfl,k1,k2⟩:=SD.vu hq hy;obtain ⟨d,e1,e2⟩:=YC (C:=C) (vs:=vs) (a:=(p1,p2)) (b:=(q1,q2)) h1 h2 k1 k2 h;simp_all [J7]
  .cases h
end
def SB.join:SB->SB->SB
 | .cmp i n p,.cmp j m q=>if s7 i j&&s7 n m&&(p==q) then .cmp i n p else .uv
 |_,_=> .uv
def Jm:Option Nat->Option Nat->Option Nat
 |some i,some j=>if s7 i j then some i else none
 |_,_=>none
def SD.strip:SD->SD
 | .pr _ x=>x.strip
 |x=>x
def Nx (a b:Data):SD:=match a,b with
 | .slice n cs,.slice m ds =>
  if s7 cs.length (n * (if s7 n 0 then ds.length / m else cs.length / n))&&s7 ds.length (m * (if s7 n 0 then ds.length / m else cs.length / n)) then
   .slice none (min n m) (max n m) (IG (if s7 n 0 then ds.length / m else cs.length / n) (rowsOf (if s7 n 0 then ds.length / m else cs.length / n) n cs++rowsOf (if s7 n 0 then ds.length / m else cs.length / n) m ds))
  else .top
 |a,b=>HG a b
def Ch (x:SD)(b:Data):SD:=match x,b with
 | .slice _ lo hi row,.slice n cells=>if s7 cells.length (n * row.length) then .slice none (min lo n) (max hi n) ((rowsOf row.length n cells).foldl vg row) else .top
 | .anyI k,.int k' _=>if RU k k' then .anyI k else .top
 |x,b=>Rq x b
mutual
def SD.join:SD->SD->SD
 | .lit a,y=>match y with
  | .lit b=>if EI a b then .lit a else Nx a b
  |y=>Ch y.strip a
 | .pr k x,y=>match y with
  | .pr k' y' =>if s7 k k' then .pr k (x.join y') else x.join y'
  |y=>x.join y
 | .int k lo hi r,y=>match y.strip with
  | .lit b=>Ch (.int k lo hi r) b
  | .int k' lo' hi' r' =>if RU k k' then .int k (min lo lo') (max hi hi') (r.join r') else .top
  | .anyI k' =>if RU k k' then .anyI k else .top
  |_=> .top
 | .anyI k,y=>match y.strip with
  | .lit b=>Ch (.anyI k) b
  | .int k' _ _ _=>if RU k k' then .anyI k else .top
  | .anyI k' =>if RU k k' then .anyI k else .top
  |_=> .top
 | .str m,y=>match y.strip with
  | .lit b=>Ch (.str m) b
  | .str m' => .str (max m m')
  |_=> .top
 | .bool c,y=>match y.strip with
  | .lit b=>Ch (.bool c) b
  | .bool c' => .bool (c.join c')
  |_=> .top
 | .slice v lo hi row,y=>match y.strip with
  | .lit b=>Ch (.slice v lo hi row) b
  | .slice v' lo' hi' row' =>if s7 row.length row'.length then .slice (Jm v v') (min lo lo') (max hi hi') (K7.join row row') else .top
  |_=> .top
 | .top,_=> .top
def K7.join:List SD->List SD->List SD
 |x::xs,y::ys=>x.join y::K7.join xs ys
 |_,_=>[]
end
section
variable {C:Ctx} {vs:List Nat}
theorem SD.mz:∀ {x:SD} {d:Data},x.g C vs d->x.strip.g C vs d
 | .pr _ x,_,h=>by simp_all [SD.g,SD.strip,SD.mz]
 | .top,_,h=>h
 | .lit _,_,h=>h
 | .bool _,_,h=>h
 | .int ..,_,h=>h
 | .anyI _,_,h=>h
 | .str _,_,h=>h
 | .slice ..,_,h=>h
theorem Ny (a b:Data):(Nx a b).g C vs a/\(Nx a b).g C vs b:=by
 unfold Nx;split
 .rename_i n cs m ds
  generalize (if s7 n 0 then ds.length / m else cs.length / n)=sz;split
  .rename_i hc
   simp only [c9] at hc;have c1:=j7 hc.1;have c2:=j7 hc.2;obtain ⟨e1,e2,e3⟩:=dR n cs c1;obtain ⟨f1,f2,f3⟩:=dR m ds c2;obtain ⟨g1,_⟩:=NR (C:=C) (vs:=vs) (sz:=sz) (rs:=rowsOf sz n cs++rowsOf sz m ds) (fun r hr=>(List.mem_append.1 hr).elim (e3 r) (f3 r))
   grind [SD.g,M1,List.mem_append_right]
  .simp [SD.g]
 .exact Ff a b
theorem vh {x:SD}{a:Data}(b:Data)(h:x.g C vs a):(Ch x b).g C vs a:=by
 unfold Ch;split
 .rename_i v lo hi row n cells
  split
  .rename_i hc
   have hc:=j7 hc;simp [SD.g] at h ⊢;obtain ⟨e1,e2,e3⟩:=dR n cells hc;obtain ⟨f1,_,_⟩:=xT (C:=C) (vs:=vs) (rowsOf row.length n cells) row rfl e3
   grind [K7.len]
  .simp [SD.g]
 all_goals grind [SD.g,UY]
theorem vi (x:SD)(b:Data):(Ch x b).g C vs b:=by
 unfold Ch;split
 .rename_i v lo hi row n cells
  split
  .rename_i hc
   have hc:=j7 hc;simp [SD.g];obtain ⟨e1,e2,e3⟩:=dR n cells hc;obtain ⟨_,f2,_⟩:=xT (C:=C) (vs:=vs) (rowsOf row.length n cells) row rfl e3
   grind
  .simp [SD.g]
 .split
  .rename_i k k' n hk
   have hk:k=k' :=of_decide_eq_true hk;simp_all [SD.g]
  .simp [SD.g]
 .exact UZ _ b
theorem SB.T0 {a b:SB}{t:Bool}(h:a.g vs t):(a.join b).g vs t:=by
 unfold SB.join;split
 .split
  .exact h
  .trivial
 .trivial
theorem SB.T1 {a b:SB}{t:Bool}(h:b.g vs t):(a.join b).g vs t:=by
 unfold SB.join;split
 .split
  .simp_all
  .trivial
 .trivial
theorem Rel.T0 {a b:Rel}{t:Int}(h:a.g vs t):(a.join b).g vs t:=by
 unfold Rel.join;split
 .split
  .exact h
  .trivial
 .split
  .exact h
  .trivial
 .trivial
theorem Rel.T1 {a b:Rel}{t:Int}(h:b.g vs t):(a.join b).g vs t:=by
 unfold Rel.join;split
 .split
  .simp_all
  .trivial
 .split
  .simp_all
  .trivial
 .trivial
def YY {v w:Option Nat}{m:Nat}(h:∀ i,v=some i->vs[i]? =some m):∀ i,Jm v w=some i->vs[i]? =some m:=by
 simp_all [Jm]<;>grind
def YZ {v w:Option Nat}{m:Nat}(h:∀ i,w=some i->vs[i]? =some m):∀ i,Jm v w=some i->vs[i]? =some m:=by
 simp_all [Jm]<;>grind
mutual
theorem SD.T0:∀ (x y:SD) {d:Data},x.g C vs d->(x.join y).g C vs d
 | .lit a,y,_,h=>by
  simp [SD.join]
  grind [SD.g,Ny,vi]
 | .pr k x,y,_,h=>by
  simp [SD.join];split
  .split
   .exact ⟨h.1,SD.T0 x _ h.2⟩
   .exact SD.T0 x _ h.2
  .exact SD.T0 x _ h.2
 | .int k lo hi r,y,_,h=>by
  grind [SD.join,vh,SD.g,Rel.T0]
 | .anyI k,y,_,h=>by
  grind [SD.join,vh,SD.g]
 | .str m,y,_,h=>by
  grind [SD.join,vh,SD.g]
 | .bool c,y,_,h=>by
  grind [SD.join,vh,SD.g,SB.T0]
 | .slice v lo hi row,y,_,h=>by
  simp only [SD.join];split
  .exact vh _ h
  .split
   .rename_i hc
    have hc:=j7 hc;obtain ⟨rows,rfl,h1,h2,h3,h4⟩:=h;exact ⟨rows,rfl,by omega,by omega,YY h3,fun r hr=>K7.T0 row _ hc (h4 r hr)⟩
   .simp [SD.g]
  .simp [SD.g]
 | .top,y,_,h=>by simp [SD.join,SD.g]
theorem K7.T0:∀ (x y:List SD) {d:List Data},x.length=y.length->K7.g C vs x d->K7.g C vs (K7.join x y) d
 |[],[],_,_,h=>by grind [K7.join]
 |[],_::_,_,hl,h=>by simp at hl
 |_::_,[],_,hl,h=>by simp at hl
 |x::xs,y::ys,_,hl,h=>by
  obtain ⟨d,ds,rfl,h1,h2⟩:=h;exact ⟨_,_,rfl,SD.T0 x y h1,K7.T0 xs ys (by simp_all) h2⟩
end
mutual
theorem SD.T1:∀ (x y:SD) {d:Data},y.g C vs d->(x.join y).g C vs d
 | .lit a,y,_,h=>by
  simp [SD.join];split
  .split
   .grind [EJ]
   simp_all [SD.g,Ny]
  .exact vh _ (SD.mz h)
 | .pr k x,y,_,h=>by
  simp only [SD.join];split
  .split
   .rename_i hc
    rw [j7 hc];exact ⟨h.1,SD.T1 x _ h.2⟩
   .exact SD.T1 x _ h.2
  .exact SD.T1 x _ h
 | .int k lo hi r,y,_,h=>by
  have h:=SD.mz h;simp [SD.join];split
  .simp_all [SD.g,vi]
  .split
   .rename_i hk
    have hk:=of_decide_eq_true hk
    grind [SD.g,Rel.T1]
   .simp [SD.g]
  .split
   .rename_i hk
    have hk:=of_decide_eq_true hk;simp_all
   .simp [SD.g]
  .simp [SD.g]
 | .anyI k,y,_,h=>by
  have h:=SD.mz h;simp [SD.join];split
  .simp_all [SD.g,vi]
  .split
   .rename_i hk
    have hk:=of_decide_eq_true hk
    grind [SD.g]
   .simp [SD.g]
  .split
   .rename_i hk
    have hk:=of_decide_eq_true hk;simp_all
   .simp [SD.g]
  .simp [SD.g]
 | .str m,y,_,h=>by
  have h:=SD.mz h
  grind [SD.join,SD.g,vi]
 | .bool c,y,_,h=>by
  have h:=SD.mz h
  grind [SD.join,SD.g,vi,SB.T1]
 | .slice v lo hi row,y,_,h=>by
  have h:=SD.mz h;simp only [SD.join];split
  .simp_all [SD.g,vi]
  .rename_i e
   rw [e] at h;split
   .rename_i hc
    have hc:=j7 hc;obtain ⟨rows,rfl,h1,h2,h3,h4⟩:=h;exact ⟨rows,rfl,by omega,by omega,YZ h3,fun r hr=>K7.T1 row _ hc (h4 r hr)⟩
   .simp [SD.g]
  .simp [SD.g]
 | .top,y,_,h=>by simp [SD.join,SD.g]
theorem K7.T1:∀ (x y:List SD) {d:List Data},x.length=y.length->K7.g C vs y d->K7.g C vs (K7.join x y) d
 |[],[],_,_,h=>by grind [K7.join]
 |[],_::_,_,hl,h=>by simp at hl
 |_::_,[],_,hl,h=>by simp at hl
 |x::xs,y::ys,_,hl,h=>by
  obtain ⟨d,ds,rfl,h1,h2⟩:=h;exact ⟨_,_,rfl,SD.T1 x y h1,K7.T1 xs ys (by simp_all) h2⟩
end
theorem K7.HE:∀ (x y:List SD),x.length=y.length->(K7.join x y).length=x.length
 |[],[],_=>rfl
 |[],_::_,h=>by simp at h
 |_::_,[],h=>by simp at h
 |x::xs,y::ys,h=>by simp_all [K7.join,q6,K7.HE]
end
def wH (sz:Nat):Nat->List SD->List (List SD)
 |0,_=>[]
 |n+1,cs=>cs.take sz::wH sz n (cs.drop sz)
def UT (sz:Nat):List (List SD)->List SD
 |[]=>j4 sz .top
 |r::rs=>rs.foldl K7.join r
def HF :List SD->Option (List Data)
 |[]=>some []
 | .lit d::r=>match HF r with
  |some ds=>some (d::ds)
  |none=>none
 |_=>none
def mkSlice (sz len:Nat)(xs:List SD):SD:=match HF xs with
 |some ds=> .lit (.slice len ds)
 |none=> .slice none len len (UT sz (wH sz len xs))
section
variable {C:Ctx} {vs:List Nat}
theorem TU:∀ {xs:List SD} {ds es:List Data},HF xs=some ds->K7.g C vs xs es->es=ds
 |[],_,_,h,hg=>by simp_all [HF,Option.some.injEq,K7.g]
 |x::xs,_,_,h,hg=>by
  obtain ⟨d,ds',rfl,h1,h2⟩:=hg;cases x<;>simp [HF,reduceCtorEq] at h;split at h
  .rename_i ds hds
   cases h;rw [h1,TU hds h2]
  .cases h
theorem IM {sz:Nat}:∀ (rs:List (List SD)) (x:List SD),x.length=sz->(∀ r,r ∈ rs->r.length=sz)->(∀ a,K7.g C vs x a->K7.g C vs (rs.foldl K7.join x) a)/\(∀ r a,r ∈ rs->K7.g C vs r a->K7.g C vs (rs.foldl K7.join x) a)/\(rs.foldl K7.join x).length=sz
 |[],x,hx,_=>⟨fun a h=>h,by simp,hx⟩
 |r::rs,x,hx,hr=>by
  have hl:(K7.join x r).length=sz:=by simp_all [K7.HE]
  obtain ⟨h1,h2,h3⟩:=IM rs (K7.join x r) hl (fun r' h=>hr r' (by simp [h]))
  grind [K7.T0,K7.T1]
theorem K7.take {x:List SD}:∀ {d:List Data},K7.g C vs x d->∀ n,K7.g C vs (x.take n) (d.take n):=by
 induction x with
 |nil=>simp_all [K7.g]
 |cons x xs ih =>
  intro d h n;cases n with
  |zero=>simp [K7.g]
  |succ n=>grind [K7.g]
theorem K7.drop {x:List SD}:∀ {d:List Data},K7.g C vs x d->∀ n,K7.g C vs (x.drop n) (d.drop n):=by
 induction x with
 |nil=>simp_all [K7.g]
 |cons x xs ih =>
  intro d h n;have h' :=h;obtain ⟨d,ds,rfl,h2,h3⟩:=h;cases n with
  |zero=>exact h'
  |succ n=>simp_all
theorem NV {sz:Nat}:∀ (n:Nat) {xs:List SD} {ds:List Data},xs.length=n * sz->K7.g C vs xs ds ->
  ∃ rows:List (List Data),rows.flatten=ds/\rows.length=n/\(∀ r,r ∈ wH sz n xs->r.length=sz)/\∀ r,r ∈ rows->∃ s,s ∈ wH sz n xs/\K7.g C vs s r
 |0,xs,ds,hl,h=>by
  have:xs=[]:=List.eq_nil_of_length_eq_zero (by omega);subst this;simp only [K7.g] at h;subst h;exact ⟨[],rfl,rfl,by simp [wH],by simp⟩
 |n+1,xs,ds,hl,h=>by
  rw [Nat.succ_mul] at hl;obtain ⟨rows,h1,h2,h3,h4⟩:=NV (sz:=sz) n (xs:=xs.drop sz) (by simp;omega) (K7.drop h sz);refine ⟨ds.take sz::rows,by simp [h1],by simp [h2],fun r hr=> ?_,fun r hr=> ?_⟩
  .grind [wH]
  .rcases y7.1 hr with rfl|hr
   all_goals simp_all [wH,K7.take]
def pF {sz len:Nat}{xs:List SD}{ds:List Data}(hl:xs.length=len * sz)(h:K7.g C vs xs ds):(mkSlice sz len xs).g C vs (.slice len ds):=by
 unfold mkSlice;split
 .grind [SD.g,TU]
 .obtain ⟨rows,h1,h2,h3,h4⟩:=NV len hl h
  refine ⟨rows,by rw [h1,h2],by omega,by omega,(fun i e=>by cases e),fun r hr=> ?_⟩;obtain ⟨s,h5,h6⟩:=h4 r hr;cases hs:wH sz len xs with
  |nil=>simp_all
  |cons q qs =>
   rw [hs] at h5 h3;obtain ⟨f1,f2,_⟩:=IM (C:=C) (vs:=vs) qs q (h3 q (by simp)) (fun r hr=>h3 r (by simp [hr]))
   grind [UT]
end
def exact? (B:jh)(x:SD):Option Int:=match x.int? B with
 |some (_,a,b,_)=>if decide (a=b) then some a else none
 |none=>none
def Dr (σ:u9->SV)(B:jh)(dl dh:Int):Option u9->Option (Int×Int)
 |none=>some (dl,dh)
 |some x=>match σ x with
  | .d y=>match y.int? B with
   |some (_,a,b,_)=>some (a,b)
   |none=>none
  |_=>none
def TT (v:Option Nat)(lo hi:Nat):SD:=if s7 lo hi then .lit (.int .i64 lo) else .int .i64 lo hi (match v with|some i=> .eq i|none=> .no)
def inR:Rel->Option Nat->Bool
 | .lt p,some q=>s7 p q
 |_,_=>false
def AG (σ:u9->SV)(H:List SO)(B:jh):z6->Option (SV×List Nat)
 | .pick c a b=>match σ c with
  | .d x=>match x.bool? with
   |some (.t t)=>some (if t then σ a else σ b,[])
   |_=>none
  |_=>none
 | .build zero parts=>match Ay (zero.map WW) (parts.map fun (o,s,x)=>(o,s,σ x)) with
  |some cs=>some (.agg none cs,[])
  |none=>none
 | .A2 sz len zero parts false=>match Ay (zero.map WW) (parts.map fun (o,s,x)=>(o,s,σ x)) with
  |some cs=>match jB cs with
   |some xs=>if Nat.blt 0 sz&&s7 xs.length (len * sz) then some (.own sz (mkSlice sz len xs),[]) else none
   |none=>none
  |none=>none
 | .load none x=>match σ x with
  | .ptr id off=>match YQ H id off 1 with
   |some [v]=>some (v.I7,[id])
   |_=>none
  | .S9 (c::_)=>some (.d c,[])
  |_=>none
 | .load (some n) x=>match σ x with
  | .ptr id off=>match H[id]? with
   |some (.cells p l)=>if D9 (off+n) l.length then some (.agg (if s7 off 0&&s7 n l.length then p else none) (((l.drop off).take n).map SV.I7),[id]) else none
   |_=>none
  | .S9 row=>if D9 n row.length then some (.agg none ((row.take n).map .d),[]) else none
  |_=>none
 | .aX x=>match σ x with
  | .ptr id off=>some (.ptr id off,[])
  | .wp id lo z c=>some (.wp id lo z c,[])
  | .S9 row=>some (.S9 row,[])
  |_=>none
 | .bin op x y=>match σ x,σ y with
  | .d a,.d b=>match an8 B op a b with
   |some z=>some (.d z,[])
   |none=>none
  |_,_=>none
 | .u0 _ x y=>match σ x,σ y with
  | .d a,.d b=>match a.bool?,b.bool? with
   |some _,some _=>some (.d (.bool .uv),[])
   |_,_=>none
  |_,_=>none
 | .un .not x=>match σ x with
  | .d a=>match a.bool? with
   |some (.t b)=>some (.d (.lit (.bool (!b))),[])
   |some (.u c)=>some (.d (.bool c.not),[])
   |none=>none
  |_=>none
 | .mI k x=>match σ x with
  | .d a=>match a.kind? with
   |some _=>some (.d (.anyI k),[])
   |none=>none
  |_=>none
 | .jN x=>match σ x with
  | .d a=>match a.slice? B 1 with
   |some (_,_,hi,[c])=>match c.kind? with
    |some .u8=>some (.d (.str hi),[])
    |_=>none
   |_=>none
  |_=>none
 | .aj sz x lo hi=>match σ x with
  | .d a=>match a.slice? B sz with
   |some (_,l1,l2,row)=>match Dr σ B 0 0 lo,hi with
    |some (a1,a2),none=>if decide (0<=a1)&&decide (a2<=l1) then some (.d (.slice none (l1 - a2.toNat) (l2 - a1.toNat) row),[]) else none
    |some (a1,a2),some h=>match Dr σ B 0 0 (some h) with
     |some (b1,b2)=>if decide (0<=a1)&&decide (a2<=b1)&&decide (b2<=l1) then some (.d (.slice none (b1 - a2).toNat (b2 - a1).toNat row),[]) else none
     |none=>none
    |_,_=>none
   |none=>none
  | .B6 id z a len=>match Dr σ B 0 0 lo,Dr σ B len len hi with
   |some (a1,a2),some (b1,b2)=>if decide (a1=a2)&&decide (b1=b2)&&decide (0<=a1)&&decide (a1<=b1)&&decide (b1<=len)&&s7 z sz then
     (if decide (a1=b1) then some (.d (.lit (.slice 0 [])),[]) else some (.B6 id sz (a+a1.toNat * sz) (b1 - a1).toNat,[])) else none
   |_,_=>none
  |_=>none
 | .off k x=>match σ x with
  | .ptr id off=>some (.ptr id (off+k),[])
  | .wp id lo z c=>some (.wp id (lo+k) z c,[])
  | .S9 row=>if D9 k row.length then some (.S9 (row.drop k),[]) else none
  |_=>none
 | .C8 sz x i=>match σ x,σ i with
  | .d a,.d j=>match a.slice? B sz,j.int? B with
   |some (v,lo,_,row),some (_,j1,j2,r)=>if decide (0<=j1)&&(decide (j2<lo)||inR r v) then some (.S9 row,[]) else none
   |_,_=>none
  | .B6 id z lo len,.d j=>match exact? B j with
   |some n=>if decide (0<=n)&&decide (n<len)&&s7 z sz then some (.ptr id (lo+n.toNat * sz),[]) else none
   |none=>match j.int? B with
    |some (_,a,b,_)=>if decide (0<=a)&&decide (b<len)&&s7 z sz then some (.wp id lo sz len,[]) else none
    |none=>none
  |_,_=>none
 | .extract x i=>match σ x with
  | .tuple vs=>match vs[i]? with
   |some v=>some (v,[])
   |none=>none
  |_=>none
 | .len x=>match σ x with
  | .d a=>match a.rP B with
   |some (v,lo,hi)=>some (.d (TT v lo hi),[])
   |none=>none
  | .B6 _ _ _ len=>some (.d (.lit (.int .i64 len)),[])
  |_=>none
 | .V4 x=>match σ x with
  | .d a=>match a.tK with
   |some (m,none)=>some (.d (.int .i64 0 m .no),[])
   |some (_,some s)=>some (.d (.lit (.int .i64 s.length)),[])
   |none=>none
  |_=>none
 |_=>none
section
variable {C:Ctx} {vs:List Nat} {B:jh}
theorem aP {x:SD}{v:j3}(h:(SV.d x).g C vs v):∃ d,v= .d d/\x.g C vs d:=by simp_all [SV.g]
theorem rR {z:Nat}{x:SD}{v:j3}(h:(SV.own z x).g C vs v):∃ len cells,v= .own z len cells/\x.g C vs (.slice len cells):=by simp_all [SV.g]
theorem bZ {x:SD}{d:Data}(h:x.g C vs d):(SV.d x).g C vs (.d d):=by simp_all [SV.g]
def bu {id off:Nat}{v:j3}(h:(SV.ptr id off).g C vs v):v= .ptr id off:=by simp_all [SV.g]
def mq {id off a b:Nat}{v:j3}(h:(SV.B6 id off a b).g C vs v):v= .B6 id off a b:=by simp_all [SV.g]
def xV {row:List SD}{v:j3}(h:(SV.S9 row).g C vs v):∃ cells rest,v= .S9 (cells++rest)/\K7.g C vs row cells:=by simp_all [SV.g]
def XX {v:Option Nat}{lo hi n:Nat}(h1:lo<=n)(h2:n<=hi)(h3:∀ i,v=some i->vs[i]? =some n):(TT v lo hi).g C vs (.int .i64 n):=by
 unfold TT;split
 .grind [j7,SD.g]
 .refine ⟨_,rfl,by omega,by omega,?_⟩
  split
  .exact ⟨n,h3 _ rfl,rfl⟩
  .trivial
def Xp (hB:Bg vs B){x:SD}{d:Data}{n:Int}(h:exact? B x=some n)(hx:x.g C vs d):∃ k,d= .int k n:=by
 unfold exact? at h;split at h
 .split at h
  .grind [SD.iT]
  .cases h
 .cases h
def As (hB:Bg vs B){σ:u9->SV}{ρ:u9->j3}(hρ:∀ x,(σ x).g C vs (ρ x)){dl dh a b:Int}{n:Nat}{o:Option u9}(hn:o=none->dl<=n/\(n:Int)<=dh)(h:Dr σ B dl dh o=some (a,b)):∃ m,U5 ρ n o=some m/\a<=m/\m<=b:=by
 cases o with
 |none=>obtain ⟨rfl,rfl⟩:=h;exact ⟨n,rfl,hn rfl⟩
 |some x =>
  have h1:=hρ x;simp [Dr] at h;split at h
  .rename_i y hy
   rw [hy] at h1;split at h
   .rename_i k p q r hi
    obtain ⟨d,e,h1⟩:=aP h1;obtain ⟨m,rfl,h2,h3,_⟩:=SD.iT hB hi h1;simp_all [U5]
   .cases h
  .cases h
theorem y5.QS:∀ {x:List SD} {d:List Data},K7.g C vs x d->y5.g C vs (x.map .d) (d.map .d)
 |[],_,h=>by simp_all [K7.g,y5.g]
 |x::xs,_,h=>by
  obtain ⟨d,ds,rfl,h1,h2⟩:=h;exact ⟨_,_,rfl,bZ h1,y5.QS h2⟩
theorem NS {sz:Nat}:∀ {rows:List (List Data)} {i:Nat},(∀ r,r ∈ rows->r.length=sz)->i<rows.length->∃ r,r ∈ rows/\rows.flatten.drop (i * sz)=r++rows.flatten.drop ((i+1) * sz)
 |[],i,_,h=>by simp at h
 |r::rows,0,hr,h=>by
  simp_all
 |r::rows,i+1,hr,h=>by
  obtain ⟨q,h1,h2⟩:=NS (rows:=rows) (i:=i) (fun r h=>hr r (by simp [h])) (by simpa using h);simp_all [List.flatten_cons,List.drop_append,n5,Nat.succ_mul,Nat.add_sub_cancel]
theorem kE {sz:Nat}:∀ {rows:List (List Data)},(∀ r,r ∈ rows->r.length=sz)->rows.flatten.length=rows.length * sz
 |[],_=>by simp
 |r::rows,h=>by
  have:=kE (rows:=rows) (fun r hr=>h r (by simp [hr]))
  grind
theorem AS {sz:Nat}:∀ {rows:List (List Data)},(∀ r,r ∈ rows->r.length=sz)->∀ i,rows.flatten.take (i * sz)=(rows.take i).flatten
 |[],_,i=>by simp
 |r::rows,h,0=>by simp
 |r::rows,h,i+1=>by
  have:=AS (rows:=rows) (fun r hr=>h r (by simp [hr])) i;simp_all [List.flatten_cons,List.take_succ_cons,List.take_append,A8,Nat.succ_mul,Nat.add_sub_cancel]
theorem zg {sz:Nat}:∀ {rows:List (List Data)},(∀ r,r ∈ rows->r.length=sz)->∀ i,rows.flatten.drop (i * sz)=(rows.drop i).flatten
 |[],_,i=>by simp
 |r::rows,h,0=>by simp
 |r::rows,h,i+1=>by
  have:=zg (rows:=rows) (fun r hr=>h r (by simp [hr])) i;simp_all [List.flatten_cons,List.drop_succ_cons,List.drop_append,n5,Nat.succ_mul,Nat.add_sub_cancel]
def Uq {sz:Nat}{row:List SD}{rows:List (List Data)}{a b l1 l2:Nat}(hw:row.length=sz)(hr:∀ r,r ∈ rows->K7.g C vs row r)(hab:a<=b)(hb:b<=rows.length)(h1:l1<=b - a)(h2:b - a<=l2) :
  (SD.slice none l1 l2 row).g C vs (.slice ((b:Int) - a).toNat ((rows.flatten.take (b * sz)).drop (a * sz))):=by
 have hrl:∀ r,r ∈ rows->r.length=sz:=fun r h=>by grind [K7.len]
 grind [List.mem_of_mem_take,AS,zg,SD.g,List.mem_of_mem_drop]
theorem MU {c:SD}(hk:c.kind? =some .u8):∀ {rows:List (List Data)},(∀ r,r ∈ rows->K7.g C vs [c] r)->∃ bs,ga rows.flatten=some bs/\bs.length=rows.length
 |[],_=>⟨[],rfl,rfl⟩
 |r::rows,h=>by
  obtain ⟨bs,h1,h2⟩:=MU hk (rows:=rows) (fun r hr=>h r (by simp [hr]));have h3:=h r (by simp)
  grind [K7.g,SD.xW,UInt8.ofNat,ga]
def YP (hB:Bg vs B){σ:u9->SV}{ρ:u9->j3}(hρ:∀ x,(σ x).g C vs (ρ x)){H:List SO}{H' :q8}(hH:K2.g C vs H H'){op:z6}{v:SV}{rs:List Nat}(h:AG σ H B op=some (v,rs)) :
  ∃ r,o6 ρ H' op=some (r,rs)/\v.g C vs r:=by
 cases op<;>simp only [AG,reduceCtorEq] at h
 case pick c a b =>
  have hc:=hρ c;split at h
  .rename_i x hx
   rw [hx] at hc;obtain ⟨d,e1,hd⟩:=aP hc;split at h
   .rename_i t ht
    obtain ⟨t',rfl,e2⟩:=SD.eu ht hd;simp only at e2;subst e2;cases h;refine ⟨_,(by simp only [o6,e1];rfl),?_⟩;cases t' <;>exact hρ _
   .cases h
  .cases h
 case build zero parts =>
  split at h
  .rename_i cs hcs
   cases h;obtain ⟨ds,h1,h2⟩:=yg (tr hρ parts) (Af zero) hcs;exact ⟨_,(by simp only [o6,h1];rfl),by simp only [SV.g];exact ⟨_,rfl,h2,fun k h=>by cases h⟩⟩
  .cases h
 case A2 sz len zero parts ob =>
  cases ob<;>simp only [AG,reduceCtorEq] at h;split at h
  .rename_i cs hcs
   split at h
   .rename_i xs hxs
    split at h
    .rename_i hc
     simp only [c9] at hc;have c1:=k9 hc.1;have c2:=j7 hc.2;cases h;obtain ⟨ds,h1,h2⟩:=yg (tr hρ parts) (Af zero) hcs;obtain ⟨es,h3,h4⟩:=oq h2 hxs;have hl:=K7.len h4;refine ⟨.own sz len es,?_,by simp only [SV.g];exact ⟨_,_,rfl,pF c2 h4⟩⟩;simp only [o6,h1,h3];rw [if_pos ⟨by omega,by omega⟩]
    .cases h
   .cases h
  .cases h
 case load n x =>
  have hx:=hρ x;cases n with
  |none =>
   simp only [AG] at h;split at h
   .rename_i id off e
    rw [e] at hx;have e1:=bu hx;split at h
    .rename_i w hw
     cases h;obtain ⟨cs,h1,h2⟩:=Dy hH hw;simp only [y5.g] at h2;obtain ⟨a,_,rfl,h3,rfl⟩:=h2;exact ⟨_,(by simp only [o6,e1,h1]),SV.qt h3⟩
    .cases h
   .rename_i c row e
    rw [e] at hx;obtain ⟨cells,rest,e1,h1⟩:=xV hx;cases h;simp only [K7.g] at h1;obtain ⟨d,ds,rfl,h2,h3⟩:=h1;exact ⟨.d d,by simp only [o6,e1,B7],bZ h2⟩
   .cases h
  |some n =>
   simp only [AG] at h;split at h
   .rename_i id off e
    rw [e] at hx;have e1:=bu hx;split at h
    .rename_i p l hl
     split at h
     .rename_i hc
      have hc:=k9 hc;cases h;obtain ⟨o,h1,h2⟩:=K2.get hH hl;obtain ⟨cs,rfl,h3,h4⟩:=h2;have hlen:=y5.len h3;refine ⟨.agg (((cs.drop off).take n).map j3.I7),?_,?_⟩
      .simp only [o6,e1,rd,h1]
       rw [if_pos (by omega)]
      .simp only [SV.g]
       refine ⟨_,rfl,y5.map (fun _ _=>SV.qt) (y5.take (y5.drop h3 off) n),fun k hk=> ?_⟩;split at hk
       .rename_i mJ
        simp only [c9] at mJ;have c1:=j7 mJ.1;have c2:=j7 mJ.2;subst c1;have:(cs.drop 0).take n=cs:=by rw [List.drop_zero,A8 (by omega)]
        rw [this];have e3:(cs.map j3.I7).map j3.I7=cs.map j3.I7:=by
         rw [List.map_map]
         congr 1
         funext v
         cases v<;>rfl
        rw [e3];exact h4 k hk
       .cases hk
     .cases h
    .cases h
   .rename_i row e
    rw [e] at hx;obtain ⟨cells,rest,e1,h1⟩:=xV hx;split at h
    .rename_i hc
     have hc:=k9 hc;cases h;have hlen:=K7.len h1;refine ⟨.agg ((cells.take n).map .d),?_,?_⟩
     .simp only [o6,e1]
      rw [if_pos (by simp;omega),List.take_append_of_le_length (by omega)]
     .simp only [SV.g]
      exact ⟨_,rfl,y5.QS (K7.take h1 n),fun k h=>by cases h⟩
    .cases h
   .cases h
 case aX x =>
  have hx:=hρ x;split at h
  .rename_i id off e
   cases h;rw [e] at hx;exact ⟨_,(by simp only [o6,bu hx];rfl),by simp only [SV.g]⟩
  .rename_i id lo z c e
   cases h;rw [e] at hx;simp only [SV.g] at hx;obtain ⟨j,j1,j2⟩:=hx;exact ⟨_,(by simp only [o6,j2];rfl),by simp only [SV.g];exact ⟨j,j1,rfl⟩⟩
  .rename_i row e
   cases h;rw [e] at hx;obtain ⟨cells,rest,e1,h1⟩:=xV hx;exact ⟨_,(by simp only [o6,e1];rfl),by simp only [SV.g];exact ⟨_,_,rfl,h1⟩⟩
  .cases h
 case bin op x y =>
  have hx:=hρ x;have hy:=hρ y;split at h
  .rename_i a b ea eb
   rw [ea] at hx;rw [eb] at hy;obtain ⟨d,e1,h1⟩:=aP hx;obtain ⟨f,e2,h2⟩:=aP hy;split at h
   .rename_i z hz
    cases h;obtain ⟨r,h3,h4⟩:=an9 hB h1 h2 hz;exact ⟨.d r,by simp only [o6,e1,e2,h3],bZ h4⟩
   .cases h
  .cases h
 case un op x =>
  cases op<;>simp only [AG,reduceCtorEq] at h;have hx:=hρ x;split at h
  .rename_i a ea
   rw [ea] at hx;obtain ⟨d,e1,h1⟩:=aP hx;split at h
   .rename_i b hb
    cases h;obtain ⟨b',rfl,e2⟩:=SD.eu hb h1;simp only at e2;subst e2;exact ⟨_,(by simp only [o6,e1,Bc];rfl),bZ (by simp [SD.g])⟩
   .rename_i c hc
    cases h;obtain ⟨b',rfl,e2⟩:=SD.eu hc h1;have:=ND (C:=C) (vs:=vs) (x:= .bool c) (b:=b') (by simp only [SD.g];exact ⟨_,rfl,e2⟩);exact ⟨_,(by simp only [o6,e1,Bc]),bZ this⟩
   .cases h
  .cases h
 case u0 neg x y =>
  have hx:=hρ x;have hy:=hρ y;split at h
  .rename_i a b ea eb
   rw [ea] at hx;rw [eb] at hy;obtain ⟨d,e1,h1⟩:=aP hx;obtain ⟨f,e2,h2⟩:=aP hy;split at h
   .rename_i p q hp hq
    cases h;obtain ⟨t,rfl,_⟩:=SD.eu hp h1;obtain ⟨u,rfl,_⟩:=SD.eu hq h2;exact ⟨_,(by simp only [o6,e1,e2];rfl),bZ (by simp only [SD.g];exact ⟨_,rfl,trivial⟩)⟩
   .cases h
  .cases h
 case mI k x =>
  have hx:=hρ x;split at h
  .rename_i a ea
   rw [ea] at hx;obtain ⟨d,e1,h1⟩:=aP hx;split at h
   .rename_i k' hk
    cases h;obtain ⟨n,rfl⟩:=SD.xW hk h1;exact ⟨_,(by simp only [o6,e1];rfl),bZ (by simp only [SD.g];exact ⟨_,rfl⟩)⟩
   .cases h
  .cases h
 case jN x =>
  have hx:=hρ x;split at h
  .rename_i a ea
   rw [ea] at hx;obtain ⟨d,e1,h1⟩:=aP hx;split at h
   .rename_i v lo hi c hs
    split at h
    .rename_i hk
     cases h;obtain ⟨_,rows,rfl,h2,h3,h4,h5⟩:=SD.eM hB hs h1;obtain ⟨bs,h6,h7⟩:=MU hk h5;have hl:rows.flatten.length=rows.length:=by
      have:=kE (sz:=1) (rows:=rows) (fun r hr=>K7.len (h5 r hr));omega
     exact ⟨.d (.str bs),by simp only [o6,e1,hl,if_true,h6],bZ (by simp only [SD.g];exact ⟨_,rfl,by omega⟩)⟩
    .cases h
   .cases h
  .cases h
 case aj sz x lo hi =>
  have hx:=hρ x;split at h
  .rename_i a ea
   rw [ea] at hx;obtain ⟨d,e1,h1⟩:=aP hx;split at h
   .rename_i v l1 l2 row hs
    obtain ⟨hw,rows,rfl,h2,h3,h4,h5⟩:=SD.eM hB hs h1;have hfl:rows.flatten.length=rows.length * sz:=kE (fun r hr=>by rw [K7.len (h5 r hr)];exact hw);split at h
    .rename_i a1 a2 hlo
     split at h
     .rename_i hc
      simp only [c9,decide_eq_true_eq] at hc;cases h;obtain ⟨m,b1,b2,b3⟩:=As (n:=0) hB hρ (fun _=>⟨Int.le_refl _,Int.le_refl _⟩) hlo;obtain ⟨m',rfl⟩:=Int.eq_ofNat_of_zero_le (show 0<=m by omega);refine ⟨_,?_,bZ (Uq (a:=m') (b:=rows.length) (l1:=l1 - a2.toNat) (l2:=l2 - a1.toNat) hw h5 (by omega) (o5 _) (by omega) (by omega))⟩;have b4:U5 ρ rows.length none=some (rows.length:Int):=rfl;simp only [o6,e1,b1,b4];rw [if_pos (by refine ⟨?_,?_,?_,hfl⟩<;>omega)];simp
     .cases h
    .rename_i a1 a2 hop hlo
     split at h
     .rename_i b1 b2 hhi
      split at h
      .rename_i hc
       simp only [c9,decide_eq_true_eq] at hc;cases h;obtain ⟨m,c1,c2,c3⟩:=As (n:=0) hB hρ (fun _=>⟨Int.le_refl _,Int.le_refl _⟩) hlo;obtain ⟨q,d1,d2,d3⟩:=As (n:=rows.length) (dl:=0) (dh:=0) hB hρ (o:=some hop) (fun h=>by cases h) hhi;obtain ⟨m',rfl⟩:=Int.eq_ofNat_of_zero_le (show 0<=m by omega);obtain ⟨q',rfl⟩:=Int.eq_ofNat_of_zero_le (show 0<=q by omega);refine ⟨_,?_,bZ (Uq (a:=m') (b:=q') (l1:=(b1 - a2).toNat) (l2:=(b2 - a1).toNat) hw h5 (by omega) (by omega) (by omega) (by omega))⟩;simp only [o6,e1,c1,d1];rw [if_pos (by refine ⟨?_,?_,?_,hfl⟩<;>omega)];simp
      .cases h
     .cases h
    .cases h
   .cases h
  .rename_i id z a len ea
   rw [ea] at hx;have e1:=mq hx;split at h
   .rename_i a1 a2 b1 b2 hlo hhi
    split at h
    .rename_i hc
     simp only [c9,decide_eq_true_eq] at hc;obtain ⟨⟨⟨⟨⟨c1,c2⟩,c3⟩,c4⟩,c5⟩,c6⟩:=hc;have c6:=j7 c6;subst c6;obtain ⟨m,f1,f2,f3⟩:=As (n:=0) hB hρ (fun _=>⟨Int.le_refl _,Int.le_refl _⟩) hlo;obtain ⟨q,g1,g2,g3⟩:=As (n:=len) hB hρ (fun _=>⟨Int.le_refl _,Int.le_refl _⟩) hhi;have em:m=a1:=by omega
     have eq:q=b1:=by omega
     subst em eq;simp only [o6,e1,f1,g1];rw [if_pos ⟨by omega,by omega,by omega,trivial⟩];split at h
     .rename_i he
      simp only [decide_eq_true_eq] at he;cases h;rw [if_pos he];exact ⟨_,rfl,bZ (by simp [SD.g])⟩
     .rename_i he
      simp only [decide_eq_true_eq] at he;cases h;rw [if_neg he];exact ⟨_,rfl,by simp only [SV.g]⟩
    .cases h
   .cases h
  .cases h
 case off k x =>
  have hx:=hρ x;split at h
  .rename_i id off e
   cases h;rw [e] at hx;exact ⟨_,(by simp only [o6,bu hx];rfl),by simp only [SV.g]⟩
  .rename_i id lo z c e
   cases h;rw [e] at hx;simp only [SV.g] at hx;obtain ⟨j,j1,j2⟩:=hx;exact ⟨.ptr id (lo+j * z+k),(by simp only [o6,j2]),by simp only [SV.g];exact ⟨j,j1,by rw [show lo+k+j * z=lo+j * z+k by omega]⟩⟩
  .rename_i row e
   rw [e] at hx;split at h
   .rename_i hc
    have hc:=k9 hc;cases h;obtain ⟨cells,rest,e1,h1⟩:=xV hx;have:=K7.len h1;refine ⟨_,(by simp only [o6,e1];rfl),?_⟩;simp only [SV.g];exact ⟨cells.drop k,rest,by rw [List.drop_append_of_le_length (by omega)],K7.drop h1 k⟩
   .cases h
  .cases h
 case C8 sz x i =>
  have hx:=hρ x;have hi:=hρ i;split at h
  .rename_i a j ea ej
   rw [ea] at hx;rw [ej] at hi;obtain ⟨d,e1,h1⟩:=aP hx;obtain ⟨f,e2,h2⟩:=aP hi;split at h
   .rename_i v lo hi' row k j1 j2 r hs hj
    split at h
    .rename_i hc
     simp only [c9,L5,decide_eq_true_eq] at hc;cases h;obtain ⟨hw,rows,rfl,h3,h4,h5,h6⟩:=SD.eM hB hs h1;obtain ⟨n,rfl,k1,k2,k3⟩:=SD.iT hB hj h2;have hlt:0<=n/\n<rows.length:=by
      refine ⟨by omega,?_⟩
      rcases hc.2 with hc|hc
      .omega
      .unfold inR at hc
       split at hc
       .rename_i p q
        have hpq:=j7 hc;subst hpq;obtain ⟨m,m1,m2,m3⟩:=k3;rw [h5 _ rfl] at m1;cases m1;exact m3
       .cases hc
     obtain ⟨n',rfl⟩:=Int.eq_ofNat_of_zero_le hlt.1;obtain ⟨q,q1,q2⟩:=NS (sz:=sz) (rows:=rows) (i:=n') (fun r hr=>by rw [K7.len (h6 r hr)];exact hw) (by omega);refine ⟨.S9 (rows.flatten.drop (n' * sz)),?_,?_⟩
     .simp only [o6,e1,e2]
      rw [if_pos hlt];simp
     .simp only [SV.g]
      exact ⟨q,_,by rw [q2],h6 q q1⟩
    .cases h
   .cases h
  .rename_i id z lo len j ea ej
   rw [ea] at hx;rw [ej] at hi;have e1:=mq hx;obtain ⟨f,e2,h2⟩:=aP hi;split at h
   .rename_i n hn
    split at h
    .rename_i hc
     simp only [c9,decide_eq_true_eq] at hc;have c2:=j7 hc.2;cases h;obtain ⟨k,rfl⟩:=Xp hB hn h2;refine ⟨.ptr id (lo+n.toNat * sz),?_,by simp only [SV.g]⟩;simp only [o6,e1,e2];rw [if_pos ⟨hc.1.1,hc.1.2,c2⟩]
    .cases h
   .split at h
    .rename_i k a b r hj
     split at h
     .rename_i hc
      simp only [c9,decide_eq_true_eq] at hc;have c2:=j7 hc.2;cases h;obtain ⟨n,rfl,k1,k2,_⟩:=SD.iT hB hj h2;refine ⟨.ptr id (lo+n.toNat * sz),?_,?_⟩
      .simp only [o6,e1,e2]
       rw [if_pos ⟨by omega,by omega,c2⟩]
      .simp only [SV.g]
       exact ⟨n.toNat,by omega,rfl⟩
     .cases h
    .cases h
  .cases h
 case extract x i =>
  have hx:=hρ x;split at h
  .rename_i l e
   rw [e] at hx;simp only [SV.g] at hx;obtain ⟨cs,e1,h1⟩:=hx;split at h
   .rename_i v' hv
    cases h;obtain ⟨b,h2,h3⟩:=y5.get h1 hv;exact ⟨b,by simp only [o6,e1,h2],h3⟩
   .cases h
  .cases h
 case len x =>
  have hx:=hρ x;split at h
  .rename_i a ea
   rw [ea] at hx;obtain ⟨d,e1,h1⟩:=aP hx;split at h
   .rename_i v' lo hi hl
    cases h;obtain ⟨n,cells,rfl,h2,h3,h4⟩:=SD.LF hB hl h1;exact ⟨.d (.int .i64 n),by simp only [o6,e1,i64],bZ (XX h2 h3 h4)⟩
   .cases h
  .rename_i e
   cases h;rw [e] at hx;exact ⟨_,(by simp only [o6,mq hx,i64];rfl),bZ (by simp [SD.g])⟩
  .cases h
 case V4 x =>
  have hx:=hρ x;split at h
  .rename_i a ea
   rw [ea] at hx;obtain ⟨d,e1,h1⟩:=aP hx;split at h
   .rename_i m hm
    cases h;obtain ⟨s,rfl,h2,_⟩:=SD.vu hm h1;exact ⟨.d (.int .i64 s.length),by simp only [o6,e1,i64],bZ (by simp only [SD.g];exact ⟨_,rfl,by omega,by omega,trivial⟩)⟩
   .rename_i m s hm
    cases h;obtain ⟨s',rfl,h2,h3⟩:=SD.vu hm h1;have:=h3 s rfl;subst this;exact ⟨.d (.int .i64 s'.length),by simp only [o6,e1,i64],bZ (by simp [SD.g])⟩
   .cases h
  .cases h
end
structure SS where
 T:List SV
 H:List SO
 L:List SV
 p6:List Touch
 B:jh
def SS.g (C:Ctx)(vs:List Nat)(s:SS)(st:F4):Prop:=y5.g C vs s.T st.T/\K2.g C vs s.H st.H/\y5.g C vs s.L st.L/\st.p6=s.p6/\Bg vs s.B
def ou (s:SS)(k:Nat)(v:SV):SS:={ s with L:=s.L.set k v }
mutual
def SV.X5 :SV->Option Nat
 | .top=>none
 | .ptr id _=>some (id+1)
 | .B6 id _ _ _=>some (id+1)
 | .wp id _ _ _=>some (id+1)
 | .agg _ l=>y5.X5 l
 | .tuple l=>y5.X5 l
 | .bn k=>some k
 |_=>some 0
def y5.X5 :List SV->Option Nat
 |[]=>some 0
 |x::xs=>match x.X5,y5.X5 xs with
  |some a,some b=>some (max a b)
  |_,_=>none
end
def SO.X5 :SO->Option Nat
 | .dead=>some 0
 | .cells _ l=>y5.X5 l
 | .pr _=>some 0
 | .bn k=>some k
 | .top=>none
 | .Rb _ b=>some b
def yM :List SO->Option (List Nat)
 |[]=>some []
 |o::os=>match o.X5,yM os with
  |some a,some b=>some (a::b)
  |_,_=>none
mutual
def SV.kill (id:Nat):SV->SV
 | .ptr i o=>if s7 i id then .any else .ptr i o
 | .B6 i z l n=>if s7 i id then .any else .B6 i z l n
 | .agg p l=>match y5.X5 l with
  |some 0=> .agg p l
  |_=> .agg none (y5.kill id l)
 | .tuple l=> .tuple (y5.kill id l)
 | .bn k=>if s7 k 0 then .bn 0 else .top
 | .wp .. => .top
 |v=>v
def y5.kill (id:Nat):List SV->List SV
 |[]=>[]
 |v::vs=>v.kill id::y5.kill id vs
end
def SO.kill (id:Nat):SO->SO
 | .cells p l=>match y5.X5 l with
  |some 0=> .cells p l
  |_=> .cells none (y5.kill id l)
 | .bn k=>if s7 k 0 then .bn 0 else .top
 | .Rb k b=>if D9 b id then .Rb k b else .top
 |o=>o
mutual
theorem TN (id:Nat):∀ (v:j3),v.L7<=id->v.kill id=v
 | .any,_=>by simp [j3.kill]
 | .d _,_=>by simp [j3.kill]
 | .ptr i o,h=>by simp only [j3.L7] at h;simp only [j3.kill];rw [if_neg (by omega)]
 | .S9 _,_=>by simp [j3.kill]
 | .B6 i z l n,h=>by simp only [j3.L7] at h;simp only [j3.kill];rw [if_neg (by omega)]
 | .own _ _ _,_=>by simp [j3.kill]
 | .P5,_=>by simp [j3.kill]
 | .agg l,h=>by simp only [j3.L7] at h;simp only [j3.kill];rw [rO id l h]
 | .tuple l,h=>by simp only [j3.L7] at h;simp only [j3.kill];rw [rO id l h]
 | .func f a b,h=>by simp only [j3.L7] at h;simp only [j3.kill];rw [rO id a (by omega),rO id b (by omega)]
 | .map i,h=>by simp only [j3.L7] at h;simp only [j3.kill];rw [if_neg (by omega)]
theorem rO (id:Nat):∀ (l:List j3),B8 l<=id->N4 id l=l
 |[],_=>rfl
 |v::l,h=>by simp only [B8] at h;simp only [N4];rw [TN id v (by omega),rO id l (by omega)]
end
def ZJ (id:Nat)(v:j3)(h:v.L7=0):v.kill id=v:=TN id v (by omega)
def TP (id:Nat)(l:List j3)(h:B8 l=0):N4 id l=l:=rO id l (by omega)
def Um (id:Nat){o:x9}(h:o.L7<=id):o.kill id=o:=by
 cases o with
 |dead=>rfl
 |cells l=>simp only [x9.L7] at h;simp only [x9.kill,rO id l h]
 |map es =>
  simp only [x9.L7] at h;simp only [x9.kill]
  congr 1
  have:∀ es:List (Key×j3),B8 (es.map (·.2))<=id->es.map (fun p=>(p.1,p.2.kill id))=es:=by
   intro es
   induction es with
   |nil=>intro _;rfl
   |cons e es ih =>
    intro h;simp only [E0,B8] at h;simp only [E0];rw [TN id e.2 (by omega),ih (by omega)]
  exact this es h
def Ul (id:Nat){o:x9}(h:o.L7=0):o.kill id=o:=Um id (by omega)
section
variable {C:Ctx} {vs:List Nat}
mutual
theorem SV.cD:∀ {x:SV} {v:j3} {n:Nat},x.X5 =some n->x.g C vs v->v.L7=n
 | .top,_,_,h,_=>by simp [SV.X5] at h
 | .any,_,_,h,hg=>by simp only [SV.g] at hg;subst hg;simp only [SV.X5,Option.some.injEq] at h;subst h;rfl
 | .d _,_,_,h,hg=>by simp only [SV.g] at hg;obtain ⟨y,rfl,_⟩:=hg;simp only [SV.X5,Option.some.injEq] at h;subst h;rfl
 | .own _ _,_,_,h,hg=>by simp only [SV.g] at hg;obtain ⟨y,_,rfl,_⟩:=hg;simp only [SV.X5,Option.some.injEq] at h;subst h;rfl
 | .P5,_,_,h,hg=>by simp only [SV.g] at hg;subst hg;simp only [SV.X5,Option.some.injEq] at h;subst h;rfl
 | .ptr ..,_,_,h,hg=>by simp only [SV.g] at hg;subst hg;simp only [SV.X5,Option.some.injEq] at h;subst h;simp [j3.L7]
 | .S9 _,_,_,h,hg=>by simp only [SV.g] at hg;obtain ⟨_,_,rfl,_⟩:=hg;simp only [SV.X5,Option.some.injEq] at h;subst h;rfl
 | .wp ..,_,_,h,hg=>by simp only [SV.g] at hg;obtain ⟨j,_,rfl⟩:=hg;simp only [SV.X5,Option.some.injEq] at h;subst h;simp [j3.L7]
 | .B6 ..,_,_,h,hg=>by simp only [SV.g] at hg;subst hg;simp only [SV.X5,Option.some.injEq] at h;subst h;simp [j3.L7]
 | .agg p l,_,_,h,hg=>by simp only [SV.g] at hg;obtain ⟨cs,rfl,h1,_⟩:=hg;simp only [SV.X5] at h;simp only [j3.L7];exact y5.cD h h1
 | .tuple l,_,_,h,hg=>by simp only [SV.g] at hg;obtain ⟨cs,rfl,h1⟩:=hg;simp only [SV.X5] at h;simp only [j3.L7];exact y5.cD h h1
 | .bn k,_,_,h,hg=>by simp only [SV.g] at hg;simp only [SV.X5,Option.some.injEq] at h;subst h;exact hg.1
 | .q x,v,_,h,hg=>by
  simp only [SV.g] at hg;obtain ⟨y,h1,_⟩:=hg;simp only [SV.X5,Option.some.injEq] at h;subst h;cases v<;>simp only [j3.I7,reduceCtorEq] at h1<;>rfl
theorem y5.cD:∀ {x:List SV} {v:List j3} {n:Nat},y5.X5 x=some n->y5.g C vs x v->B8 v=n
 |[],_,_,h,hg=>by simp only [y5.g] at hg;subst hg;simp only [y5.X5,Option.some.injEq] at h;subst h;rfl
 |x::xs,_,_,h,hg=>by
  simp only [y5.g] at hg;obtain ⟨d,ds,rfl,h1,h2⟩:=hg;simp only [y5.X5] at h;split at h
  .rename_i a b ha hb
   simp only [Option.some.injEq] at h;subst h;simp only [B8];rw [SV.cD ha h1,y5.cD hb h2]
  .cases h
end
theorem SO.cD {x:SO}{o:x9}{n:Nat}(h:x.X5 =some n)(hg:x.g C vs o):o.L7=n:=by
 cases x with
 |dead=>simp only [SO.g] at hg;subst hg;simp only [SO.X5,Option.some.injEq] at h;subst h;rfl
 |cells p l=>obtain ⟨cs,rfl,h1,_⟩:=hg;simp only [SO.X5] at h;simp only [x9.L7];exact y5.cD h h1
 |pr k=>simp only [SO.g] at hg;simp only [SO.X5,Option.some.injEq] at h;subst h;exact C.L7 k o hg
 |bn k=>simp only [SO.g] at hg;simp only [SO.X5,Option.some.injEq] at h;subst h;exact hg
 |top=>simp [SO.X5] at h
 |Rb k b=>simp only [SO.g] at hg;simp only [SO.X5,Option.some.injEq] at h;subst h;exact hg.2
theorem Es:∀ {x:List SO} {H:q8} {l:List Nat},yM x=some l->K2.g C vs x H->H.map x9.L7=l
 |[],_,_,h,hg=>by simp_all [K2.g,yM,Option.some.injEq]
 |x::xs,_,_,h,hg=>by
  obtain ⟨d,ds,rfl,h1,h2⟩:=hg;simp [yM] at h;split at h
  .rename_i a b ha hb
   simp [Option.some.injEq] at h;subst h;simp only [E0];rw [SO.cD ha h1,Es hb h2]
  .cases h
mutual
theorem SV.eA (id:Nat):∀ {x:SV} {v:j3},x.g C vs v->(x.kill id).g C vs (v.kill id)
 | .top,_,_=>by simp [SV.kill,SV.g]
 | .any,_,hg=>by simp only [SV.g] at hg;subst hg;simp [SV.kill,j3.kill,SV.g]
 | .d _,_,hg=>by have hg' :=hg;simp only [SV.g] at hg;obtain ⟨y,rfl,_⟩:=hg;simpa only [SV.kill,j3.kill] using hg'
 | .own _ _,_,hg=>by have hg' :=hg;simp only [SV.g] at hg;obtain ⟨y,_,rfl,_⟩:=hg;simpa only [SV.kill,j3.kill] using hg'
 | .P5,_,hg=>by simp only [SV.g] at hg;subst hg;simp [SV.kill,j3.kill,SV.g]
 | .ptr i o,_,hg=>by
  simp only [SV.g] at hg;subst hg;simp only [SV.kill,j3.kill];split
  .rename_i h;rw [if_pos (j7 h)];simp [SV.g]
  .rename_i h;rw [if_neg (fun e=>h (by rw [e];exact Nat.beq_refl _))];simp [SV.g]
 | .wp ..,_,_=>by simp [SV.kill,SV.g]
 | .S9 _,_,hg=>by have hg' :=hg;simp only [SV.g] at hg;obtain ⟨_,_,rfl,_⟩:=hg;simpa only [SV.kill,j3.kill] using hg'
 | .B6 i z l n,_,hg=>by
  simp only [SV.g] at hg;subst hg;simp only [SV.kill,j3.kill];split
  .rename_i h;rw [if_pos (j7 h)];simp [SV.g]
  .rename_i h;rw [if_neg (fun e=>h (by rw [e];exact Nat.beq_refl _))];simp [SV.g]
 | .agg p l,_,hg=>by
  have hg' :=hg;simp only [SV.g] at hg;obtain ⟨cs,rfl,h1,h2⟩:=hg;simp only [SV.kill,j3.kill];split
  .rename_i h
   rw [TP id cs (y5.cD h h1)];exact hg'
  .simp only [SV.g]
   exact ⟨_,rfl,y5.eA id h1,fun k h=>by cases h⟩
 | .tuple l,_,hg=>by
  simp only [SV.g] at hg;obtain ⟨cs,rfl,h1⟩:=hg;simp only [SV.kill,j3.kill,SV.g];exact ⟨_,rfl,y5.eA id h1⟩
 | .bn k,v,hg=>by
  simp only [SV.kill];split
  .rename_i h
   have h:=j7 h;subst h;simp only [SV.g] at hg ⊢;rw [ZJ id v hg.1];exact hg
  .simp [SV.g]
 | .q x,v,hg=>by
  have hg' :=hg;simp only [SV.g] at hg;obtain ⟨y,h1,_⟩:=hg;simp only [SV.kill];rw [ZJ id v (by cases v<;>simp only [j3.I7,reduceCtorEq] at h1<;>rfl)];exact hg'
theorem y5.eA (id:Nat):∀ {x:List SV} {v:List j3},y5.g C vs x v->y5.g C vs (y5.kill id x) (N4 id v)
 |[],_,h=>by simp only [y5.g] at h;subst h;simp [y5.kill,N4,y5.g]
 |x::xs,_,h=>by
  simp only [y5.g] at h;obtain ⟨d,ds,rfl,h2,h3⟩:=h;simp only [y5.kill,N4,y5.g];exact ⟨_,_,rfl,SV.eA id h2,y5.eA id h3⟩
end
theorem SO.eA (id:Nat){x:SO}{o:x9}(h:x.g C vs o):(x.kill id).g C vs (o.kill id):=by
 cases x with
 |dead=>simp only [SO.g] at h;subst h;rfl
 |cells p l =>
  have h' :=h;obtain ⟨cs,rfl,h1,h2⟩:=h;simp only [SO.kill,x9.kill];split
  .rename_i hb
   rw [TP id cs (y5.cD hb h1)];exact h'
  .exact ⟨_,rfl,y5.eA id h1,fun k h=>by cases h⟩
 |pr k =>
  simp only [SO.g] at h;simp only [SO.kill];rw [Ul id (C.L7 k o h)];exact h
 |bn k =>
  simp only [SO.kill];split
  .rename_i hk
   have hk:=j7 hk;subst hk;rw [Ul id h];exact h
  .trivial
 |top=>trivial
 |Rb k b =>
  simp only [SO.kill];split
  .rename_i hk
   rw [Um id (by have:=h.2;have:=k9 hk;omega)];exact h
  .trivial
theorem K2.map {f:SO->SO}{f' :x9->x9}(hf:∀ x a,SO.g C vs x a->SO.g C vs (f x) (f' a)):∀ {x:List SO} {d:q8},K2.g C vs x d->K2.g C vs (x.map f) (d.map f')
 |[],_,h=>by simp_all [K2.g]
 |x::xs,_,h=>by
  obtain ⟨d,ds,rfl,h2,h3⟩:=h;exact ⟨_,_,rfl,hf _ _ h2,K2.map hf h3⟩
end
def yJ (l:List Nat):Nat:=l.foldr max 0
def U6 (bs:List Nat)(strict:Nat):Nat->Nat->Nat
 |0,n=>n
 |k+1,n=>if D9 n strict then n else
  if s7 (max n (yJ ((bs.take n).drop strict))) n then n else U6 bs strict k (max n (yJ ((bs.take n).drop strict)))
def Nb:List Nat->Nat->Bool
 |[],_=>true
 |b::bs,k=>D9 b (k+1)&&Nb bs (k+1)
def pZ (bs:List Nat)(strict n:Nat):Nat:=if D9 n strict then n else if Nb ((bs.take n).drop strict) strict then n else strict
theorem Sg:∀ H:q8,R7 H=yJ (H.map x9.L7)
 |[]=>rfl
 |o::H=>by simp [R7,yJ];rw [Sg H];rfl
def oT (H:q8)(a b:Nat):R7 ((H.take a).drop b)=yJ (((H.map x9.L7).take a).drop b):=by
 rw [Sg,List.map_drop,List.map_take]
theorem uF (H:q8)(strict:Nat):∀ (k n:Nat),E9 H strict k n=U6 (H.map x9.L7) strict k n
 |0,n=>rfl
 |k+1,n=>by
  simp [E9,U6,oT,Nat.ble_eq,Nat.beq_eq];split
  .rfl
  .split
   .rfl
   .exact uF H strict k _
theorem SH:∀ (H:q8) (k:Nat),T5 H k=Nb (H.map x9.L7) k
 |[],_=>rfl
 |o::H,k=>by
  simp [T5,Nb];rw [SH H (k+1)]
  congr 1
  rw [Bool.eq_iff_iff,Nat.ble_eq];simp
def My (H:q8)(s n:Nat):D8 H s n=pZ (H.map x9.L7) s n:=by
 simp [D8,pZ,SH,List.map_drop,List.map_take,Nat.ble_eq]
def bC (s:SS):u9->SV×SS
 | .loc j=>match s.L[j]? with
  |some (.own z x)=>(.own z x,{ s with L:=s.L.set j (.d x) })
  |some (.q x)=>(.q x,s)
  |some .P5=>(.P5,s)
  |_=>(bS s.T s.L (.loc j),s)
 | .const v=>(WW v,s)
 | .slot t=>(bS s.T s.L (.slot t),s)
section
variable {C:Ctx} {vs:List Nat} {s:SS} {st:F4}
def cB (hs:s.g C vs st)(k:Nat){v:SV}{a:j3}(h:v.g C vs a):(ou s k v).g C vs (put st k a) :=
 ⟨hs.1,hs.2.1,y5.set hs.2.2.1 k h,hs.2.2.2⟩
def yp (hs:s.g C vs st)(x:u9):(bC s x).1.g C vs (E1 st x).1/\(bC s x).2.g C vs (E1 st x).2:=by
 obtain ⟨hT,hH,hL,ht,hB⟩:=hs;have hr:∀ x,(bS s.T s.L x).g C vs (G9 st.T st.L x):=fun x=>FM hT hL x
 cases x with
 |const v=>exact ⟨Uj v,hT,hH,hL,ht,hB⟩
 |slot t=>exact ⟨hr (.slot t),hT,hH,hL,ht,hB⟩
 |loc j =>
  simp only [bC];split
  .rename_i z x e
   obtain ⟨a,h1,h2⟩:=y5.get hL e;simp only [SV.g] at h2;obtain ⟨len,cells,rfl,h3⟩:=h2;simp only [E1,h1];refine ⟨?_,hT,hH,y5.set hL j ?_,ht,hB⟩
   .simp only [SV.g];exact ⟨_,_,rfl,h3⟩
   .simp only [SV.g];exact ⟨_,rfl,h3⟩
  .rename_i x e
   obtain ⟨a,h1,h2⟩:=y5.get hL e;have hq:∀ v:j3,v.I7=a.I7->(SV.q x).g C vs v:=fun v hv=>by
    simp only [SV.g] at h2 ⊢;rw [hv];exact h2
   simp only [E1];split
   .rename_i z len cells e2
    rw [h1] at e2;cases e2;refine ⟨hq _ rfl,hT,hH,?_,ht,hB⟩;have:=y5.set hL j (a:= .q x) (b:= .d (.slice len cells)) (hq _ rfl)
    rwa [Z3 e] at this
   .rename_i e2
    rw [h1] at e2;cases e2;exact ⟨hq _ rfl,hT,hH,hL,ht,hB⟩
   .refine ⟨hq _ ?_,hT,hH,hL,ht,hB⟩
    simp only [G9,List.getD_eq_getElem?_getD,h1,Option.getD_some];cases a<;>rfl
  .rename_i e
   obtain ⟨a,h1,h2⟩:=y5.get hL e;simp only [SV.g] at h2;subst h2;simp only [E1,h1];exact ⟨by simp only [SV.g],hT,hH,hL,ht,hB⟩
  .rename_i hno hnq hni
   simp only [E1];split
   .rename_i z len cells e
    cases hx:s.L[j]? with
    |none=>rw [y5.none hL hx] at e;cases e
    |some y =>
     obtain ⟨a,h1,h2⟩:=y5.get hL hx;rw [e] at h1;cases h1;have hy:(y= .top\/y= .bn 0):=by
      cases y<;>simp only [SV.g,reduceCtorEq,and_false,exists_false] at h2
      .exact .inl rfl
      .obtain ⟨_,h2,_⟩:=h2;cases h2
      .rename_i z' x';exact absurd hx (hno z' x')
      .obtain ⟨_,_,h2,_⟩:=h2;cases h2
      .obtain ⟨_,h2,_⟩:=h2;cases h2
      .obtain ⟨_,h2,_⟩:=h2;cases h2
      .rw [<- h2.1];exact .inr rfl
      .rename_i x';exact absurd hx (hnq x')
     have hg:∀ v:j3,v.L7=0->v.one=true->y.g C vs v:=fun v e1 e2=>by
      rcases hy with rfl|rfl
      .simp [SV.g]
      .simp only [SV.g];exact ⟨e1,e2⟩
     refine ⟨?_,hT,hH,?_,ht,hB⟩
     .have:bS s.T s.L (.loc j)=y:=by rcases hy with rfl|rfl<;>simp [bS,List.getD_eq_getElem?_getD,hx,SV.I7]
      rw [this];exact hg _ rfl rfl
     .have:=y5.set hL j (a:=y) (b:= .d (.slice len cells)) (hg _ rfl rfl)
      rwa [Z3 hx] at this
   .rename_i e
    cases hx:s.L[j]? with
    |none=>rw [y5.none hL hx] at e;cases e
    |some y =>
     obtain ⟨a,h1,h2⟩:=y5.get hL hx;rw [e] at h1;cases h1;refine ⟨?_,hT,hH,hL,ht,hB⟩;have:bS s.T s.L (.loc j)=y:=by
      cases y
      case own z' x' =>exact absurd hx (hno z' x')
      case q x' =>exact absurd hx (hnq x')
      case P5=>exact absurd hx hni
      all_goals simp [bS,List.getD_eq_getElem?_getD,hx,SV.I7]
     rw [this];exact h2
   .exact ⟨hr (.loc j),hT,hH,hL,ht,hB⟩
end
def tG (s:SS)(u5:Option Nat)(o:SO):SS:=match u5 with
 |none=>{ s with H:=s.H++[o] }
 |some i=>{ s with H:=s.H.set i o }
def jW (s:SS)(u5:Option Nat):Nat:=u5.getD s.H.length
def okB (lim:F2)(id:Nat):Option Nat->Bool
 |some b=>D9 b (id+1)||(D9 lim.base id&&D9 lim.strict id)
 |none=>D9 lim.base id&&D9 lim.strict id
def wj (x y:SV):Option SV:=match x.data?,y.data? with
 |some a,some b=>some (.q (a.join b))
 |_,_=>none
def RH:List SV->List SV->Option (List SV)
 |[],l=>some l
 |_::_,[]=>none
 |y::ys,x::l=>match wj x y,RH ys l with
  |some z,some r=>some (z::r)
  |_,_=>none
def Jr (new:List SV)(sz:Nat):Nat->List SV->Option (List SV)
 |0,l=>some l
 |c+1,l=>match RH new l with
  |some l1=>match Jr new sz c (l1.drop sz) with
   |some r=>some (l1.take sz++r)
   |none=>none
  |none=>none
def FO (lim:F2)(k n:Nat)(s:SS)(x:u9):SV->Option SS
 | .ptr id off=>match (bC s x).1.cells? with
  |some l=>if s7 l.length n&&lim.may id&&okB lim id (y5.X5 l) then
    match swr (bC s x).2.H id off (bC s x).1.tag l with
    |some H' =>some (ou { (bC s x).2 with H:=H',p6:= .obj id::(bC s x).2.p6 } k .any)
    |none=>none
   else none
  |none=>none
 | .wp id lo sz c=>match (bC s x).1.cells?,(bC s x).2.H[id]? with
  |some l,some (.cells _ old)=>match Jr l sz c (old.drop lo) with
   |some r=>if s7 l.length n&&lim.may id&&okB lim id (y5.X5 l)&&D9 n sz&&D9 (lo+c * sz) (old.length+sz - n)&&D9 lo old.length then
     some (ou { (bC s x).2 with H:=(bC s x).2.H.set id (.cells none (old.take lo++r)),p6:= .obj id::(bC s x).2.p6 } k .any)
    else none
   |none=>none
  |_,_=>none
 |_=>none
def Mg (B:jh)(H:List SO)(sz:Nat):SV->Option SD
 | .d z=>match z.slice? B sz with
  |some _=>some z
  |none=>none
 | .B6 id z lo len=>if s7 z sz then match YQ H id lo (len * sz) with
   |some l=>match jB (l.map SV.I7) with
    |some xs=>some (mkSlice sz len xs)
    |none=>none
   |none=>none
  else none
 |_=>none
def ao0 (B:jh)(sz:Nat)(x z:SD):Option (SD×Nat):=match x.slice? B sz,z.slice? B sz with
 |some (_,lo1,hi1,aG3),some (_,lo2,hi2,aG4) =>
  if s7 hi1 0 then some (z,hi2) else if s7 hi2 0 then some (x,hi1) else some (.slice none (lo1+lo2) (hi1+hi2) (K7.join aG3 aG4),hi1+hi2)
 |_,_=>none
def Ho (p6:List Touch)(s:Nat):Bool:=p6.any (Touch.T4 s)
def AF (s:SS):u9->Option (Nat×Nat)
 | .loc m=>match s.L[m]? with
  |some (.ptr id off)=>some (id,off)
  |_=>none
 | .slot t=>if Ho s.p6 t then none else match s.T[t]? with
  |some (.ptr id off)=>some (id,off)
  |_=>none
 | .const _=>none
def AL (l:F2)(s:SS)(sz:Nat):z6->Option (SD×SS)
 | .R2 (.slot t)=>if Ho s.p6 t then none else match s.T[t]? with
  |some (.own z x)=>if s7 z sz then some (x,{ s with T:=s.T.set t (.d x),p6:= .slot t::s.p6 }) else none
  |_=>none
 | .load none x=>match AF s x with
  |some (id,off)=>if s.p6.any (Touch.bX id off)|| !l.may id then none else
   match s.H[id]? with
   |some (.cells p cs)=>match cs[off]? with
    |some (.own z x)=>if s7 z sz then some (x,{ s with H:=s.H.set id (.cells p (cs.set off (.d x))),p6:= .cell id off::s.p6 }) else none
    |_=>none
   |_=>none
  |none=>none
 |_=>none
def AK (l:F2)(l6:List p9)(s:SS)(sz:Nat):u9->Option (SD×SS)
 | .const (.own z len cells)=>if s7 z sz then some (.lit (.slice len cells),s) else none
 | .loc j=>match s.L[j]? with
  |some (.own z x)=>if s7 z sz then some (x,{ s with L:=s.L.set j (.d x) }) else none
  |some (.d x)=>match x.rP s.B,l6[j]? with
   |some _,some a=>AL l s sz a.op
   |_,_=>none
  |_=>none
 |_=>none
def FH (l:F2)(s:SS):z6->Bool
 | .R2 (.slot t)=> !Ho s.p6 t&&(match s.T[t]? with|some .P5=>true|_=>false)
 | .load none x=>match AF s x with
  |some (id,off)=> !s.p6.any (Touch.bX id off)&&l.may id&&(match s.H[id]? with
   |some (.cells _ cs)=>(match cs[off]? with|some .P5=>true|_=>false)
   |_=>false)
  |none=>false
 |_=>false
def Ml (l:F2)(l6:List p9)(s:SS):u9->Bool
 | .const .P5=>true
 | .loc j=>match s.L[j]? with
  |some .P5=>true
  |some (.d x)=>match x.rP s.B,l6[j]? with
   |some _,some a=>FH l s a.op
   |_,_=>false
  |_=>false
 |_=>false
def Fx (B:jh)(H:List SO)(sz:Nat):SV->Option (Nat×List SV)
 | .d z=>match z.slice? B sz with
  |some (_,lo,hi,row)=>if s7 lo hi then some (lo,(j4 lo (row.map .d)).flatten) else none
  |none=>none
 | .B6 id z lo len=>if s7 z sz then match YQ H id lo (len * sz) with
   |some l=>some (len,l.map SV.I7)
   |none=>none
  else none
 |_=>none
def Oa (n bytes:Nat):Bool:=D9 ((2 * n+512) * bytes) 281474976710656
def pT (lim:F2)(l6:List p9)(u5:Option Nat)(k sz bytes:Nat)(ob:Bool)(s:SS)(x:u9)(y:SV):Option SS :=
 if ob then match Fx s.B s.H sz y with
  |some (m,cs)=>if Ml lim l6 s x&&Oa m bytes&&Nat.blt 0 sz then
    (if s7 m 0 then some (ou s k .P5) else some (ou (tG s u5 (.cells none cs)) k (.B6 (jW s u5) sz 0 m)))
   else none
  |none=>none
 else match Mg s.B s.H sz y with
  |some z=>match AK lim l6 s sz x with
   |some (x0,s')=>match ao0 s.B sz x0 z with
    |some (r,hi)=>if Oa hi bytes&&Nat.blt 0 sz then some (ou s' k (.own sz r)) else none
    |none=>none
   |none=>none
  |none=>none
def ye (lim:F2)(entry k sz bytes:Nat)(s:SS)(id lo len:Nat)(y:SV):Option SS :=
 if D9 lim.base id&&D9 entry id&&lim.may id then
  match s.H[id]?,Fx s.B s.H sz y with
  |some (.cells _ l),some (m,cs)=>match y5.X5 cs with
   |some b=>if s7 lo 0&&s7 (len * sz) l.length&&Oa (len+m) bytes&&D9 b id&&cs.all SV.one&&Nat.blt 0 sz then
     some (ou { s with T:=y5.kill id s.T,H:=(s.H.take lim.base++(s.H.drop lim.base).map (SO.kill id)).set id (.cells none (y5.kill id l++cs)),L:=y5.kill id s.L,p6:= .obj id::s.p6 } k (.B6 id sz lo (len+m)))
    else none
   |none=>none
  |_,_=>none
 else none
section
variable {C:Ctx} {vs:List Nat} {s:SS} {st:F4}
theorem SS.G9 (hs:s.g C vs st)(x:u9):(bS s.T s.L x).g C vs (G9 st.T st.L x):=FM hs.1 hs.2.2.1 x
def aI9 {x y z:SV}{v:j3}(h:wj x y=some z):(x.g C vs v->z.g C vs v)/\(y.g C vs v->z.g C vs v):=by
 unfold wj at h;split at h
 .rename_i a b ha hb
  cases h;have ad:∀ {v:j3} {d:Data},v.data? =some d->v.I7= .d d:=by intro v d h;cases v<;>simp_all [j3.data?,j3.I7]
  refine ⟨fun hx=> ?_,fun hy=> ?_⟩
  .obtain ⟨d,h1,h2⟩:=SV.Lb hx ha
   simp only [SV.g];exact ⟨d,ad h1,SD.T0 a b h2⟩
  .obtain ⟨d,h1,h2⟩:=SV.Lb hy hb
   simp only [SV.g];exact ⟨d,ad h1,SD.T1 a b h2⟩
 .cases h
theorem MF:∀ {new l r:List SV} {ns cs:List j3},RH new l=some r->y5.g C vs l cs->(y5.g C vs r cs)/\(y5.g C vs new ns->y5.g C vs r (ns++cs.drop ns.length))
 |[],l,r,ns,cs,h,hl=>by
  simp only [RH,Option.some.injEq] at h;subst h;refine ⟨hl,fun hn=> ?_⟩;simp only [y5.g] at hn;subst hn;simpa using hl
 |_::_,[],r,ns,cs,h,hl=>by simp [RH] at h
 |y::ys,x::l,r,ns,cs,h,hl=>by
  simp only [RH] at h;split at h
  .rename_i z r' hz hr
   cases h;simp only [y5.g] at hl;obtain ⟨c,cs',rfl,h1,h2⟩:=hl;refine ⟨?_,fun hn=> ?_⟩
   .simp only [y5.g]
    exact ⟨_,_,rfl,(aI9 hz).1 h1,(MF (ns:=[]) hr h2).1⟩
   .simp only [y5.g] at hn
    obtain ⟨n,ns',rfl,n1,n2⟩:=hn;simp only [B7,q6,List.drop_succ_cons,y5.g];exact ⟨_,_,rfl,(aI9 hz).2 n1,(MF hr h2).2 n2⟩
  .cases h
theorem Om {new:List SV}{sz:Nat}{ns:List j3}(hn:y5.g C vs new ns)(hsz:ns.length<=sz):∀ {c:Nat} {l r:List SV} {cs:List j3},Jr new sz c l=some r->y5.g C vs l cs->y5.g C vs r cs/\∀ j,j<c->y5.g C vs r (splice cs (j * sz) ns)
 |0,l,r,cs,h,hl=>by
  simp only [Jr,Option.some.injEq] at h;subst h;exact ⟨hl,fun j hj=>absurd hj (by omega)⟩
 |c+1,l,r,cs,h,hl=>by
  simp only [Jr] at h;split at h
  .rename_i l1 h1
   split at h
   .rename_i r' h2
    cases h;obtain ⟨g1,g2⟩:=MF (ns:=ns) h1 hl;have g2:=g2 hn;obtain ⟨k1,k2⟩:=Om hn hsz h2 (y5.drop g1 sz);have e0:cs=cs.take sz++cs.drop sz:=(List.take_append_drop sz cs).symm;refine ⟨?_,fun j hj=> ?_⟩
    .rw [e0];exact y5.app (y5.take g1 sz) k1
    .cases j with
     |zero =>
      simp only [splice,Nat.zero_mul,List.take_zero,B9,Nat.zero_add];have e1:ns++cs.drop ns.length=(ns++cs.drop ns.length).take sz++cs.drop sz:=by
       have:=(List.take_append_drop sz (ns++cs.drop ns.length)).symm;rw [List.drop_append,n5 hsz,B9,List.drop_drop,show ns.length+(sz - ns.length)=sz by omega] at this;exact this
      rw [e1];exact y5.app (y5.take g2 sz) k1
     |succ j =>
      have h3:=k2 j (by omega)
      by_cases hlen:sz<=cs.length
      .have e1:splice cs ((j+1) * sz) ns=cs.take sz++splice (cs.drop sz) (j * sz) ns:=by
        simp only [splice,A9];rw [show (j+1) * sz=sz+j * sz by rw [Nat.succ_mul,Nat.add_comm],List.take_add,A9,List.drop_drop,Nat.add_assoc]
       rw [e1];exact y5.app (y5.take g1 sz) h3
      .have e1:splice cs ((j+1) * sz) ns=cs.take sz++splice (cs.drop sz) (j * sz) ns:=by
        simp only [splice,A9];rw [show (j+1) * sz=sz+j * sz by rw [Nat.succ_mul,Nat.add_comm],List.take_add,A9,List.drop_drop,Nat.add_assoc]
       rw [e1];exact y5.app (y5.take g1 sz) h3
   .cases h
  .cases h
def Vo (hs:s.g C vs st){E:Env}{k n:Nat}{x:u9}{a:SV}{a' :j3}(ha:a.g C vs a'){s' :SS}(h:FO E.lim k n s x a=some s'):∃ st',Q6 E k n st a' x=some st' /\s'.g C vs st' :=by
 have hbd:∀ (id:Nat) (l:List SV) (cs:List j3),y5.g C vs l cs->okB E.lim id (y5.X5 l)=true->B8 cs<=id+1\/(E.lim.base<=id/\E.lim.strict<=id):=by
  intro id l cs h2 h4;unfold okB at h4;split at h4
  .rename_i b hb
   simp only [L5,c9,Nat.ble_eq] at h4;rw [y5.cD hb h2];exact h4
  .simp only [c9,Nat.ble_eq] at h4
   exact .inr h4
 cases a<;>simp only [FO,reduceCtorEq] at h
 rotate_left
 .rename_i id lo sz c
  simp only [SV.g] at ha;obtain ⟨j,j1,rfl⟩:=ha;obtain ⟨hv,hT,hH,hL,ht,hB⟩:=yp hs x;split at h
  .rename_i l p old hl ho
   obtain ⟨cs,h1,h2,h3⟩:=SV.xQ hv hl;split at h
   .rename_i r hr
    split at h
    .rename_i hc
     simp only [c9,Nat.ble_eq] at hc;cases h;have hlen:=y5.len h2;have hn:=j7 hc.1.1.1.1.1;obtain ⟨o',o1,co,rfl,o2,_⟩:=K2.get hH ho;have hol:=y5.len o2;have hw:=(Om h2 (by omega) hr (y5.drop o2 lo)).2 j j1;have hcs:j * sz+sz<=c * sz:=by rw [<- Nat.succ_mul];exact M3 _ j1
     have hwr:wr (E1 st x).2.H id (lo+j * sz) cs=some ((E1 st x).2.H.set id (.cells (splice co (lo+j * sz) cs))):=by
      simp only [wr,o1];rw [if_pos (by omega)]
     have e1:splice co (lo+j * sz) cs=co.take lo++splice (co.drop lo) (j * sz) cs:=by
      simp only [splice,A9];rw [List.take_add,A9,List.drop_drop,Nat.add_assoc]
     refine ⟨_,?_,cB (s:={ (bC s x).2 with H:=(bC s x).2.H.set id (.cells none (old.take lo++r)),p6:= .obj id::(bC s x).2.p6 }) (st:={ (E1 st x).2 with H:=(E1 st x).2.H.set id (.cells (splice co (lo+j * sz) cs)),p6:= .obj id::(E1 st x).2.p6 })
      ⟨hT,K2.set hH id ⟨_,rfl,by rw [e1];exact y5.app (y5.take o2 lo) hw,fun k hk=>by cases hk⟩,hL,congrArg (Touch.obj id::·) ht,hB⟩ k (v:= .any) (a:= .any) (by simp only [SV.g])⟩
     simp only [Q6,h1];rw [if_pos ⟨by omega,hc.1.1.1.1.2,hbd _ _ _ h2 hc.1.1.1.2⟩,hwr]
    .cases h
   .cases h
  .cases h
 rename_i id off;rw [bu ha];obtain ⟨hv,hT,hH,hL,ht,hB⟩:=yp hs x;split at h
 .rename_i l hl
  obtain ⟨cs,h1,h2,h3⟩:=SV.xQ hv hl;split at h
  .rename_i hc
   simp only [c9] at hc;split at h
   .rename_i H' hw
    cases h;obtain ⟨H3,w1,w2⟩:=aH9 hH h2 h3 hw;have hlen:=y5.len h2;have hn:=j7 hc.1.1;have hbb:B8 cs<=id+1\/(E.lim.base<=id/\E.lim.strict<=id):=by
     have h4:=hc.2;unfold okB at h4;split at h4
     .rename_i b hb
      simp only [L5,c9,Nat.ble_eq] at h4;rw [y5.cD hb h2];exact h4
     .simp only [c9,Nat.ble_eq] at h4
      exact .inr h4
    refine ⟨_,?_,cB (s:={ (bC s x).2 with H:=H',p6:= .obj id::(bC s x).2.p6 }) (st:={ (E1 st x).2 with H:=H3,p6:= .obj id::(E1 st x).2.p6 }) ⟨hT,w2,hL,congrArg (Touch.obj id::·) ht,hB⟩ k (v:= .any) (a:= .any) (by simp only [SV.g])⟩;simp only [Q6,h1];rw [if_pos ⟨by omega,hc.1.2,hbb⟩,w1]
   .cases h
  .cases h
 .cases h
def UU (hs:s.g C vs st){sz:Nat}{y:SV}{y' :j3}(hy:y.g C vs y'){z:SD}(h:Mg s.B s.H sz y=some z):∃ m cs new,P6 st.H sz y' =some (m,cs)/\M5 cs=some new/\z.g C vs (.slice m new):=by
 obtain ⟨hT,hH,hL,ht,hB⟩:=hs;cases y<;>simp only [Mg,reduceCtorEq] at h
 .split at h
  .rename_i q hq
   cases h;obtain ⟨d,rfl,h1⟩:=aP hy;obtain ⟨hw,rows,rfl,h2,h3,h4,h5⟩:=SD.eM hB hq h1;have hfl:rows.flatten.length=rows.length * sz:=kE (fun r hr=>by grind [K7.len]);exact ⟨_,_,_,by simp_all [P6,if_true],cg _,h1⟩
  .cases h
 .rename_i id z' lo len
  rw [mq hy];split at h
  .split at h
   .rename_i l hl
    split at h
    .rename_i xs hxs
     cases h;obtain ⟨cs,h1,h2⟩:=Dy hH hl;have h3:=y5.map (C:=C) (vs:=vs) (fun _ _=>SV.qt) h2;obtain ⟨ds,h4,h5⟩:=oq h3 hxs;have hlen:xs.length=len * sz:=by
      have e1:=K7.len h5;have e2:∀ {v:List j3} {d:List Data},M5 v=some d->d.length=v.length:=by
       intro v
       induction v with
       |nil=>simp_all [M5,Option.some.injEq]
       |cons a v ih =>
        grind [M5,Option.some.injEq]
      have e4:=y5.len h2;simp_all [YQ]<;>grind
     refine ⟨len,_,ds,?_,h4,pF hlen h5⟩;simp_all [P6,if_pos]
    .cases h
   .cases h
  .cases h
def ao1 {B:jh}(hB:Bg vs B){sz:Nat}{x z r:SD}{hi len m:Nat}{cells new:List Data}(h:ao0 B sz x z=some (r,hi))(hx:x.g C vs (.slice len cells))(hz:z.g C vs (.slice m new)):r.g C vs (.slice (len+m) (cells++new))/\len+m<=hi:=by
 unfold ao0 at h;split at h
 .rename_i v1 lo1 hi1 aG3 v2 lo2 hi2 aG4 e1 e2
  obtain ⟨w1,bk1,r1,a1,a2,a3,a4⟩:=SD.eM hB e1 hx;obtain ⟨w2,bk2,r2,b1,b2,b3,b4⟩:=SD.eM hB e2 hz;split at h
  .simp_all
  .split at h
   .simp_all
   .grind [SD.g,List.flatten_append,n9,K7.T0,K7.T1]
 .cases h
theorem Vj (hs:s.g C vs st){x:u9}{id off:Nat}(h:AF s x=some (id,off)):aY st x=some (id,off):=by
 obtain ⟨hT,hH,hL,ht,hB⟩:=hs;cases x with
 |loc m =>
  simp [AF] at h;split at h
  .rename_i e
   obtain ⟨a,h1,h2⟩:=y5.get hL e;rw [bu h2] at h1
   grind [aY]
  .cases h
 |slot t =>
  simp only [AF] at h;split at h
  .cases h
  .rename_i hh
   unfold Ho at hh;split at h
   .rename_i e
    obtain ⟨a,h1,h2⟩:=y5.get hT e;rw [bu h2] at h1;simp_all [aY,if_neg]
   .cases h
 |const v=>cases h
theorem Mu (hs:s.g C vs st){l:F2}{sz:Nat}{op:z6}{x:SD}{s' :SS}(h:AL l s sz op=some (x,s')):∃ len cells st',W6 l st sz op=some (len,cells,st')/\x.g C vs (.slice len cells)/\s'.g C vs st' :=by
 have hs' :=hs;obtain ⟨hT,hH,hL,ht,hB⟩:=hs;unfold AL at h;split at h
 .rename_i t
  split at h
  .cases h
  .rename_i hh
   unfold Ho at hh;split at h
   .rename_i z x' e
    split at h
    .obtain ⟨rfl,rfl⟩:=h
     obtain ⟨a,h1,h2⟩:=y5.get hT e;obtain ⟨len,cells,rfl,h3⟩:=rR h2;refine ⟨len,cells,{ st with T:=st.T.set t (.d (.slice len cells)),p6:= .slot t::st.p6 },?_,h3,y5.set hT t (bZ h3),hH,hL,by simp_all,hB⟩;simp_all [W6,if_neg,if_pos]
    .cases h
   .cases h
 .split at h
  .rename_i id off hp
   split at h
   .cases h
   .split at h
    .rename_i p cs e
     split at h
     .rename_i z x' e2
      split at h
      .obtain ⟨rfl,rfl⟩:=h
       obtain ⟨o,h1,h2⟩:=K2.get hH e;obtain ⟨ds,rfl,h3,h4⟩:=h2;obtain ⟨a,h5,h6⟩:=y5.get h3 e2;obtain ⟨len,cells,rfl,h7⟩:=rR h6;refine ⟨len,cells,{ st with H:=st.H.set id (.cells (ds.set off (.d (.slice len cells)))),p6:= .cell id off::st.p6 },?_,h7,hT,K2.set hH id ⟨_,rfl,y5.set h3 off (bZ h7),fun k hk=> ?_⟩,hL,by simp_all,hB⟩
       .simp [W6,Vj hs' hp]
        simp_all
       simp_all [j3.I7,List.map_set,Z3]
      .cases h
     .cases h
    .cases h
  .cases h
 .cases h
theorem tF (hB:Bg vs s.B){x:SD}{d:Data}{q:Option Nat×Nat×Nat}(h:x.rP s.B=some q)(hx:x.g C vs d):∃ n cells,d= .slice n cells:=by
 grind [SD.LF]
def Mt (hs:s.g C vs st){l:F2}{l6:List p9}{sz:Nat}{y:u9}{x:SD}{s' :SS}(h:AK l l6 s sz y=some (x,s')):∃ len cells st',O7 l l6 st sz y=some (len,cells,st')/\x.g C vs (.slice len cells)/\s'.g C vs st' :=by
 have hs' :=hs;obtain ⟨hT,hH,hL,ht,hB⟩:=hs;unfold AK at h;split at h
 .split at h
  .rename_i hz
   have hz:=j7 hz
   grind [O7,SD.g]
  .cases h
 .rename_i j
  split at h
  .rename_i z x' e
   split at h
   .obtain ⟨rfl,rfl⟩:=h
    obtain ⟨a,h1,h2⟩:=y5.get hL e;obtain ⟨len,cells,rfl,h3⟩:=rR h2;refine ⟨len,cells,{ st with L:=st.L.set j (.d (.slice len cells)) },?_,h3,hT,hH,y5.set hL j (bZ h3),ht,hB⟩;simp_all [O7,if_pos]
   .cases h
  all_goals grind [y5.get,aP,tF,Mu,O7]
 .cases h
theorem Ru (hs:s.g C vs st){l:F2}{op:z6}(h:FH l s op=true):oa l st op=true:=by
 have hs' :=hs;obtain ⟨hT,hH,hL,ht,hB⟩:=hs;unfold FH at h;split at h
 .simp [Ho] at h
  grind [y5.get,SV.g,oa,Bool.and_self]
 .split at h
  .simp [c9] at h
   obtain ⟨h1,h2⟩:=h;split at h2
   .rename_i p cs e
    split at h2
    .obtain ⟨o,h3,h4⟩:=K2.get hH e
     obtain ⟨ds,rfl,h5,_⟩:=h4
     grind [y5.get,SV.g,oa,Vj,Bool.and_self]
    .cases h2
   .cases h2
  .cases h
 .cases h
def Ve (hs:s.g C vs st){l:F2}{l6:List p9}{y:u9}(h:Ml l l6 s y=true):isNil l l6 st y=true:=by
 have hs' :=hs;obtain ⟨hT,hH,hL,ht,hB⟩:=hs;unfold Ml at h;split at h
 .rfl
 .all_goals grind [y5.get,SV.g,isNil,aP,tF,Ru]
 .cases h
theorem Nh {row:List SD}:∀ {rows:List (List Data)},(∀ r,r ∈ rows->K7.g C vs row r)->y5.g C vs (j4 rows.length (row.map .d)).flatten (rows.flatten.map .d)
 |[],_=>by simp [y5.g]
 |r::rows,h=>by
  simp only [List.flatten_cons,List.map_append];exact y5.app (y5.QS (h r (by simp))) (Nh (fun r hr=>h r (by simp [hr])))
def IK (hs:s.g C vs st){sz m:Nat}{y:SV}{y' :j3}(hy:y.g C vs y'){l:List SV}(h:Fx s.B s.H sz y=some (m,l)):∃ cs,P6 st.H sz y' =some (m,cs)/\y5.g C vs l cs:=by
 obtain ⟨hT,hH,hL,ht,hB⟩:=hs;cases y<;>simp only [Fx,reduceCtorEq] at h
 .split at h
  .rename_i v lo hi row hq
   split at h
   .rename_i he
    have he:=j7 he;simp [Option.some.injEq,Prod.mk.injEq] at h;obtain ⟨rfl,rfl⟩:=h;obtain ⟨d,rfl,h1⟩:=aP hy;obtain ⟨hw,rows,rfl,h2,h3,h4,h5⟩:=SD.eM hB hq h1;have hfl:rows.flatten.length=rows.length * sz:=kE (fun r hr=>by grind [K7.len]);have hn:lo=rows.length:=by omega
    subst hn;exact ⟨_,by simp_all [P6,if_true],Nh h5⟩
   .cases h
  .cases h
 .rw [mq hy]
  split at h
  .split at h
   .rename_i l' hl
    obtain ⟨rfl,rfl⟩:=h;obtain ⟨cs,h1,h2⟩:=Dy hH hl;simp_all [y5.map,SV.qt,P6,if_pos]
   .cases h
  .cases h
def FN {n m bytes:Nat}(h:Oa n bytes=true)(hm:m<=n):roomFor m bytes=true:=by
 have h:=k9 h;simp [roomFor,decide_eq_true_eq];exact B5 (M3 _ (by omega)) h
def FG (hs:s.g C vs st){u5:Option Nat}{o:SO}{o' :x9}(h:o.g C vs o'):(tG s u5 o).g C vs (F0 st u5 o')/\newId st u5=jW s u5:=by
 obtain ⟨hT,hH,hL,ht,hB⟩:=hs;have hlen:=K2.len hH;cases u5 with
 |none =>
  refine ⟨⟨hT,K2.app hH (by simp_all [K2.g]),hL,ht,hB⟩,?_⟩;simp [newId,jW,hlen]
 |some i=>exact ⟨⟨hT,K2.set hH i h,hL,ht,hB⟩,rfl⟩
def Dt (hs:s.g C vs st){E:Env}{l6:List p9}{u5:Option Nat}{k sz bytes:Nat}{ob:Bool}{x:u9}{y:SV}{y' :j3}(hy:y.g C vs y'){s' :SS}(h:pT E.lim l6 u5 k sz bytes ob s x y=some s'):∃ st',K8 E l6 u5 k sz bytes ob st x y' =some st' /\s'.g C vs st' :=by
 unfold pT at h;split at h
 .split at h
  .rename_i m cs he
   obtain ⟨ds,h1,h2⟩:=IK hs hy he;split at h
   .rename_i hc
    simp [c9] at hc;have c1:=Ve hs hc.1.1;have c2:=FN hc.1.2 (o5 _);split at h
    .cases h
     refine ⟨_,?_,cB hs k (v:= .P5) (a:= .P5) (by rfl)⟩;simp_all [K8,if_true,if_pos]
    .cases h
     obtain ⟨n1,n2⟩:=FG hs (u5:=u5) (o:= .cells none cs) (o' := .cells ds) ⟨ds,rfl,h2,fun k h=>by cases h⟩;refine ⟨_,?_,cB n1 k (v:= .B6 (jW s u5) sz 0 m) (a:= .B6 (newId st u5) sz 0 m) (by grind [SV.g])⟩;simp_all [K8,if_true,if_pos,if_neg]
   .cases h
  .cases h
 .split at h
  .rename_i z hz
   obtain ⟨m,cs,new,h1,h2,h3⟩:=UU hs hy hz;split at h
   .rename_i x0 s1 ht
    obtain ⟨len,cells,st1,h4,h5,h6⟩:=Mt hs ht;split at h
    .rename_i r hi ax0
     obtain ⟨h7,h8⟩:=ao1 hs.2.2.2.2 ax0 h5 h3;split at h
     .rename_i hc
      simp [c9] at hc;have c2:=FN hc.1 h8;cases h;refine ⟨_,?_,cB h6 k (v:= .own sz r) (a:= .own sz (len+m) (cells++new)) (by grind [SV.g])⟩;simp_all [K8,if_neg,if_pos]
     .cases h
    .cases h
   .cases h
  .cases h
def Rp (hs:s.g C vs st){E:Env}{k sz bytes id lo len:Nat}{y:SV}{y' :j3}(hy:y.g C vs y'){s' :SS}(h:ye E.lim E.entry k sz bytes s id lo len y=some s'):∃ st',V6 E k sz bytes st id lo len y' =some st' /\s'.g C vs st' :=by
 unfold ye at h;split at h
 .rename_i hc0
  simp [c9,Nat.ble_eq] at hc0;split at h
  .rename_i p l m cs To he
   split at h
   .split at h
    .rename_i hc
     simp only [c9,Nat.ble_eq] at hc;obtain ⟨⟨⟨⟨⟨c1,c2⟩,c3⟩,c4⟩,c5⟩,c6⟩:=hc;cases h;obtain ⟨ds,h1,h2⟩:=IK hs hy he;obtain ⟨hT,hH,hL,ht,hB⟩:=hs;obtain ⟨o,h3,h4⟩:=K2.get hH To;obtain ⟨es,rfl,h5,_⟩:=h4;have e1:=y5.len h5;have c1:=j7 c1;have c2:=j7 c2;have hrf:=FN c3 (o5 _);refine ⟨_,?_,cB (s:={ s with T:=y5.kill id s.T,H:=(s.H.take E.lim.base++(s.H.drop E.lim.base).map (SO.kill id)).set id (.cells none (y5.kill id l++cs)),L:=y5.kill id s.L,p6:= .obj id::s.p6 }) (st:={ T:=N4 id st.T,H:=(st.H.take E.lim.base++(st.H.drop E.lim.base).map (x9.kill id)).set id (.cells (N4 id es++ds)),L:=N4 id st.L,p6:= .obj id::st.p6 }) ⟨y5.eA id hT,K2.set (K2.app (K2.take hH _) (K2.map (fun _ _=>SO.eA id) (K2.drop hH _))) id (a:= .cells none (y5.kill id l++cs)) (b:= .cells (N4 id es++ds)) ⟨_,rfl,y5.app (y5.eA id h5) h2,fun k h=>by cases h⟩,y5.eA id hL,by simp_all,hB⟩ k (v:= .B6 id sz lo (len+m)) (a:= .B6 id sz lo (len+m)) (by rfl)⟩;simp only [V6,h3,h1];rw [if_pos ⟨hc0.1.1,hc0.1.2,hc0.2⟩,if_pos ⟨c1,by omega,hrf,by grind [y5.cD],y5.Ah h2 c5,k9 c6⟩]
    .cases h
   .cases h
  .cases h
 .cases h
end
abbrev Sem:=jh->FuncId->List SV->List SO->F2->Option (List (SV×List SO))
def gR (C:Ctx)(A:Prog)(sem:Sem):Prop:=∀ B f args H l outs,sem B f args H l=some outs->∀ vs,Bg vs B->∀ as Hc,y5.g C vs args as->K2.g C vs H Hc ->
 Pq A f as Hc l fun v H1=>∃ o,o ∈ outs/\o.1.g C vs v/\K2.g C vs o.2 H1
def iH {α β:Type}(f:α->Option (List β)):List α->Option (List β)
 |[]=>some []
 |a::r=>match f a,iH f r with
  |some x,some y=>some (x++y)
  |_,_=>none
theorem X2 {α β:Type}{f:α->Option (List β)}:∀ {l:List α} {r:List β},iH f l=some r->∀ a,a ∈ l->∃ x,f a=some x/\∀ b,b ∈ x->b ∈ r
 |[],_,_,a,h=>by cases h
 |c::l,r,h,a,ha=>by
  simp [iH] at h;split at h
  .rename_i x y hx hy
   cases h
   rcases y7.1 ha with rfl|ha
   .simp_all
   .obtain ⟨z,h1,h2⟩:=X2 hy a ha
    simp_all
  .cases h
section
variable (A:Prog) (sem:Sem)
def UW (lim:F2)(k:Nat)(f:FuncId)(args:List SV)(s:SS):Option (List SS) :=
 if A.prom f then match sem s.B f args s.H lim with
  |some outs=>if outs.all (fun o=>D9 s.H.length o.2.length) then some (outs.map fun o=>ou { s with H:=o.2,p6:= .below o.2.length::s.p6 } k o.1) else none
  |none=>none
 else match yM s.H,y5.X5 args with
  |some bs,some b0 =>
   if D9 (U6 bs lim.strict 8 b0) s.H.length&&D9 (yJ ((bs.take (U6 bs lim.strict 8 b0)).drop lim.strict)) (U6 bs lim.strict 8 b0) then
    match A.mode f with
    |0=>match sem s.B f args (s.H.take (U6 bs lim.strict 8 b0)) { lim with base:=U6 bs lim.strict 8 b0,strict:=pZ bs lim.strict (U6 bs lim.strict 8 b0) } with
     |some outs=>if outs.all (fun o=>s7 o.2.length (U6 bs lim.strict 8 b0)) then some (outs.map fun o=>ou { s with H:=o.2++s.H.drop (U6 bs lim.strict 8 b0),p6:= .below (U6 bs lim.strict 8 b0)::s.p6 } k o.1) else none
     |none=>none
    |1=>match sem s.B f args (s.H.take (U6 bs lim.strict 8 b0)) ⟨0,U6 bs lim.strict 8 b0,U6 bs lim.strict 8 b0,pZ bs lim.strict (U6 bs lim.strict 8 b0)⟩ with
     |some outs=>if outs.all (fun o=>s7 o.2.length (U6 bs lim.strict 8 b0)) then some (outs.map fun o=>ou s k o.1) else none
     |none=>none
    |_=>match (args.headD .any).X5 with
     |some m=>match sem s.B f args (s.H.take (U6 bs lim.strict 8 b0)) (lim.nG m (U6 bs lim.strict 8 b0) (U6 bs lim.strict 8 b0) (pZ bs lim.strict (U6 bs lim.strict 8 b0))) with
      |some outs=>if outs.all (fun o=>s7 o.2.length (U6 bs lim.strict 8 b0))&&D9 m (U6 bs lim.strict 8 b0) then some (outs.map fun o=>ou { s with H:=o.2.take m++s.H.drop m,p6:= .below m::s.p6 } k o.1) else none
      |none=>none
     |none=>none
   else none
  |_,_=>none
def one {α:Type}:Option α->Option (List α)
 |some a=>some [a]
 |none=>none
def ao3 (lim:F2)(entry:Nat)(l6:List p9)(u5:Option Nat)(k:Nat)(s:SS):z6->Option (List SS)
 | .alloc zero=>some [ou (tG s u5 (.cells none (zero.map WW))) k (.ptr (jW s u5) 0)]
 | .box x=>match (bS s.T s.L x).cells? with
  |some l=>some [ou (tG s u5 (.cells (bS s.T s.L x).tag l)) k (.ptr (jW s u5) 0)]
  |none=>none
 | .A2 sz len zero parts true=>match Ay (zero.map WW) (parts.map fun (o,t,x)=>(o,t,bS s.T s.L x)) with
  |some cs=>if Nat.blt 0 sz&&s7 cs.length (len * sz) then some [ou (tG s u5 (.cells none cs)) k (.B6 (jW s u5) sz 0 len)] else none
  |none=>none
 | .store n a x=>one (FO lim k n s x (bS s.T s.L a))
 | .append sz bytes ob x y=>match bS s.T s.L x with
  | .B6 id z lo len=>if s7 z sz then one (ye lim entry k sz bytes s id lo len (bS s.T s.L y)) else none
  | .d _=>one (pT lim l6 u5 k sz bytes ob s x (bS s.T s.L y))
  | .P5=>one (pT lim l6 u5 k sz bytes ob s x (bS s.T s.L y))
  |_=>none
 | .call f xs=>UW A sem lim k f (xs.map (bS s.T s.L)) s
 |_=>none
end
section
variable {C:Ctx} {vs:List Nat} {s:SS} {st:F4} {A:Prog} {sem:Sem} (fG:gR C A sem)
theorem y5.aj4 {σ:u9->SV}{ρ:u9->j3}(h:∀ x,(σ x).g C vs (ρ x)):∀ xs:List u9,y5.g C vs (xs.map σ) (xs.map ρ)
 |[]=>by simp [y5.g]
 |x::xs=>by exact ⟨_,_,rfl,h x,y5.aj4 h xs⟩
def XI:∀ {x:List SV} {v:List j3},y5.g C vs x v->(x.headD .any).g C vs (v.headD .any)
 |[],_,h=>by simp_all [y5.g,SV.g]
 |x::xs,_,h=>by grind [y5.g]
include fG
def YD (hs:s.g C vs st){l:F2}{b k:Nat}{f:FuncId}{args:List SV}{as:List j3}(ha:y5.g C vs args as){outs:List SS}(h:UW A sem l k f args s=some outs) :
  ∃ st' N,(∃ o,o ∈ outs/\o.g C vs st')/\∀ n,N<=n->D7 (N7 A n l b) k f as st=some st' :=by
 have hs' :=hs;obtain ⟨hT,hH,hL,ht,hB⟩:=hs;have hlen:=K2.len hH;unfold UW at h;split at h
 .split at h
  .rename_i os hos
   split at h
   .rename_i hall
    cases h;obtain ⟨v,H1,⟨o,o1,o2,o3⟩,N,hN⟩:=fG _ _ _ _ _ _ hos vs hB _ _ ha hH;have hl:=k9 (L1.1 hall o o1);have mK:=K2.len o3;refine ⟨_,N,⟨_,L6.2 ⟨o,o1,rfl⟩,cB (s:={ s with H:=o.2,p6:= .below o.2.length::s.p6 }) (st:={ st with H:=H1,p6:= .below H1.length::st.p6 }) ⟨hT,o3,hL,by simp_all,hB⟩ k o2⟩,fun n hn=> ?_⟩;simp_all [N7,D7,if_true,if_pos]
   .cases h
  .cases h
 .have gI:A.prom f=false:=by simp_all
  split at h
  .rename_i bs b0 Nk hb0
   have e1:=Es Nk hH;have e2:=y5.cD hb0 ha;have e3:E9 st.H l.strict 8 (B8 as)=U6 bs l.strict 8 b0:=by rw [uF,e1,e2]
   have e4:∀ n,D8 st.H l.strict n=pZ bs l.strict n:=fun n=>by rw [My,e1]
   generalize WO:U6 bs l.strict 8 b0=n0 at h;rw [WO] at e3;split at h
   .rename_i hc
    simp only [c9,Nat.ble_eq] at hc;have uu:R7 ((st.H.take n0).drop l.strict)<=n0:=by simp_all [oT]
    have hle:n0<=st.H.length:=by omega
    have hHt:=K2.take hH n0;have hHd:=K2.drop hH n0;split at h
    .rename_i hm
     split at h
     .rename_i os hos
      split at h
      .rename_i hall
       cases h;obtain ⟨v,H1,⟨o,o1,o2,o3⟩,N,hN⟩:=fG _ _ _ _ _ _ hos vs hB _ _ ha hHt;have hl:=j7 (L1.1 hall o o1);have mK:=K2.len o3;refine ⟨_,N,⟨_,L6.2 ⟨o,o1,rfl⟩,cB (s:={ s with H:=o.2++s.H.drop n0,p6:= .below n0::s.p6 }) (st:={ st with H:=H1++st.H.drop n0,p6:= .below n0::st.p6 }) ⟨hT,K2.app o3 hHd,hL,by simp_all,hB⟩ k o2⟩,fun n hn=> ?_⟩;exact nj (E:=N7 A n l b) gI hm e3 hle uu rfl (by simp_all [N7]) (by omega)
      .cases h
     .cases h
    .rename_i hm
     split at h
     .rename_i os hos
      split at h
      .rename_i hall
       cases h;obtain ⟨v,H1,⟨o,o1,o2,o3⟩,N,hN⟩:=fG _ _ _ _ _ _ hos vs hB _ _ ha hHt;have hl:=j7 (L1.1 hall o o1);have mK:=K2.len o3;refine ⟨_,N,⟨_,L6.2 ⟨o,o1,rfl⟩,cB hs' k o2⟩,fun n hn=> ?_⟩;exact sC (E:=N7 A n l b) gI hm e3 hle uu rfl (by rw [show (N7 A n l b).lim=l from rfl,e4];exact hN n hn) (by omega)
      .cases h
     .cases h
    .split at h
     .rename_i m hmm
      split at h
      .rename_i os hos
       split at h
       .rename_i hall
        simp only [c9,Nat.ble_eq] at hall;cases h;obtain ⟨v,H1,⟨o,o1,o2,o3⟩,N,hN⟩:=fG _ _ _ _ _ _ hos vs hB _ _ ha hHt;have hl:=j7 (L1.1 hall.1 o o1);have mK:=K2.len o3;have hm2:=SV.cD hmm (XI ha);refine ⟨_,N,⟨_,L6.2 ⟨o,o1,rfl⟩,cB (s:={ s with H:=o.2.take m++s.H.drop m,p6:= .below m::s.p6 }) (st:={ st with H:=H1.take m++st.H.drop m,p6:= .below m::st.p6 }) ⟨hT,K2.app (K2.take o3 m) (K2.drop hH m),hL,by simp_all,hB⟩ k o2⟩,fun n hn=> ?_⟩;simp_all [N7,D7,j5,if_false,if_pos]
       .cases h
      .cases h
     .cases h
   .cases h
  .cases h
def ao4 (hs:s.g C vs st){l:F2}{b:Nat}{l6:List p9}{u5:Option Nat}{k:Nat}{op:z6}{outs:List SS}(h:ao3 A sem l b l6 u5 k s op=some outs) :
  ∃ st' N,(∃ o,o ∈ outs/\o.g C vs st')/\∀ n,N<=n->E7 (N7 A n l b) l6 u5 k st op=some st' :=by
 have hr:=SS.G9 hs;cases op<;>simp only [ao3,reduceCtorEq] at h
 case alloc zero =>
  cases h;obtain ⟨n1,n2⟩:=FG hs (u5:=u5) (o:= .cells none (zero.map WW)) (o' := .cells zero) ⟨zero,rfl,Af zero,fun k h=>by cases h⟩;exact ⟨_,0,⟨_,s6.2 rfl,cB n1 k (v:= .ptr (jW s u5) 0) (a:= .ptr (newId st u5) 0) (by grind [SV.g])⟩,fun n _=>rfl⟩
 case box x =>
  split at h
  .rename_i cl hl
   cases h;obtain ⟨cs,h1,h2,h3⟩:=SV.xQ (hr x) hl;obtain ⟨n1,n2⟩:=FG hs (u5:=u5) (o:= .cells (bS s.T s.L x).tag cl) (o' := .cells cs) ⟨cs,rfl,h2,h3⟩;exact ⟨_,0,⟨_,s6.2 rfl,cB n1 k (v:= .ptr (jW s u5) 0) (a:= .ptr (newId st u5) 0) (by grind [SV.g])⟩,fun n _=>by grind [E7]⟩
  .cases h
 case A2 sz len zero parts ob =>
  cases ob<;>simp [reduceCtorEq] at h;split at h
  .rename_i cs hcs
   split at h
   .cases h
    obtain ⟨ds,h1,h2⟩:=yg (tr hr parts) (Af zero) hcs;have hl:=y5.len h2;obtain ⟨n1,n2⟩:=FG hs (u5:=u5) (o:= .cells none cs) (o' := .cells ds) ⟨ds,rfl,h2,fun k h=>by cases h⟩;refine ⟨_,0,⟨_,s6.2 rfl,cB n1 k (v:= .B6 (jW s u5) sz 0 len) (a:= .B6 (newId st u5) sz 0 len) (by grind [SV.g])⟩,fun n _=> ?_⟩;simp_all [E7,if_pos]
   .cases h
  .cases h
 case store n a x =>
  cases e:FO l k n s x (bS s.T s.L a) with
  |none=>rw [e] at h;cases h
  |some s' =>
   rw [e] at h;cases h;obtain ⟨st',h1,h2⟩:=Vo (E:=N7 A 0 l b) hs (hr a) e;exact ⟨st',0,⟨_,s6.2 rfl,h2⟩,fun n _=>h1⟩
 case append sz bytes ob x y =>
  have hx:=hr x;split at h
  .rename_i id z lo len e
   rw [e] at hx;split at h
   .rename_i hz
    have hz:=j7 hz;cases e2:ye l b k sz bytes s id lo len (bS s.T s.L y) with
    |none=>rw [e2] at h;cases h
    |some s' =>
     rw [e2] at h;cases h;obtain ⟨st',h1,h2⟩:=Rp (E:=N7 A 0 l b) hs (hr y) e2;refine ⟨st',0,⟨_,s6.2 rfl,h2⟩,fun n _=> ?_⟩;simp only [E7,mq hx];rw [if_pos hz];exact h1
   .cases h
  .rename_i x' e
   rw [e] at hx;obtain ⟨d,e3,_⟩:=aP hx;cases e2:pT l l6 u5 k sz bytes ob s x (bS s.T s.L y) with
   |none=>rw [e2] at h;cases h
   |some s' =>
    rw [e2] at h;cases h;obtain ⟨st',h1,h2⟩:=Dt (E:=N7 A 0 l b) hs (hr y) e2;refine ⟨st',0,⟨_,s6.2 rfl,h2⟩,fun n _=> ?_⟩;simp [E7,e3];exact h1
  .rename_i e
   rw [e] at hx;simp [SV.g] at hx;cases e2:pT l l6 u5 k sz bytes ob s x (bS s.T s.L y) with
   |none=>rw [e2] at h;cases h
   |some s' =>
    rw [e2] at h;cases h;obtain ⟨st',h1,h2⟩:=Dt (E:=N7 A 0 l b) hs (hr y) e2;refine ⟨st',0,⟨_,s6.2 rfl,h2⟩,fun n _=> ?_⟩;simp [E7,hx];exact h1
  .cases h
 case call f xs =>
  obtain ⟨st',N,h1,h2⟩:=YD fG (b:=b) hs (y5.aj4 hr xs) h;exact ⟨st',N,h1,fun n hn=>by simp_all [E7]⟩
end
def tu (B:jh)(c:SB)(t:Bool):Option jh:=match c with
 | .uv=>some B
 | .cmp i n pol=>match B[i]? with
  |some (lo,hi)=>if t==pol then (if D9 (max lo (n+1)) hi then some (B.set i (max lo (n+1),hi)) else none)
    else (if D9 lo (min hi n) then some (B.set i (lo,min hi n)) else none)
  |none=>some B
def Dm {vs:List Nat}{B:jh}(hB:Bg vs B){c:SB}{t:Bool}(h:c.g vs t):∃ B',tu B c t=some B' /\Bg vs B' :=by
 cases c with
 |uv=>exact ⟨B,rfl,hB⟩
 |cmp i n pol =>
  obtain ⟨m,h1,h2⟩:=h;simp only [tu];split
  .rename_i lo hi hi0
   obtain ⟨m',e1,e2,e3⟩:=hB.2 _ _ _ hi0;rw [h1] at e1;have key:∀ lo' hi',lo' <=m->m<=hi' ->Bg vs (B.set i (lo',hi')):=by
    intro lo' hi' g1 g2;refine ⟨by simp [hB.1],fun j a b hj=> ?_⟩;rw [List.getElem?_set] at hj;split at hj
    .simp_all
    .exact hB.2 _ _ _ hj
   by_cases hp:(t==pol)=true
   .simp_all<;>grind
   simp_all<;>grind
  simp_all
def EP (s:SS)(j:Nat)(c:SB)(t:Bool):List SS:=match tu s.B c t with
 |some B' =>[{ s with L:=s.L.set j (.d (.lit (.bool t))),B:=B' }]
 |none=>[]
def GZ (s:SS)(j:Nat):List SS:=match s.L[j]? with
 |some (.d x)=>match x.bool? with
  |some (.u c)=>EP s j c true++EP s j c false
  |_=>[s]
 |_=>[s]
def nP (k:IntKind)(lo:Int):Nat->List SV
 |0=>[]
 |n+1=> .d (.lit (.int k lo))::nP k (lo+1) n
def Td (s:SS)(j:Nat):List SS:=match s.L[j]? with
 |some (.d x)=>match x.int? s.B with
  |some (k,lo,hi,_)=>(nP k lo (hi - lo+1).toNat).map fun v=>{ s with L:=s.L.set j v }
  |none=>[s]
 |_=>[s]
def ES (s:SS)(i lo:Nat):Nat->List SS
 |0=>[]
 |n+1=>{ s with B:=s.B.set i (lo,lo) }::ES s i (lo+1) n
def Te (s:SS)(i:Nat):List SS:=match s.B[i]? with
 |some (lo,hi)=>ES s i lo (hi+1 - lo)
 |none=>[s]
section
variable {C:Ctx} {vs:List Nat} {s:SS} {st:F4}
def Ni (hs:s.g C vs st)(j:Nat):∃ s',s' ∈ GZ s j/\s'.g C vs st:=by
 have hs' :=hs;obtain ⟨hT,hH,hL,ht,hB⟩:=hs;unfold GZ;split
 .rename_i x e
  split
  .rename_i c hc
   obtain ⟨a,h1,h2⟩:=y5.get hL e;obtain ⟨d,rfl,h3⟩:=aP h2;obtain ⟨t,rfl,h4⟩:=SD.eu hc h3;obtain ⟨B',h5,h6⟩:=Dm hB h4;have key:(EP s j c t)=[{ s with L:=s.L.set j (.d (.lit (.bool t))),B:=B' }]:=by grind [EP]
   have hL2:y5.g C vs (s.L.set j (.d (.lit (.bool t)))) st.L:=by
    have:=y5.set hL j (a:= .d (.lit (.bool t))) (b:= .d (.bool t)) (bZ (by rfl));simp_all [Z3]
   refine ⟨{ s with L:=s.L.set j (.d (.lit (.bool t))),B:=B' },?_,hT,hH,hL2,ht,h6⟩;cases t with
   |true=>simp_all
   |false=>simp_all
  simp_all
 simp_all
theorem lV {k:IntKind}:∀ (n:Nat) (lo m:Int),lo<=m->m<lo+n->SV.d (.lit (.int k m)) ∈ nP k lo n
 |0,lo,m,h1,h2=>by omega
 |n+1,lo,m,h1,h2=>by
  simp [nP,y7]
  by_cases h:m=lo
  .simp_all
  .exact .inr (lV n (lo+1) m (by omega) (by omega))
def Xs (hs:s.g C vs st)(j:Nat):∃ s',s' ∈ Td s j/\s'.g C vs st:=by
 have hs' :=hs;obtain ⟨hT,hH,hL,ht,hB⟩:=hs;unfold Td;split
 .rename_i x e
  split
  .rename_i k lo hi r hc
   obtain ⟨a,h1,h2⟩:=y5.get hL e;obtain ⟨d,rfl,h3⟩:=aP h2;obtain ⟨m,rfl,h4,h5,_⟩:=SD.iT hB hc h3;refine ⟨_,L6.2 ⟨_,lV _ lo m h4 (by omega),rfl⟩,hT,hH,?_,ht,hB⟩;have:=y5.set hL j (a:= .d (.lit (.int k m))) (b:= .d (.int k m)) (bZ (by rfl));simp_all [Z3]
  simp_all
 simp_all
theorem zy {i:Nat}:∀ (n lo m:Nat),lo<=m->m<lo+n->{ s with B:=s.B.set i (m,m) } ∈ ES s i lo n
 |0,lo,m,h1,h2=>by omega
 |n+1,lo,m,h1,h2=>by
  simp [ES,y7]
  by_cases h:m=lo
  .simp_all
  .exact .inr (zy n (lo+1) m (by omega) (by omega))
def Xt (hs:s.g C vs st)(i:Nat):∃ s',s' ∈ Te s i/\s'.g C vs st:=by
 have hs' :=hs;obtain ⟨hT,hH,hL,ht,hB⟩:=hs;unfold Te;split
 .rename_i lo hi e
  obtain ⟨m,h1,h2,h3⟩:=hB.2 _ _ _ e;refine ⟨_,zy _ lo m h2 (by omega),hT,hH,hL,ht,by simp [hB.1],fun j a b hj=> ?_⟩;rw [List.getElem?_set] at hj;split at hj
  .grind
  .exact hB.2 _ _ _ hj
 simp_all
end
def kK (n:Nat):SD->Option (SD×(Nat×Nat))
 | .slice none lo hi row=>if Nat.blt lo hi then some (.slice (some n) lo hi row,(lo,hi)) else none
 | .pr k x=>match kK n x with
  |some (y,p)=>some (.pr k y,p)
  |none=>none
 |_=>none
theorem xY {C:Ctx}{vs:List Nat}:∀ {x y:SD} {p:Nat×Nat} {d:Data},kK vs.length x=some (y,p)->x.g C vs d->∃ m,p.1<=m/\m<=p.2/\y.g C (vs++[m]) d
 | .slice v lo hi row,y,p,d,h,hg=>by
  cases v<;>simp only [kK,reduceCtorEq] at h;split at h
  .obtain ⟨rfl,rfl⟩:=h
   obtain ⟨rows,rfl,h1,h2,h3,h4⟩:=hg;refine ⟨rows.length,h1,h2,?_⟩
   grind [SD.g,K7.P3,Le.app]
  .cases h
 | .pr k x,y,p,d,h,hg=>by
  simp [kK] at h;split at h
  .rename_i y' p' e
   obtain ⟨m,h1,h2,h3⟩:=xY e hg.2
   grind [SD.g]
  .cases h
 | .top,_,_,_,h,_=>by simp [kK] at h
 | .lit _,_,_,_,h,_=>by simp [kK] at h
 | .bool _,_,_,_,h,_=>by simp [kK] at h
 | .int ..,_,_,_,h,_=>by simp [kK] at h
 | .anyI _,_,_,_,h,_=>by simp [kK] at h
 | .str _,_,_,_,h,_=>by simp [kK] at h
def HU (n:Nat):SV->Option (SV×(Nat×Nat))
 | .d x=>match kK n x with
  |some (y,p)=>some (.d y,p)
  |none=>none
 | .own z x=>match kK n x with
  |some (y,p)=>some (.own z y,p)
  |none=>none
 | .q x=>match kK n x with
  |some (y,p)=>some (.q y,p)
  |none=>none
 |_=>none
def Fg {C:Ctx}{vs:List Nat}{x y:SV}{p:Nat×Nat}{v:j3}(h:HU vs.length x=some (y,p))(hg:x.g C vs v):∃ m,p.1<=m/\m<=p.2/\y.g C (vs++[m]) v:=by
 cases x<;>simp [HU,reduceCtorEq] at h
 .grind [Option.some.injEq,Prod.mk.injEq,aP,xY,bZ]
 .grind [Option.some.injEq,Prod.mk.injEq,rR,xY,SV.g]
 grind [Option.some.injEq,Prod.mk.injEq,SV.g,xY]
def Ub (s:SS)(k:Nat):SS:=match s.L[k]? with
 |some v=>match HU s.B.length v with
  |some (w,p)=>{ s with L:=s.L.set k w,B:=s.B++[p] }
  |none=>s
 |none=>s
def Ua (s:SS)(id off:Nat):SS:=match s.H[id]? with
 |some (.cells p l)=>match l[off]? with
  |some v=>match HU s.B.length v with
   |some (w,q)=>{ s with H:=s.H.set id (.cells p (l.set off w)),B:=s.B++[q] }
   |none=>s
  |none=>s
 |_=>s
section
variable {C:Ctx} {vs:List Nat} {s:SS} {st:F4}
theorem Bg.add {B:jh}(hB:Bg vs B){p:Nat×Nat}{m:Nat}(h1:p.1<=m)(h2:m<=p.2):Bg (vs++[m]) (B++[p]):=by
 refine ⟨by simp [hB.1],fun i a b h=> ?_⟩
 rcases s5 i B.length with hi|hi
 .rw [q7 hi] at h
  obtain ⟨q,e1,e2⟩:=hB.2 _ _ _ h
  grind
 .rw [p7 hi] at h
  cases e:i - B.length with
  |zero =>
   rw [e] at h;simp at h;have hb:=hB.1;simp_all [p7]
  |succ q=>simp_all
theorem SS.mono {ws:List Nat}(hl:Le vs ws)(hs:s.g C vs st):y5.g C ws s.T st.T/\K2.g C ws s.H st.H/\y5.g C ws s.L st.L :=
 ⟨y5.P3 hl _ hs.1,K2.P3 hl _ hs.2.1,y5.P3 hl _ hs.2.2.1⟩
def Ya (hs:s.g C vs st)(k:Nat):∃ ws,Le vs ws/\(Ub s k).g C ws st:=by
 unfold Ub;split
 .rename_i v e
  split
  .rename_i w p hn
   rw [<- hs.2.2.2.2.1] at hn;obtain ⟨a,h1,h2⟩:=y5.get hs.2.2.1 e;obtain ⟨m,h3,h4,h5⟩:=Fg hn h2;obtain ⟨g1,g2,g3⟩:=SS.mono (Le.app vs [m]) hs;refine ⟨vs++[m],Le.app _ _,g1,g2,?_,hs.2.2.2.1,hs.2.2.2.2.add h3 h4⟩;have:=y5.set g3 k h5;simp_all [Z3]
  grind [Le.refl]
 grind [Le.refl]
def XZ (hs:s.g C vs st)(id off:Nat):∃ ws,Le vs ws/\(Ua s id off).g C ws st:=by
 unfold Ua;split
 .rename_i p l e
  split
  .rename_i v e2
   split
   .rename_i w q hn
    rw [<- hs.2.2.2.2.1] at hn;obtain ⟨o,h1,h2⟩:=K2.get hs.2.1 e;obtain ⟨cs,rfl,h3,h4⟩:=h2;obtain ⟨a,h5,h6⟩:=y5.get h3 e2;obtain ⟨m,h7,h8,h9⟩:=Fg hn h6;obtain ⟨g1,g2,g3⟩:=SS.mono (Le.app vs [m]) hs;refine ⟨vs++[m],Le.app _ _,g1,?_,g3,hs.2.2.2.1,hs.2.2.2.2.add h7 h8⟩;have e3:SO.g C (vs++[m]) (.cells p (l.set off w)) (.cells cs):=by
     refine ⟨cs,rfl,?_,h4⟩;have:=y5.set (y5.P3 (Le.app vs [m]) _ h3) off h9;simp_all [Z3]
    have:=K2.set g2 id e3;simp_all [Z3]
   grind [Le.refl]
  grind [Le.refl]
 grind [Le.refl]
end
inductive Fk where
 |no
 |b (j:Nat)
 |i (j:Nat)
 |l (i:Nat)
def ZO (B:jh):SV->Fk
 | .d z=>match z.rP B with
  |some (some i,lo,hi)=>if Nat.blt lo hi then .l i else .no
  |_=> .no
 |_=> .no
def aB0 (s:SS):z6->Fk
 | .pick (.loc j) _ _=> .b j
 | .C8 sz x (.loc j)=>match bS s.T s.L x with
  | .B6 .. =>if s7 sz 7 then .no else .i j
  |_=> .no
 | .append _ _ ob x y=>if ob then ZO s.B (bS s.T s.L y) else match bS s.T s.L x with
  | .B6 .. =>ZO s.B (bS s.T s.L y)
  |_=> .no
 |_=> .no
def Tf (s:SS)(op:z6):List SS:=match aB0 s op with
 | .no=>[s]
 | .b j=>GZ s j
 | .i j=>Td s j
 | .l i=>Te s i
def al9 (s:SS):z6->SS
 | .load none x=>match bS s.T s.L x with
  | .ptr id off=>Ua s id off
  |_=>s
 |_=>s
def FT (L:List SV):Option (Nat×Bool)->Option Bool
 |none=>some true
 |some (j,want)=>match L[j]? with
  |some (.d x)=>match x.bool? with
   |some (.t b)=>some (b==want)
   |_=>none
  |some (.tuple [])=>some false
  |_=>none
def kQ (u5:Option Nat)(s:SS)(k:Nat):Option Nat->Option SS
 |none=>some s
 |some t=>match u5 with
  |none=>if Nat.blt t s.T.length then some { (bC s (.loc k)).2 with T:=s.T.set t (bC s (.loc k)).1,p6:= .slot t::s.p6 } else none
  |some _=>if Nat.blt t s.T.length&&Ho s.p6 t then some { (bC s (.loc k)).2 with T:=s.T.set t (bC s (.loc k)).1 } else none
section
variable (A:Prog) (sem:Sem) (lim:F2) (entry:Nat) (l6:List p9) (u5:Option Nat) (k:Nat)
def Ms (op:z6)(s:SS):Option (List (SS×List Nat)) :=
 if op.E3 then match ao3 A sem lim entry l6 u5 k s op with
  |some outs=>some (outs.map fun o=>(o,[]))
  |none=>none
 else match op with
  | .R2 x=>some [(ou (bC s x).2 k (bC s x).1,[])]
  |op=>match AG (bS s.T s.L) s.H s.B op with
   |some (v,rs)=>some [(ou s k v,rs)]
   |none=>none
def aH6 (dst:Option Nat)(o:SS×List Nat):Option (List (SS×List Nat)):=match kQ u5 (Ub o.1 k) k dst with
 |some s' =>some [(s',o.2)]
 |none=>none
def sdo (i:p9)(s:SS):Option (List (SS×List Nat)):=match Ms A sem lim entry l6 u5 k i.op (al9 s i.op) with
 |some outs=>iH (aH6 u5 k i.dst) outs
 |none=>none
def Vm (i:p9)(s:SS):Option (List (SS×List Nat)):=match FT s.L i.guard with
 |some true=>iH (sdo A sem lim entry l6 u5 k i) (Tf s i.op)
 |some false=>match kQ u5 (ou s k (.tuple [])) k i.dst with
  |some s' =>some [(s',[])]
  |none=>none
 |none=>none
def Vl (i:p9)(s:SS):Option (List (SS×List Nat)):=iH (Vm A sem lim entry l6 u5 k i) (match i.guard with
 |some (j,_)=>GZ s j
 |none=>[s])
end
section
variable {C:Ctx} {vs:List Nat} {s:SS} {st:F4} {A:Prog} {sem:Sem}
def Xu (hs:s.g C vs st)(op:z6):∃ s',s' ∈ Tf s op/\s'.g C vs st:=by
 unfold Tf;split
 all_goals simp_all [s6,Ni,Xs,Xt]
def am0 (hs:s.g C vs st)(op:z6):∃ ws,Le vs ws/\(al9 s op).g C ws st:=by
 unfold al9;split
 .split
  .exact XZ hs _ _
  grind [Le.refl]
 grind [Le.refl]
def DE (hs:s.g C vs st){gd:Option (Nat×Bool)}{t:Bool}(h:FT s.L gd=some t):z7 st.L gd=some t:=by
 cases gd with
 |none=>exact h
 |some p =>
  simp [FT] at h;split at h
  .rename_i x e
   obtain ⟨a,h1,h2⟩:=y5.get hs.2.2.1 e
   grind [aP,SD.eu,z7]
  .rename_i e
   obtain ⟨a,h1,h2⟩:=y5.get hs.2.2.1 e;simp_all [SV.g,y5.g,z7]
  .cases h
def DD (hs:s.g C vs st){u5:Option Nat}{k:Nat}{dst:Option Nat}{s' :SS}(h:kQ u5 s k dst=some s'):∃ st',u7 u5 st k dst=some st' /\s'.g C vs st' :=by
 cases dst with
 |none=>simp [kQ,Option.some.injEq] at h;subst h;exact ⟨st,by cases u5<;>rfl,hs⟩
 |some t =>
  have hlen:=y5.len hs.1;obtain ⟨hv,hT,hH,hL,ht,hB⟩:=yp hs (.loc k);cases u5 with
  |none =>
   simp only [kQ] at h;split at h
   .cases h
    refine ⟨{ (E1 st (.loc k)).2 with T:=st.T.set t (E1 st (.loc k)).1,p6:= .slot t::st.p6 },?_,y5.set hs.1 t hv,hH,hL,congrArg (Touch.slot t::·) hs.2.2.2.1,hB⟩;simp_all [u7,G4,if_pos]
   .cases h
  |some q =>
   simp only [kQ] at h;split at h
   .rename_i hc
    simp [c9] at hc;have mJ:=hc.2;unfold Ho at mJ;rw [<- hs.2.2.2.1] at mJ;cases h;refine ⟨{ (E1 st (.loc k)).2 with T:=st.T.set t (E1 st (.loc k)).1 },?_,y5.set hs.1 t hv,hH,hL,ht,hB⟩;simp_all [u7,W7,if_pos,Bool.and_true,decide_eq_true_eq]
   .cases h
variable (fG:gR C A sem)
include fG
def Vn (hs:s.g C vs st){l:F2}{b:Nat}{l6:List p9}{u5:Option Nat}{k:Nat}{op:z6}{outs:List (SS×List Nat)}(h:Ms A sem l b l6 u5 k op s=some outs) :
  ∃ st' rs N,(∃ o,o ∈ outs/\o.2=rs/\o.1.g C vs st')/\∀ n,N<=n->E5 (N7 A n l b) l6 u5 k op st=some (st',rs):=by
 unfold Ms at h;split at h
 .split at h
  .rename_i os hos
   cases h;obtain ⟨st',N,⟨o,h1,h2⟩,h3⟩:=ao4 fG (b:=b) hs hos;exact ⟨st',[],N,⟨_,L6.2 ⟨o,h1,rfl⟩,rfl,h2⟩,fun n hn=>by simp_all [E5,if_true]⟩
  .cases h
 .have he:op.E3=false:=by simp_all
  split at h
  .rename_i x _
   cases h;obtain ⟨h1,h2⟩:=yp hs x;exact ⟨_,[],0,⟨_,s6.2 rfl,rfl,cB h2 k h1⟩,fun n _=>by rfl⟩
  .split at h
   .rename_i v rs hp
    cases h;obtain ⟨r,h1,h2⟩:=YP hs.2.2.2.2 (SS.G9 hs) hs.2.1 hp;refine ⟨_,rs,0,⟨_,s6.2 rfl,rfl,cB hs k h2⟩,fun n _=> ?_⟩;simp_all [E5,j5,if_false,absurd]
   .cases h
def aH3 (hs:s.g C vs st){l:F2}{b:Nat}{l6:List p9}{u5:Option Nat}{k:Nat}{i:p9}{outs:List (SS×List Nat)}(hw:z7 st.L i.guard=some true)(h:sdo A sem l b l6 u5 k i s=some outs) :
  ∃ st' rs N,(∃ o,o ∈ outs/\o.2=rs/\∃ ws,Le vs ws/\o.1.g C ws st')/\∀ n,N<=n->y8 (N7 A n l b) l6 u5 k i st=some (st',rs):=by
 unfold sdo at h;split at h
 .rename_i os hos
  obtain ⟨ws,l1,h1⟩:=am0 hs i.op;obtain ⟨st1,rs,N,⟨o,o1,o2,o3⟩,h2⟩:=Vn fG h1 hos;obtain ⟨x,hx,hm⟩:=X2 h o o1;unfold aH6 at hx;split at hx
  .rename_i s' hs'
   cases hx;obtain ⟨ws2,l2,h3⟩:=Ya o3 k;obtain ⟨st2,h4,h5⟩:=DD h3 hs';refine ⟨st2,rs,N,⟨_,hm _ (s6.2 rfl),o2,ws2,l1.trans l2,h5⟩,fun n hn=> ?_⟩;simp_all [y8]
  .cases hx
 .cases h
def Oc (hs:s.g C vs st){l:F2}{b:Nat}{l6:List p9}{u5:Option Nat}{k:Nat}{i:p9}{outs:List (SS×List Nat)}(h:Vl A sem l b l6 u5 k i s=some outs) :
  ∃ st' rs N,(∃ o,o ∈ outs/\o.2=rs/\∃ ws,Le vs ws/\o.1.g C ws st')/\∀ n,N<=n->y8 (N7 A n l b) l6 u5 k i st=some (st',rs):=by
 obtain ⟨s1,m1,g1⟩:∃ s',s' ∈ (match i.guard with|some (j,_)=>GZ s j|none=>[s])/\s'.g C vs st:=by
  split
  all_goals simp_all [Ni,s6]
 obtain ⟨x,hx,hm⟩:=X2 h s1 m1;unfold Vm at hx;split at hx
 .rename_i hw
  have hw:=DE g1 hw;obtain ⟨s2,m2,g2⟩:=Xu g1 i.op;obtain ⟨y,hy,hm2⟩:=X2 hx s2 m2;obtain ⟨st',rs,N,⟨o,o1,o2,o3⟩,h3⟩:=aH3 fG g2 hw hy;exact ⟨st',rs,N,⟨o,hm _ (hm2 _ o1),o2,o3⟩,h3⟩
 .rename_i hw
  have hw:=DE g1 hw;split at hx
  .rename_i s' hs'
   cases hx;obtain ⟨st2,h4,h5⟩:=DD (cB g1 k (v:= .tuple []) (a:= .tuple []) (by simp_all [SV.g,y5.g])) hs';exact ⟨st2,[],0,⟨_,hm _ (s6.2 rfl),rfl,vs,Le.refl _,h5⟩,fun n _=>by simp_all [y8]⟩
  .cases hx
 .cases hx
end
section
variable (A:Prog) (sem:Sem) (lim:F2) (entry:Nat) (l6:List p9)
def tJ:List p9->Nat->SS->Option (List SS)
 |[],_,s=>some [s]
 |i::is,k,s=>match Vl A sem lim entry l6 none k i s with
  |some outs=>iH (fun o=>tJ is (k+1) o.1) outs
  |none=>none
def Vk (s:SS):z6->Option Nat
 | .call f xs=>if A.prom f then some s.H.length else match yM s.H,y5.X5 (xs.map (bS s.T s.L)) with
  |some bs,some b0=>some (U6 bs lim.strict 8 b0)
  |_,_=>none
 | .aD _ _=>none
 |_=>some 0
def NY (s:SS):z6->Bool
 | .append _ _ _ x _=>match bS s.T s.L x with
  | .d _=>false
  | .P5=>false
  |_=>true
 |_=>false
def NW (s:SS)(op:z6)(a:p9):Bool:=match op,a.op with
 | .append _ _ _ x _,.R2 (.slot t)=>a.dst.isNone&&a.guard.isNone&&(match bS s.T s.L x,s.T[t]? with
  | .B6 id _ _ _,some (.ptr j _)=> !s7 j id
  |_,_=>false)
 |_,_=>false
def IT:List p9->Nat->Nat->SS->Option (List (SS×List kg))
 |[],_,_,s=>some [(s,[])]
 |i::is,k,na,s=>if NY s i.op&&l6.any (fun a=>a.bT.contains k&& !NW s i.op a) then none else match Vk A lim s i.op with
  |some Fz=>match Vl A sem lim entry l6 (if i.op.B4 then some na else none) k i s with
   |some outs=>iH (fun o=>match IT is (k+1) (if i.op.B4 then na+1 else na) o.1 with
    |some rs=>some (rs.map fun r=>(r.1,⟨o.2,lZ (if i.op.B4 then some na else none)++o.1.p6.take (o.1.p6.length - s.p6.length),Fz,(if i.op.B4 then some na else none).getD 0⟩::r.2))
    |none=>none) outs
   |none=>none
  |none=>none
def yj (draw:Bool)(T:List SV)(H:List SO)(B:jh):Option (List SS) :=
 if draw then match IT A sem lim entry l6 l6 0 H.length ⟨T,H++(l6.filter (·.op.B4)).map (fun _=> .dead),j4 l6.length .any,slotsOf l6,B⟩ with
  |some outs=>if outs.all (fun o=>wu l6 o.2) then some (outs.map (·.1)) else none
  |none=>none
 else tJ A sem lim entry l6 l6 0 ⟨T,H,j4 l6.length .any,[],B⟩
end
section
variable {C:Ctx} {A:Prog} {sem:Sem} (fG:gR C A sem)
theorem Ep {vs:List Nat}:∀ n,y5.g C vs (j4 n .any) (j4 n .any)
 |0=>by simp [y5.g]
 |n+1=>by exact ⟨_,_,rfl,rfl,Ep n⟩
theorem MZ {vs:List Nat}:∀ l:List p9,K2.g C vs (l.map fun _=> .dead) (l.map fun _=> .dead)
 |[]=>by simp [K2.g]
 |_::l=>by exact ⟨_,_,rfl,rfl,MZ l⟩
include fG
theorem DA {l:F2}{b:Nat}{l6:List p9}:∀ (ops:List p9) (k:Nat) {vs:List Nat} {s:SS} {st:F4} {outs:List SS},s.g C vs st->tJ A sem l b l6 ops k s=some outs ->
  ∃ r N,(∃ o,o ∈ outs/\∃ ws,Le vs ws/\o.g C ws r)/\∀ n,N<=n->eG (N7 A n l b) l6 ops k st=some r
 |[],k,vs,s,st,outs,hs,h=>by
  simp [tJ,Option.some.injEq] at h;subst h;exact ⟨st,0,⟨s,s6.2 rfl,vs,Le.refl _,hs⟩,fun _ _=>rfl⟩
 |i::is,k,vs,s,st,outs,hs,h=>by
  simp [tJ] at h;split at h
  .rename_i os hos
   obtain ⟨st',rs,N,⟨o,o1,o2,ws,l1,o3⟩,h1⟩:=Oc fG hs hos;obtain ⟨x,hx,hm⟩:=X2 h o o1;obtain ⟨r,N2,⟨o',p1,ws2,l2,p2⟩,h2⟩:=DA is (k+1) o3 hx;refine ⟨r,max N N2,⟨o',hm _ p1,ws2,l1.trans l2,p2⟩,fun n hn=> ?_⟩
   grind [eG]
  .cases h
omit fG in
def YR {l:F2}{b n:Nat}{vs:List Nat}{s:SS}{st:F4}(hs:s.g C vs st){op:z6}{m:Nat}(h:Vk A l s op=some m):K6 (N7 A n l b) st op=m:=by
 unfold Vk at h;split at h
 .rename_i f xs
  have gI:(N7 A n l b).prom f=A.prom f:=rfl;have hlim:(N7 A n l b).lim=l:=rfl;split at h
  .rename_i hp
   cases h;simp [K6,gI,hp];exact K2.len hs.2.1
  .rename_i hp
   split at h
   .rename_i bs b0 Nk hb0
    cases h;simp [K6,gI];rw [if_neg hp,hlim,uF,Es Nk hs.2.1,y5.cD hb0 (y5.aj4 (SS.G9 hs) xs)]
   .cases h
 .cases h
 .cases h
  cases op<;>first
   |rfl
   |simp_all
   |simp_all
omit fG in
def YK {vs:List Nat}{s:SS}{st:F4}(hs:s.g C vs st){op:z6}(h:¬ NY s op=true):G8 st op=false:=by
 unfold NY at h;split at h
 .rename_i sz bytes ob x y
  have hx:=SS.G9 hs x
  grind [aP,G8,SV.g,absurd]
 .cases op<;>first
   |rfl
   |grind
omit fG in
def YE {vs:List Nat}{s:SS}{st:F4}(hs:s.g C vs st){op:z6}{a:p9}(h:NW s op a=true):calm st op a=true:=by
 unfold NW at h;unfold calm;split at h
 .rename_i sz Sj ob x y t ho
  simp only [c9] at h;simp only [ho,h.1.1,h.1.2,Bool.true_and];have h3:=h.2;split at h3
  .rename_i id z lo n j o e1 e2
   have hx:=SS.G9 hs x;rw [e1] at hx;simp only [SV.g] at hx;obtain ⟨v,g1,g2⟩:=y5.get hs.1 e2;rw [bu g2] at g1;simp only [hx,g1,h3]
  .cases h3
 .cases h
theorem Ob {l:F2}{b:Nat}{l6:List p9}:∀ (ops:List p9) (k na:Nat) {vs:List Nat} {s:SS} {st:F4} {outs:List (SS×List kg)},s.g C vs st->IT A sem l b l6 ops k na s=some outs ->
  ∃ r lg N,(∃ o,o ∈ outs/\o.2=lg/\∃ ws,Le vs ws/\o.1.g C ws r)/\∀ n,N<=n->R9 (N7 A n l b) l6 ops k na st=some (r,lg)
 |[],k,na,vs,s,st,outs,hs,h=>by
  simp only [IT,Option.some.injEq] at h;subst h;exact ⟨st,[],0,⟨_,s6.2 rfl,rfl,vs,Le.refl _,hs⟩,fun _ _=>rfl⟩
 |i::is,k,na,vs,s,st,outs,hs,h=>by
  simp only [IT] at h;split at h
  .cases h
  .rename_i hk
   have hk:(G8 st i.op&&l6.any (fun a=>a.bT.contains k&& !calm st i.op a))=false:=by
    cases hu:NY s i.op with
    |false=>rw [YK hs (by simp [hu])];rfl
    |true =>
     rw [hu,Bool.true_and] at hk;have h0:(l6.any fun a=>a.bT.contains k&& !calm st i.op a)=false:=by
      rw [List.any_eq_false];intro a ha hc;simp only [c9,o8] at hc;refine hk (List.any_eq_true.2 ⟨a,ha,?_⟩);simp only [hc.1,Bool.true_and,o8];cases hs' :NW s i.op a with
      |false=>rfl
      |true=>rw [YE hs hs'] at hc;cases hc.2
     rw [h0,Bool.and_false]
   split at h
   .rename_i Fz TB
    split at h
    .rename_i os hos
     obtain ⟨st',rs,N,⟨o,o1,o2,ws,l1,o3⟩,h1⟩:=Oc fG hs hos;obtain ⟨x,hx,hm⟩:=X2 h o o1;split at hx
     .rename_i rr hrr
      cases hx;obtain ⟨r,lg,N2,⟨o',p1,p2,ws2,l2,p3⟩,h2⟩:=Ob is (k+1) _ o3 hrr;refine ⟨r,_,max N N2,⟨_,hm _ (L6.2 ⟨o',p1,rfl⟩),rfl,ws2,l1.trans l2,p3⟩,fun n hn=> ?_⟩;have hg3:=o3.2.2.2.1;simp only [R9,jD,hk,j5,if_false,h1 n (by omega),h2 n (by omega),dN,YR hs TB,o2,p2,hg3,hs.2.2.2.1]
     .cases hx
    .cases h
   .cases h
def Dz {l:F2}{b:Nat}{l6:List p9}{draw:Bool}{vs:List Nat}{T:List SV}{H:List SO}{B:jh}{T' :List j3}{H' :q8}{outs:List SS}(hT:y5.g C vs T T')(hH:K2.g C vs H H')(hB:Bg vs B)(h:yj A sem l b l6 draw T H B=some outs) :
  Rn A l b l6 draw T' H' fun T2 H2 L2=>∃ o,o ∈ outs/\∃ ws,Le vs ws/\y5.g C ws o.T T2/\K2.g C ws o.H H2/\y5.g C ws o.L L2/\Bg ws o.B:=by
 unfold yj at h;split at h
 .split at h
  .rename_i os hos
   split at h
   .cases h
    have hlen:=K2.len hH;obtain ⟨r,lg,N,⟨o,o1,o2,ws,l1,o3⟩,h1⟩:=Ob fG l6 0 H.length (st:=⟨T',H' ++aB l6,j4 l6.length .any,slotsOf l6⟩) ⟨hT,K2.app hH (MZ _),Ep _,rfl,hB⟩ hos;refine ⟨r,N,⟨o.1,L6.2 ⟨o,o1,rfl⟩,ws,l1,o3.1,o3.2.1,o3.2.2.1,o3.2.2.2.2⟩,fun n hn=> ?_⟩
    grind [Q5]
   .cases h
  .cases h
 .obtain ⟨r,N,⟨o,o1,ws,l1,o3⟩,h1⟩:=DA fG l6 0 (st:=⟨T',H',j4 l6.length .any,[]⟩) ⟨hT,hH,Ep _,rfl,hB⟩ h
  refine ⟨r,N,⟨o,o1,ws,l1,o3.1,o3.2.1,o3.2.2.1,o3.2.2.2.2⟩,fun n hn=> ?_⟩;simp_all [Q5,if_neg]
end
structure CS where
 T:List SV
 H:List SO
 B:jh
def CS.g (C:Ctx)(vs:List Nat)(s:CS)(st:St):Prop:=y5.g C vs s.T st.T/\K2.g C vs s.H st.H/\Bg vs s.B
def Vv:Option Nat->Option Nat->Option Nat
 |some i,some j=>if s7 i j then some i else none
 |_,_=>none
def Jb:Option Nat->Option Nat->Bool
 |some i,some j=>s7 i j
 |none,none=>true
 |_,_=>false
def SD.mark:SD->Option Nat
 | .pr k _=>some k
 |_=>none
mutual
def SV.join:SV->SV->Option SV
 | .any,y=>match y with
  | .any=>some .any
  |_=>some .top
 | .top,_=>some .top
 | .d x,y=>match y with
  | .d y=>if Jb x.mark y.mark then some (.d (x.join y)) else none
  | .own _ y=>some (.q (x.join y))
  | .q y=>some (.q (x.join y))
  | .any=>some .top
  | .top=>some .top
  |_=>none
 | .own z x,y=>match y with
  | .own z' y=>if s7 z z' then some (.own z (x.join y)) else none
  | .d y=>some (.q (x.join y))
  | .q y=>some (.q (x.join y))
  | .any=>some .top
  | .top=>some .top
  |_=>none
 | .q x,y=>match y with
  | .own _ y=>some (.q (x.join y))
  | .d y=>some (.q (x.join y))
  | .q y=>some (.q (x.join y))
  | .any=>some .top
  | .top=>some .top
  |_=>none
 | .P5,y=>match y with
  | .P5=>some .P5
  | .any=>some .top
  | .top=>some .top
  |_=>none
 | .ptr i o,y=>match y with
  | .ptr i' o' =>if s7 i i' &&s7 o o' then some (.ptr i o) else none
  | .any=>some .top
  | .top=>some .top
  |_=>none
 | .S9 _,_=>some .top
 | .wp i l z c,y=>match y with
  | .wp i' l' z' c' =>if s7 i i' &&s7 l l' &&s7 z z' &&s7 c c' then some (.wp i l z c) else none
  | .any=>some .top
  | .top=>some .top
  |_=>none
 | .B6 i z l n,y=>match y with
  | .B6 i' z' l' n' =>if s7 i i' &&s7 z z' &&s7 l l' &&s7 n n' then some (.B6 i z l n) else none
  | .any=>some .top
  | .top=>some .top
  |_=>none
 | .agg p l,y=>match y with
  | .agg p' l' =>match y5.join l l' with
   |some r=>some (.agg (Vv p p') r)
   |none=>none
  | .any=>some .top
  | .top=>some .top
  |_=>none
 | .tuple l,y=>match y with
  | .tuple l' =>match y5.join l l' with
   |some r=>some (.tuple r)
   |none=>none
  | .any=>some .top
  | .top=>some .top
  |_=>none
 | .bn k,y=>match y with
  | .bn k' =>if s7 k k' then some (.bn k) else none
  | .any=>some .top
  | .top=>some .top
  |_=>none
def y5.join:List SV->List SV->Option (List SV)
 |[],ys=>match ys with
  |[]=>some []
  |_=>none
 |x::xs,ys=>match ys with
  |y::ys=>match x.join y,y5.join xs ys with
   |some a,some r=>some (a::r)
   |_,_=>none
  |[]=>none
end
def SO.join:SO->SO->Option SO
 | .dead,.dead=>some .dead
 | .cells p l,.cells p' l' =>if Jb p p' then match y5.join l l' with
   |some r=>some (.cells p r)
   |none=>none
  else none
 | .pr k,.pr k' =>if s7 k k' then some (.pr k) else none
 | .bn k,.bn k' =>if s7 k k' then some (.bn k) else none
 | .Rb k b,.Rb k' b' =>if s7 k k' &&s7 b b' then some (.Rb k b) else none
 |_,_=>none
def K2.join:List SO->List SO->Option (List SO)
 |[],[]=>some []
 |x::xs,y::ys=>match x.join y,K2.join xs ys with
  |some a,some r=>some (a::r)
  |_,_=>none
 |_,_=>none
def Lu (a b:Nat×Nat):Nat×Nat:=(min a.1 b.1,max a.2 b.2)
def RW (B1 B2:jh):Option jh:=if (B1.drop B2.length++B2.drop B1.length).all (fun p=>D9 p.1 p.2) then some (List.zipWith Lu B1 B2++(B1.drop B2.length++B2.drop B1.length)) else none
def gT (kp:List Nat)(s t:CS):Bool:=kp.all fun j=>match s.T[j]?,t.T[j]? with
 |some (.d (.lit (.int _ a))),some (.d (.lit (.int _ b)))=>decide (a=b)
 |_,_=>true
def CS.join (kp:List Nat)(s t:CS):Option CS:=if gT kp s t then match y5.join s.T t.T,K2.join s.H t.H,RW s.B t.B with
 |some T,some H,some B=>some ⟨T,H,B⟩
 |_,_,_=>none
 else none
def TH (kp:List Nat)(s:CS):List CS->List CS
 |[]=>[s]
 |t::r=>match CS.join kp t s with
  |some u=>u::r
  |none=>t::TH kp s r
def nY (kp:List Nat):List CS->List CS
 |[]=>[]
 |s::r=>TH kp s (nY kp r)
section
variable {C:Ctx} {vs:List Nat}
def Fs {x:SV}{v:j3}(h:x.g C vs v){y:SD}(hx:x.data? =some y:=by rfl):∃ d,v.I7= .d d/\y.g C vs d:=by
 cases x<;>simp [SV.data?,reduceCtorEq,Option.some.injEq] at hx<;>subst hx<;>simp [SV.g] at h
 .obtain ⟨d,rfl,h2⟩:=h;exact ⟨d,rfl,h2⟩
 .obtain ⟨a,b,rfl,h2⟩:=h;exact ⟨_,rfl,h2⟩
 .subst h;exact ⟨_,rfl,by simp [SD.g]⟩
 .exact h
def Fq {x:SD}{v:j3}{d:Data}(h0:v.I7= .d d)(h:x.g C vs d):(SV.q x).g C vs v:=by simp_all [SV.g]
def ap6 {p q:Option Nat}{k:Nat}(h:Vv p q=some k):p=some k:=by
 simp_all [Vv]<;>grind
def ap7 {p q:Option Nat}{k:Nat}(h:Vv p q=some k):q=some k:=by
 simp_all [Vv]<;>grind
theorem Jc {p q:Option Nat}(h:Jb p q=true):p=q:=by
 unfold Jb at h
 grind [j7]
mutual
theorem SV.T0:∀ (x y:SV) {z:SV} {v:j3},x.join y=some z->x.g C vs v->z.g C vs v
 | .any,y,z,_,h,hg=>by
  cases y<;>simp only [SV.join,Option.some.injEq] at h<;>subst h<;>first|exact hg|simp [SV.g]
 | .top,y,z,_,h,hg=>by simp only [SV.join,Option.some.injEq] at h;subst h;exact hg
 | .d x,y,z,_,h,hg=>by
  cases y<;>simp only [SV.join,Option.some.injEq,reduceCtorEq] at h<;>(try split at h)<;>first
   |(cases h;simp [SV.g];done)
   |(cases h;obtain ⟨d,rfl,h1⟩:=aP hg;exact bZ (SD.T0 _ _ h1))
   |(cases h;obtain ⟨d,h0,h1⟩:=Fs hg;exact Fq h0 (SD.T0 _ _ h1))
   |(cases h;done)
 | .q x,y,z,_,h,hg=>by
  cases y<;>simp only [SV.join,Option.some.injEq,reduceCtorEq] at h<;>subst h<;>first
   |(simp [SV.g];done)
   |(obtain ⟨d,h0,h1⟩:=Fs hg;exact Fq h0 (SD.T0 _ _ h1))
 | .own w x,y,z,_,h,hg=>by
  cases y<;>simp only [SV.join,Option.some.injEq,reduceCtorEq] at h
  .subst h;simp [SV.g]
  .subst h;simp [SV.g]
  .subst h;obtain ⟨d,h0,h1⟩:=Fs hg;exact Fq h0 (SD.T0 _ _ h1)
  .split at h
   .cases h
    obtain ⟨len,cells,rfl,h1⟩:=rR hg;simp only [SV.g];exact ⟨_,_,rfl,SD.T0 _ _ h1⟩
   .cases h
  .subst h;obtain ⟨d,h0,h1⟩:=Fs hg;exact Fq h0 (SD.T0 _ _ h1)
 | .P5,y,z,_,h,hg=>by
  cases y<;>simp only [SV.join,Option.some.injEq,reduceCtorEq] at h<;>subst h<;>first|exact hg|simp [SV.g]
 | .ptr i o,y,z,_,h,hg=>by
  cases y<;>simp only [SV.join,Option.some.injEq,reduceCtorEq] at h
  .subst h;simp [SV.g]
  .subst h;simp [SV.g]
  .split at h
   .cases h;exact hg
   .cases h
 | .wp i l w c,y,z,_,h,hg=>by
  cases y<;>simp only [SV.join,Option.some.injEq,reduceCtorEq] at h
  .subst h;simp [SV.g]
  .subst h;simp [SV.g]
  .split at h
   .cases h;exact hg
   .cases h
 | .S9 _,y,z,_,h,hg=>by simp only [SV.join,Option.some.injEq] at h;subst h;simp [SV.g]
 | .B6 i w l n,y,z,_,h,hg=>by
  cases y<;>simp only [SV.join,Option.some.injEq,reduceCtorEq] at h
  .subst h;simp [SV.g]
  .subst h;simp [SV.g]
  .split at h
   .cases h;exact hg
   .cases h
 | .agg p l,y,z,_,h,hg=>by
  cases y<;>simp only [SV.join,Option.some.injEq,reduceCtorEq] at h
  .subst h;simp [SV.g]
  .subst h;simp [SV.g]
  .split at h
   .rename_i r hr
    cases h;simp only [SV.g] at hg ⊢;obtain ⟨cs,rfl,h1,h2⟩:=hg;exact ⟨cs,rfl,y5.T0 _ _ hr h1,fun k hk=>h2 k (ap6 hk)⟩
   .cases h
 | .tuple l,y,z,_,h,hg=>by
  cases y<;>simp only [SV.join,Option.some.injEq,reduceCtorEq] at h
  .subst h;simp [SV.g]
  .subst h;simp [SV.g]
  .split at h
   .rename_i r hr
    cases h;simp only [SV.g] at hg ⊢;obtain ⟨cs,rfl,h1⟩:=hg;exact ⟨cs,rfl,y5.T0 _ _ hr h1⟩
   .cases h
 | .bn k,y,z,_,h,hg=>by
  cases y<;>simp only [SV.join,Option.some.injEq,reduceCtorEq] at h
  .subst h;simp [SV.g]
  .subst h;simp [SV.g]
  .split at h
   .rename_i e
    have e:=j7 e;subst e;cases h;exact hg
   .cases h
theorem y5.T0:∀ (x y:List SV) {z:List SV} {v:List j3},y5.join x y=some z->y5.g C vs x v->y5.g C vs z v
 |[],y,z,_,h,hg=>by cases y<;>simp only [y5.join,Option.some.injEq,reduceCtorEq] at h;subst h;exact hg
 |x::xs,y,z,_,h,hg=>by
  cases y<;>simp only [y5.join,reduceCtorEq] at h;split at h
  .rename_i a r ha hr
   cases h;simp only [y5.g] at hg ⊢;obtain ⟨d,ds,rfl,h1,h2⟩:=hg;exact ⟨d,ds,rfl,SV.T0 _ _ ha h1,y5.T0 _ _ hr h2⟩
  .cases h
end
mutual
theorem SV.T1:∀ (x y:SV) {z:SV} {v:j3},x.join y=some z->y.g C vs v->z.g C vs v
 | .any,y,z,_,h,hg=>by
  cases y<;>simp only [SV.join,Option.some.injEq] at h<;>subst h<;>first|exact hg|simp [SV.g]
 | .top,y,z,_,h,hg=>by simp only [SV.join,Option.some.injEq] at h;subst h;simp [SV.g]
 | .d x,y,z,_,h,hg=>by
  cases y<;>simp only [SV.join,Option.some.injEq,reduceCtorEq] at h<;>(try split at h)<;>first
   |(cases h;simp [SV.g];done)
   |(cases h;obtain ⟨d,rfl,h1⟩:=aP hg;exact bZ (SD.T1 _ _ h1))
   |(cases h;obtain ⟨d,h0,h1⟩:=Fs hg;exact Fq h0 (SD.T1 _ _ h1))
   |(cases h;done)
 | .q x,y,z,_,h,hg=>by
  cases y<;>simp only [SV.join,Option.some.injEq,reduceCtorEq] at h<;>subst h<;>first
   |(simp [SV.g];done)
   |(obtain ⟨d,h0,h1⟩:=Fs hg;exact Fq h0 (SD.T1 _ _ h1))
 | .own w x,y,z,_,h,hg=>by
  cases y<;>simp only [SV.join,Option.some.injEq,reduceCtorEq] at h
  .subst h;simp [SV.g]
  .subst h;simp [SV.g]
  .subst h;obtain ⟨d,h0,h1⟩:=Fs hg;exact Fq h0 (SD.T1 _ _ h1)
  .split at h
   .rename_i e
    have e:=j7 e;subst e;cases h;obtain ⟨len,cells,rfl,h1⟩:=rR hg;simp only [SV.g];exact ⟨_,_,rfl,SD.T1 _ _ h1⟩
   .cases h
  .subst h;obtain ⟨d,h0,h1⟩:=Fs hg;exact Fq h0 (SD.T1 _ _ h1)
 | .P5,y,z,_,h,hg=>by
  cases y<;>simp only [SV.join,Option.some.injEq,reduceCtorEq] at h<;>subst h<;>first|exact hg|simp [SV.g]
 | .ptr i o,y,z,_,h,hg=>by
  cases y<;>simp only [SV.join,Option.some.injEq,reduceCtorEq] at h
  .subst h;simp [SV.g]
  .subst h;simp [SV.g]
  .split at h
   .rename_i e
    simp only [c9] at e;have e1:=j7 e.1;have e2:=j7 e.2;subst e1 e2;cases h;exact hg
   .cases h
 | .wp i l w c,y,z,_,h,hg=>by
  cases y<;>simp only [SV.join,Option.some.injEq,reduceCtorEq] at h
  .subst h;simp [SV.g]
  .subst h;simp [SV.g]
  .split at h
   .rename_i e
    simp only [c9] at e;have e1:=j7 e.1.1.1;have e2:=j7 e.1.1.2;have e3:=j7 e.1.2;have e4:=j7 e.2;subst e1 e2 e3 e4;cases h;exact hg
   .cases h
 | .S9 _,y,z,_,h,hg=>by simp only [SV.join,Option.some.injEq] at h;subst h;simp [SV.g]
 | .B6 i w l n,y,z,_,h,hg=>by
  cases y<;>simp only [SV.join,Option.some.injEq,reduceCtorEq] at h
  .subst h;simp [SV.g]
  .subst h;simp [SV.g]
  .split at h
   .rename_i e
    simp only [c9] at e;have e1:=j7 e.1.1.1;have e2:=j7 e.1.1.2;have e3:=j7 e.1.2;have e4:=j7 e.2;subst e1 e2 e3 e4;cases h;exact hg
   .cases h
 | .agg p l,y,z,_,h,hg=>by
  cases y<;>simp only [SV.join,Option.some.injEq,reduceCtorEq] at h
  .subst h;simp [SV.g]
  .subst h;simp [SV.g]
  .split at h
   .rename_i r hr
    cases h;simp only [SV.g] at hg ⊢;obtain ⟨cs,rfl,h1,h2⟩:=hg;exact ⟨cs,rfl,y5.T1 _ _ hr h1,fun k hk=>h2 k (ap7 hk)⟩
   .cases h
 | .tuple l,y,z,_,h,hg=>by
  cases y<;>simp only [SV.join,Option.some.injEq,reduceCtorEq] at h
  .subst h;simp [SV.g]
  .subst h;simp [SV.g]
  .split at h
   .rename_i r hr
    cases h;simp only [SV.g] at hg ⊢;obtain ⟨cs,rfl,h1⟩:=hg;exact ⟨cs,rfl,y5.T1 _ _ hr h1⟩
   .cases h
 | .bn k,y,z,_,h,hg=>by
  cases y<;>simp only [SV.join,Option.some.injEq,reduceCtorEq] at h
  .subst h;simp [SV.g]
  .subst h;simp [SV.g]
  .split at h
   .rename_i e
    have e:=j7 e;subst e;cases h;exact hg
   .cases h
theorem y5.T1:∀ (x y:List SV) {z:List SV} {v:List j3},y5.join x y=some z->y5.g C vs y v->y5.g C vs z v
 |[],y,z,_,h,hg=>by cases y<;>simp only [y5.join,Option.some.injEq,reduceCtorEq] at h;subst h;exact hg
 |x::xs,y,z,_,h,hg=>by
  cases y<;>simp only [y5.join,reduceCtorEq] at h;split at h
  .rename_i a r ha hr
   cases h;simp only [y5.g] at hg ⊢;obtain ⟨d,ds,rfl,h1,h2⟩:=hg;exact ⟨d,ds,rfl,SV.T1 _ _ ha h1,y5.T1 _ _ hr h2⟩
  .cases h
end
def SO.jQ {x y z:SO}{o:x9}(h:x.join y=some z):(x.g C vs o->z.g C vs o)/\(y.g C vs o->z.g C vs o):=by
 cases x<;>cases y<;>simp only [SO.join,Option.some.injEq,reduceCtorEq] at h
 .subst h;exact ⟨id,id⟩
 .split at h
  .rename_i hp
   have hp:=Jc hp;subst hp;split at h
   .rename_i r hr
    cases h;exact ⟨fun ⟨cs,h1,h2,h3⟩=>⟨cs,h1,y5.T0 _ _ hr h2,h3⟩,fun ⟨cs,h1,h2,h3⟩=>⟨cs,h1,y5.T1 _ _ hr h2,h3⟩⟩
   .cases h
  .cases h
 .split at h
  .rename_i e
   have e:=j7 e;subst e;cases h;exact ⟨id,id⟩
  .cases h
 .split at h
  .rename_i e
   have e:=j7 e;subst e;cases h;exact ⟨id,id⟩
  .cases h
 .split at h
  .rename_i e
   simp only [c9] at e;have e1:=j7 e.1;have e2:=j7 e.2;subst e1 e2;cases h;exact ⟨id,id⟩
  .cases h
theorem K2.jQ:∀ {x y z:List SO} {o:q8},K2.join x y=some z->(K2.g C vs x o->K2.g C vs z o)/\(K2.g C vs y o->K2.g C vs z o)
 |[],[],z,o,h=>by simp_all [K2.join,Option.some.injEq]
 |[],_::_,z,o,h=>by simp [K2.join] at h
 |_::_,[],z,o,h=>by simp [K2.join] at h
 |x::xs,y::ys,z,o,h=>by
  simp [K2.join] at h;split at h
  .rename_i a r ha hr
   cases h;refine ⟨fun hg=> ?_,fun hg=> ?_⟩
   .obtain ⟨d,ds,rfl,h1,h2⟩:=hg
    exact ⟨d,ds,rfl,(SO.jQ ha).1 h1,(K2.jQ hr).1 h2⟩
   .obtain ⟨d,ds,rfl,h1,h2⟩:=hg
    exact ⟨d,ds,rfl,(SO.jQ ha).2 h1,(K2.jQ hr).2 h2⟩
  .cases h
theorem Bg.ad9:∀ (R:jh) {vs:List Nat} {B:jh},Bg vs B->R.all (fun p=>D9 p.1 p.2)=true->∃ ws,Le vs ws/\Bg ws (B++R)
 |[],vs,B,h,_=>⟨vs,Le.refl _,by simpa using h⟩
 |p::R,vs,B,h,hr=>by
  simp only [List.all_cons,c9,Nat.ble_eq] at hr;obtain ⟨ws,h1,h2⟩:=Bg.ad9 R (h.add (p:=p) (m:=p.1) (o5 _) hr.1) hr.2;exact ⟨ws,(Le.app _ _).trans h1,by simp_all⟩
def Ze {B1 B2:jh}{i lo hi:Nat}(h:(List.zipWith Lu B1 B2)[i]? =some (lo,hi)):∃ a b,B1[i]? =some a/\B2[i]? =some b/\lo=min a.1 b.1/\hi=max a.2 b.2:=by
 grind [Option.some.injEq,Lu,Prod.mk.injEq]
theorem Bg.aJ2 {B1 B2:jh}(hB:Bg vs B1):Bg vs (List.zipWith Lu B1 B2++B1.drop B2.length):=by
 refine ⟨by simp [hB.1];omega,fun i lo hi h=> ?_⟩
 rcases s5 i (List.zipWith Lu B1 B2).length with hl|hl
 .rw [q7 hl] at h
  obtain ⟨a,b,h1,h2,h3,h4⟩:=Ze h;obtain ⟨m,e1,e2,e3⟩:=hB.2 i a.1 a.2 h1
  grind
 .rw [p7 hl,List.getElem?_drop] at h
  simp [List.length_zipWith] at h hl
  rcases Nat.le_total B1.length B2.length with hc|hc
  .grind
  .rw [show B2.length+(i - min B1.length B2.length)=i by omega] at h
   exact hB.2 _ _ _ h
def Bg.aJ3 {B1 B2:jh}(hB:Bg vs B2):Bg vs (List.zipWith Lu B1 B2++B2.drop B1.length):=by
 grind [Bg.aJ2,List.zipWith,Lu,List.zipWith_comm,Nat.min_comm,Nat.max_comm]
def ML {B1 B2 B:jh}(h:RW B1 B2=some B):(Bg vs B1->∃ ws,Le vs ws/\Bg ws B)/\(Bg vs B2->∃ ws,Le vs ws/\Bg ws B):=by
 unfold RW at h;split at h
 .rename_i hall
  cases h;rw [List.all_append,c9] at hall;refine ⟨fun hB=> ?_,fun hB=> ?_⟩
  .rw [<- A9]
   exact Bg.ad9 _ hB.aJ2 hall.2
  .rcases Nat.le_total B1.length B2.length with hc|hc
   .rw [show B1.drop B2.length=[] from n5 hc,B9]
    exact ⟨vs,Le.refl _,hB.aJ3⟩
   .have h2:B2.drop B1.length=[]:=n5 hc
    have:=hB.aJ3 (B1:=B1)
    grind [Bg.ad9]
 .cases h
theorem CS.jQ {kp:List Nat}{s t u:CS}{st:St}(h:CS.join kp s t=some u):(s.g C vs st->∃ ws,Le vs ws/\u.g C ws st)/\(t.g C vs st->∃ ws,Le vs ws/\u.g C ws st):=by
 unfold CS.join at h;split at h
 .split at h
  .rename_i T H B hT hH hB
   cases h;refine ⟨fun ⟨h1,h2,h3⟩=> ?_,fun ⟨h1,h2,h3⟩=> ?_⟩
   .obtain ⟨ws,l1,h4⟩:=(ML hB).1 h3
    exact ⟨ws,l1,y5.P3 l1 _ (y5.T0 _ _ hT h1),K2.P3 l1 _ ((K2.jQ hH).1 h2),h4⟩
   .obtain ⟨ws,l1,h4⟩:=(ML hB).2 h3
    exact ⟨ws,l1,y5.P3 l1 _ (y5.T1 _ _ hT h1),K2.P3 l1 _ ((K2.jQ hH).2 h2),h4⟩
  .cases h
 .cases h
theorem Lz {kp:List Nat}{st:St}:∀ (s:CS) (l:List CS),(s.g C vs st->∃ t,t ∈ TH kp s l/\∃ ws,Le vs ws/\t.g C ws st)/\∀ t,t ∈ l->t.g C vs st->∃ u,u ∈ TH kp s l/\∃ ws,Le vs ws/\u.g C ws st
 |s,[]=>⟨fun h=>⟨s,s6.2 rfl,vs,Le.refl _,h⟩,fun t h=>by cases h⟩
 |s,q::r=>by
  simp only [TH];split
  .rename_i u hu
   refine ⟨fun h=> ?_,fun t ht h=> ?_⟩
   .obtain ⟨ws,l1,h1⟩:=(CS.jQ hu).2 h
    grind
   .rcases y7.1 ht with rfl|ht
    .obtain ⟨ws,l1,h1⟩:=(CS.jQ hu).1 h
     grind
    grind [List.mem_cons_of_mem,Le.refl]
  .obtain ⟨h1,h2⟩:=Lz s r
   refine ⟨fun h=> ?_,fun t ht h=> ?_⟩
   .obtain ⟨t,m,h3⟩:=h1 h
    exact ⟨t,List.mem_cons_of_mem _ m,h3⟩
   grind [List.mem_cons_self,Le.refl,List.mem_cons_of_mem]
theorem nZ {kp:List Nat}{st:St}:∀ (l:List CS) {vs:List Nat} {s:CS},s ∈ l->s.g C vs st->∃ t,t ∈ nY kp l/\∃ ws,Le vs ws/\t.g C ws st
 |q::r,vs,s,hm,h=>by
  rcases y7.1 hm with rfl|hm
  .simp_all [Lz,nY]
  .obtain ⟨t,m,ws,l1,h1⟩:=nZ r hm h
   obtain ⟨u,m2,ws2,l2,h2⟩:=(Lz q (nY kp r)).2 t m h1;exact ⟨u,m2,ws2,l1.trans l2,h2⟩
end
def wJ:List Bool->List SV->List SV
 |true::m,v::vs=>v::wJ m vs
 |false::m,_::vs=> .any::wJ m vs
 |[],_::vs=> .any::wJ [] vs
 |_,[]=>[]
def Mh (mask:List Bool)(strict n:Nat)(s:CS):Option CS:=match y5.X5 (wJ mask s.T),yM s.H with
 |some a,some bs=>if D9 a n&&D9 (yJ ((bs.take n).drop strict)) n then some ⟨wJ mask s.T,s.H.take n,s.B⟩ else some ⟨wJ mask s.T,s.H,s.B⟩
 |_,_=>none
def AH:List SV->Nat->Option (Nat×Nat×Nat×Nat×Nat)
 |[],_=>none
 | .B6 id sz lo len::_,i=>some (i,id,sz,lo,len)
 | .top::_,_=>none
 | .bn _::_,_=>none
 |_::r,i=>AH r (i+1)
def sfz (lim:F2)(entry t:Nat)(s:CS):Option CS:=match s.T[t]? with
 |some (.ptr b o)=>if s7 o 0 then match s.H[b]? with
  |some (.cells _ cs)=>match AH cs 0 with
   |some (i,id,sz,lo,len)=>match YQ s.H id lo (len * sz) with
    |some l=>match jB l with
     |some xs=>if D9 lim.base id&&D9 entry id&&lim.may id&&D9 lim.base b&& !(s7 id b)&&s7 xs.length (len * sz) then
       some ⟨y5.kill id s.T,((s.H.take lim.base++(s.H.drop lim.base).map (SO.kill id)).set id .dead).set b (.cells none ((y5.kill id cs).set i (.d (mkSlice sz len xs)))),s.B⟩
      else none
     |none=>none
    |none=>none
   |none=>none
  |_=>none
  else none
 |_=>none
abbrev KF:=List p9->Bool->u9->CS->Option (List CS×List CS)
def Ae:List (F6×CS)->List CS
 |[]=>[]
 |(.normal,s)::r=>s::Ae r
 |_::r=>Ae r
def zo:List (F6×CS)->List (F6×CS)
 |[]=>[]
 |(.normal,_)::r=>zo r
 |x::r=>x::zo r
def unB (id:Nat):List (F6×CS)->List (F6×CS)
 |[]=>[]
 |(.exit i,s)::r=>(if s7 i id then .normal else .exit i,s)::unB id r
 |x::r=>x::unB id r
def IP (kp:List Nat)(body:CS->Option (List (F6×CS)))(mask:List Bool)(strict n:Nat):Nat->List CS->Option (List (F6×CS))
 |0,l=>if l.isEmpty then some [] else none
 |k+1,l=>if l.isEmpty then some [] else
  match iH (fun s=>match Mh mask strict n s with
   |some s' =>body s'
   |none=>none) l with
  |some outs=>match IP kp body mask strict n k (nY kp (Ae outs)) with
   |some r=>some (zo outs++r)
   |none=>none
  |none=>none
def branch (v:SV)(s:CS):Option (List CS×List CS):=match v with
 | .d x=>match x.bool? with
  |some (.t b)=>some (if b then ([s],[]) else ([],[s]))
  |some (.u c)=>some (match tu s.B c true with|some B' =>[{ s with B:=B' }]|none=>[],match tu s.B c false with|some B' =>[{ s with B:=B' }]|none=>[])
  |none=>none
 |_=>none
def sy:List SS->u9->Option (List CS×List CS)
 |[],_=>some ([],[])
 |o::r,c=>match branch (bS o.T o.L c) ⟨o.T,o.H,o.B⟩,sy r c with
  |some (p,q),some (p',q')=>some (p++p',q++q')
  |_,_=>none
section
variable (A:Prog) (sem:Sem) (hook:KF) (kp:List Nat) (lim:F2) (entry fuel:Nat)
def ct:s4->CS->Option (List (F6×CS))
 | .skip,s=>some [(.normal,s)]
 | .region ops draw,s=>match yj A sem lim entry ops draw s.T s.H s.B with
  |some outs=>some (outs.map fun o=>(.normal,⟨o.T,o.H,o.B⟩))
  |none=>none
 | .seq a b,s=>match ct a s with
  |some outs=>match iH (ct b) (nY kp (Ae outs)) with
   |some r=>some (zo outs++r)
   |none=>none
  |none=>none
 | .cond c a b,s=>match branch (bS s.T [] c) s with
  |some (p,q)=>match iH (ct a) p,iH (ct b) q with
   |some x,some y=>some (x++y)
   |_,_=>none
  |none=>none
 | .test ops draw c a b,s=>match (match hook ops draw c s with
   |some pq=>some pq
   |none=>match yj A sem lim entry ops draw s.T s.H s.B with
    |some outs=>sy outs c
    |none=>none) with
  |some (p,q)=>match iH (ct a) (nY kp p),iH (ct b) (nY kp q) with
   |some x,some y=>some (x++y)
   |_,_=>none
  |none=>none
 | .block id body,s=>match ct body s with
  |some outs=>some (unB id outs)
  |none=>none
 | .loop mask body,s=>IP kp (ct body) mask lim.strict s.H.length fuel [s]
 | .exit id,s=>some [(.exit id,s)]
 | .ret,s=>some [(.ret,s)]
 | .fz t,s=>match sfz lim entry t s with
  |some s' =>some [(.normal,s')]
  |none=>none
 | .bad,_=>none
end
def Xa (A:Prog)(l:F2)(b:Nat)(mask:List Bool)(body:s4)(n0:Nat)(st:St)(Q:F6->St->Prop):Prop :=
 ∃ x s N,Q x s/\∀ n,N<=n->∀ j,N<=j->gp (exec (N7 A n l b) n body) mask l.strict n0 j st=some (x,s)
section
variable {A:Prog} {l:F2} {b:Nat}
def Xa.step {mask:List Bool}{body:s4}{n0:Nat}{st:St}{Q:F6->St->Prop}(h:Ex A l b body (clean mask l.strict n0 st) (zA Q fun s' =>Xa A l b mask body n0 s' Q)):Xa A l b mask body n0 st Q:=by
 obtain ⟨x,s1,N,hq,h1⟩:=h;cases x with
 |normal =>
  obtain ⟨x,s2,N2,WR,h2⟩:=hq;refine ⟨x,s2,max N N2+1,WR,fun n hn j hj=> ?_⟩;obtain ⟨j,rfl⟩:∃ j',j=j' +1:=⟨j - 1,by omega⟩
  grind [gp]
 |exit i =>
  refine ⟨_,_,N+1,hq,fun n hn j hj=> ?_⟩;obtain ⟨j,rfl⟩:∃ j',j=j' +1:=⟨j - 1,by omega⟩
  grind [gp]
 |ret =>
  refine ⟨_,_,N+1,hq,fun n hn j hj=> ?_⟩;obtain ⟨j,rfl⟩:∃ j',j=j' +1:=⟨j - 1,by omega⟩
  grind [gp]
def Ex.ofL {mask:List Bool}{body:s4}{st:St}{Q:F6->St->Prop}(h:Xa A l b mask body st.H.length st Q):Ex A l b (.loop mask body) st Q:=by
 obtain ⟨x,s,N,hq,h⟩:=h;exact ⟨x,s,N,hq,fun n hn=>by exact h n hn n hn⟩
theorem Xa.mono {mask:List Bool}{body:s4}{n0:Nat}{st:St}{Q R:F6->St->Prop}(h:Xa A l b mask body n0 st Q)(k:∀ x s,Q x s->R x s):Xa A l b mask body n0 st R:=by
 obtain ⟨x,s,N,hq,h⟩:=h;exact ⟨x,s,N,k x s hq,h⟩
def Ej (C:Ctx)(A:Prog)(l:F2)(b:Nat)(hook:KF):Prop:=∀ ops dr c s p q,hook ops dr c s=some (p,q)->∀ vs T H,CS.g C vs s ⟨T,H⟩ ->
 Rn A l b ops dr T H fun T' H' L=>∃ t,G9 T' L c= .d (.bool t)/\∃ o,o ∈ (if t then p else q)/\∃ ws,Le vs ws/\o.g C ws ⟨T',H'⟩
variable {C:Ctx}
def Post (C:Ctx)(vs:List Nat)(outs:List (F6×CS))(x:F6)(st:St):Prop:=∃ o,o ∈ outs/\o.1=x/\∃ ws,Le vs ws/\o.2.g C ws st
def Post.sub {vs ws:List Nat}{o1 o2:List (F6×CS)}{x:F6}{st:St}(h:Post C ws o1 x st)(hl:Le vs ws)(hs:∀ o,o ∈ o1->o ∈ o2):Post C vs o2 x st:=by
 obtain ⟨o,h1,h2,us,l1,h3⟩:=h;exact ⟨o,hs o h1,h2,us,hl.trans l1,h3⟩
theorem uV:∀ {l:List (F6×CS)} {o:F6×CS},o ∈ l->o.1= .normal->o.2 ∈ Ae l
 |(e,s)::r,o,hm,h=>by
  rcases y7.1 hm with rfl|hm
  .simp_all [Ae]
  .have:=uV hm h
   cases e<;>simp [Ae,this]
theorem kD:∀ {l:List (F6×CS)} {o:F6×CS},o ∈ l->o.1≠ .normal->o ∈ zo l
 |(e,s)::r,o,hm,h=>by
  rcases y7.1 hm with rfl|hm
  .simp_all [zo]
  .have:=kD hm h
   cases e<;>simp [zo,this]
theorem Oi {id:Nat}:∀ {l:List (F6×CS)} {o:F6×CS},o ∈ l->(match o.1 with| .exit i=>if i=id then (F6.normal,o.2) else (F6.exit i,o.2)|x=>(x,o.2)) ∈ unB id l
 |(e,s)::r,o,hm=>by
  rcases y7.1 hm with rfl|hm
  .cases e with
   |exit i =>
    simp_all [unB]<;>grind
   |normal=>simp [unB]
   |ret=>simp [unB]
  .have:=Oi (id:=id) hm
   cases e<;>simp [unB,y7]<;>exact .inr this
theorem yh {vs:List Nat}:∀ (m:List Bool) {x:List SV} {v:List j3},y5.g C vs x v->y5.g C vs (wJ m x) (V8 m v)
 |m,[],_,h=>by simp_all [y5.g,wJ,V8]
 |[],x::xs,_,h=>by
  obtain ⟨d,ds,rfl,h1,h2⟩:=h;exact ⟨_,_,rfl,rfl,yh [] h2⟩
 |true::m,x::xs,_,h=>by
  obtain ⟨d,ds,rfl,h1,h2⟩:=h;exact ⟨_,_,rfl,h1,yh m h2⟩
 |false::m,x::xs,_,h=>by
  obtain ⟨d,ds,rfl,h1,h2⟩:=h;exact ⟨_,_,rfl,rfl,yh m h2⟩
def UX {vs:List Nat}{s s' :CS}{st:St}{mask:List Bool}{strict n:Nat}(hs:s.g C vs st)(h:Mh mask strict n s=some s'):s'.g C vs (clean mask strict n st):=by
 obtain ⟨hT,hH,hB⟩:=hs;have hm:=yh mask hT;unfold Mh at h;split at h
 .rename_i a bs ha Nk
  have e1:=y5.cD ha hm;have e2:=Es Nk hH;split at h
  .rename_i hc
   simp [c9,Nat.ble_eq] at hc;cases h;unfold clean;rw [if_pos ⟨by omega,by simp_all [oT]⟩];exact ⟨hm,K2.take hH n,hB⟩
  .cases h
   unfold clean;rw [if_neg (by simp_all [oT])];exact ⟨hm,hH,hB⟩
 .cases h
theorem bQ {vs:List Nat}:∀ {x:List SV} {v:List j3} {k:Nat} {r:Nat×Nat×Nat×Nat×Nat},y5.g C vs x v->AH x k=some r->dQ v k=some r
 |[],_,_,_,_,h=>by simp [AH] at h
 |x::xs,_,k,r,hg,h=>by
  simp only [y5.g] at hg;obtain ⟨d,ds,rfl,h1,h2⟩:=hg;cases x<;>simp only [AH,reduceCtorEq] at h<;>simp only [SV.g] at h1
  .subst h1;simp only [dQ];exact bQ h2 h
  .obtain ⟨_,rfl,_⟩:=h1;simp only [dQ];exact bQ h2 h
  .obtain ⟨_,_,rfl,_⟩:=h1;simp only [dQ];exact bQ h2 h
  .subst h1;simp only [dQ];exact bQ h2 h
  .subst h1;simp only [dQ];exact bQ h2 h
  .obtain ⟨_,_,rfl,_⟩:=h1;simp only [dQ];exact bQ h2 h
  .subst h1;simp only [dQ];exact h
  .obtain ⟨_,rfl,_⟩:=h1;simp only [dQ];exact bQ h2 h
  .obtain ⟨_,rfl,_⟩:=h1;simp only [dQ];exact bQ h2 h
  .obtain ⟨_,h0,_⟩:=h1;cases d<;>simp only [j3.I7,reduceCtorEq] at h0<;>simp only [dQ]<;>exact bQ h2 h
  .obtain ⟨_,_,rfl⟩:=h1;simp only [dQ];exact bQ h2 h
def aH7 {vs:List Nat}{s s' :CS}{st:St}{entry t:Nat}(hs:s.g C vs st)(h:sfz l entry t s=some s'):∃ st',nJ l entry t st=some st' /\s'.g C vs st' :=by
 obtain ⟨hT,hH,hB⟩:=hs;unfold sfz at h;split at h
 .rename_i b' o e
  obtain ⟨a,h1,h2⟩:=y5.get hT e;have h2:=bu h2;subst h2;split at h
  .rename_i ho
   have ho:=j7 ho;subst ho;split at h
   .rename_i p cs e2
    obtain ⟨o,h3,h4⟩:=K2.get hH e2;obtain ⟨ds,rfl,h5,_⟩:=h4;split at h
    .rename_i i id sz lo len hr
     have hr:=bQ h5 hr;split at h
     .rename_i l' hl
      obtain ⟨us,h6,h7⟩:=Dy hH hl;split at h
      .rename_i xs hxs
       obtain ⟨ys,h8,h9⟩:=oq h7 hxs;split at h
       .rename_i hc
        simp only [c9,Nat.ble_eq,o8] at hc;obtain ⟨⟨⟨⟨⟨c1,c2⟩,c3⟩,c4⟩,c5⟩,c6⟩:=hc;have c6:=j7 c6;have c5:id≠b' :=fun e=>by rw [e] at c5;simp at c5
        cases h;refine ⟨⟨N4 id st.T,((st.H.take l.base++(st.H.drop l.base).map (x9.kill id)).set id .dead).set b' (.cells ((N4 id ds).set i (.d (.slice len ys))))⟩,?_,y5.eA id hT,K2.set (K2.set (K2.app (K2.take hH _) (K2.map (fun _ _=>SO.eA id) (K2.drop hH _))) id (a:= .dead) (b:= .dead) rfl) b' (a:= .cells none ((y5.kill id cs).set i (.d (mkSlice sz len xs)))) (b:= .cells ((N4 id ds).set i (.d (.slice len ys)))) ⟨_,rfl,y5.set (y5.eA id h5) i (bZ (pF c6 h9)),fun k h=>by cases h⟩,hB⟩;simp only [nJ,vU,h1,h3,hr,h6,h8];rw [if_pos ⟨c1,c2,c3,c4,c5⟩]
       .cases h
      .cases h
     .cases h
    .cases h
   .cases h
  .cases h
 .cases h
def Gy {vs:List Nat}{v:SV}{a:j3}{s:CS}{st:St}{p q:List CS}(hv:v.g C vs a)(hs:s.g C vs st)(h:branch v s=some (p,q)):∃ t,a= .d (.bool t)/\∃ o,o ∈ (if t then p else q)/\o.g C vs st:=by
 unfold branch at h;split at h
 .obtain ⟨d,rfl,h1⟩:=aP hv
  split at h
  .grind [SD.eu,Option.some.injEq]
  .rename_i c hc
   obtain ⟨t,rfl,h2⟩:=SD.eu hc h1;obtain ⟨B',h3,h4⟩:=Dm hs.2.2 h2;refine ⟨t,rfl,{ s with B:=B' },?_,hs.1,hs.2.1,h4⟩
   grind
  .cases h
 .cases h
theorem sA:∀ {outs:List SS} {c:u9} {p q:List CS},sy outs c=some (p,q)->∀ o,o ∈ outs->∃ p' q',branch (bS o.T o.L c) ⟨o.T,o.H,o.B⟩=some (p',q')/\(∀ x,x ∈ p' ->x ∈ p)/\∀ x,x ∈ q' ->x ∈ q
 |o::r,c,p,q,h,o',hm=>by
  simp [sy] at h;split at h
  .rename_i p1 q1 p2 q2 h1 h2
   rcases y7.1 hm with rfl|hm
   .grind
   .obtain ⟨p',q',h3,h4,h5⟩:=sA h2 o' hm
    grind
  .cases h
variable {sem:Sem} (fG:gR C A sem) {hook:KF} (Hl:Ej C A l b hook) {kp:List Nat} {fuel:Nat}
omit fG Hl in
theorem NZ {body:s4}{sb:CS->Option (List (F6×CS))}(hb:∀ {vs s st outs},CS.g C vs s st->sb s=some outs->Ex A l b body st (Post C vs outs)){mask:List Bool}{n0:Nat} :
  ∀ (k:Nat) {L:List CS} {vs:List Nat} {s:CS} {st:St} {outs:List (F6×CS)},s ∈ L->s.g C vs st->IP kp sb mask l.strict n0 k L=some outs->Xa A l b mask body n0 st (Post C vs outs)
 |0,L,vs,s,st,outs,hm,hs,h=>by
  simp_all [IP]
 |k+1,L,vs,s,st,outs,hm,hs,h=>by
  have hne:L.isEmpty=false:=by grind
  simp [IP,hne,j5,if_false] at h;split at h
  .rename_i os hos
   split at h
   .rename_i r hr
    cases h;obtain ⟨x,hx,hmx⟩:=X2 hos s hm;split at hx
    .rename_i s' hs'
     refine Xa.step ((hb (UX hs hs') hx).mono ?_);rintro e st' ⟨o,o1,rfl,ws,l1,o3⟩;cases he:o.1 with
     |normal =>
      obtain ⟨t,t1,us,l2,t2⟩:=nZ _ (uV (hmx o o1) he) o3;exact (NZ hb k t1 t2 hr).mono fun e Vp hp=>hp.sub (l1.trans l2) fun o h=>List.mem_append_right _ h
     |exit i=>exact ⟨o,M1 _ (kD (hmx o o1) (by rw [he];simp)),he,ws,l1,o3⟩
     |ret=>exact ⟨o,M1 _ (kD (hmx o o1) (by rw [he];simp)),he,ws,l1,o3⟩
    .cases hx
   .cases h
  .cases h
include fG Hl
theorem fU:∀ (c:s4) {vs:List Nat} {s:CS} {st:St} {outs:List (F6×CS)},s.g C vs st->ct A sem hook kp l b fuel c s=some outs->Ex A l b c st (Post C vs outs)
 | .skip,vs,s,st,outs,hs,h=>by
  simp only [ct,Option.some.injEq] at h;subst h;exact Ex.skip ⟨_,s6.2 rfl,rfl,vs,Le.refl _,hs⟩
 | .exit id,vs,s,st,outs,hs,h=>by
  simp only [ct,Option.some.injEq] at h;subst h;exact Ex.exit ⟨_,s6.2 rfl,rfl,vs,Le.refl _,hs⟩
 | .ret,vs,s,st,outs,hs,h=>by
  simp only [ct,Option.some.injEq] at h;subst h;exact Ex.ret ⟨_,s6.2 rfl,rfl,vs,Le.refl _,hs⟩
 | .bad,vs,s,st,outs,hs,h=>by simp [ct] at h
 | .region ops draw,vs,s,st,outs,hs,h=>by
  simp only [ct] at h;split at h
  .rename_i os hos
   cases h;obtain ⟨r,N,⟨o,o1,ws,l1,g1,g2,g3,g4⟩,hr⟩:=Dz fG hs.1 hs.2.1 hs.2.2 hos;exact Ex.region ⟨r,N,⟨_,L6.2 ⟨o,o1,rfl⟩,rfl,ws,l1,g1,g2,g4⟩,hr⟩
  .cases h
 | .seq a c,vs,s,st,outs,hs,h=>by
  simp only [ct] at h;split at h
  .rename_i os hos
   split at h
   .rename_i r hr
    cases h;refine Ex.seq ((fU a hs hos).mono ?_);rintro e st' ⟨o,o1,rfl,ws,l1,o3⟩;cases he:o.1 with
    |normal =>
     obtain ⟨t,t1,us,l2,t2⟩:=nZ _ (uV o1 he) o3;obtain ⟨x,hx,hmx⟩:=X2 hr t t1;exact (fU c t2 hx).mono fun e Vp hp=>hp.sub (l1.trans l2) fun o h=>List.mem_append_right _ (hmx o h)
    |exit i=>exact ⟨o,M1 _ (kD o1 (by rw [he];simp)),he,ws,l1,o3⟩
    |ret=>exact ⟨o,M1 _ (kD o1 (by rw [he];simp)),he,ws,l1,o3⟩
   .cases h
  .cases h
 | .cond c a d,vs,s,st,outs,hs,h=>by
  simp only [ct] at h;split at h
  .rename_i p q hpq
   split at h
   .rename_i x y hx hy
    cases h;obtain ⟨t,h1,o,o1,o2⟩:=Gy (FM (L:=[]) (L' :=[]) hs.1 (by simp [y5.g]) c) hs hpq;refine Ex.cond h1 (fun ht=> ?_) (fun ht=> ?_)
    .obtain ⟨z,hz,hm⟩:=X2 hx o (by simp_all)
     exact (fU a o2 hz).mono fun e Vp hp=>hp.sub (Le.refl _) fun o h=>M1 _ (hm o h)
    .obtain ⟨z,hz,hm⟩:=X2 hy o (by simp_all)
     exact (fU d o2 hz).mono fun e Vp hp=>hp.sub (Le.refl _) fun o h=>List.mem_append_right _ (hm o h)
   .cases h
  .cases h
 | .test ops draw c a d,vs,s,⟨T,H⟩,outs,hs,h=>by
  simp only [ct] at h;split at h
  .rename_i p q hpq
   split at h
   .rename_i x y hx hy
    cases h;have hR:Rn A l b ops draw T H fun T' H' L=>∃ t,G9 T' L c= .d (.bool t)/\∃ o,o ∈ (if t then p else q)/\∃ ws,Le vs ws/\o.g C ws ⟨T',H'⟩:=by
     split at hpq
     .rename_i pq hh
      cases hpq;exact Hl _ _ _ _ _ _ hh vs T H hs
     .split at hpq
      .rename_i os hos
       obtain ⟨r,N,⟨o,o1,ws,l1,g1,g2,g3,g4⟩,hr⟩:=Dz fG hs.1 hs.2.1 hs.2.2 hos;obtain ⟨p',q',h1,h2,h3⟩:=sA hpq o o1;obtain ⟨t,h4,u,u1,u2⟩:=Gy (st:=⟨r.T,r.H⟩) (FM g1 g3 c) ⟨g1,g2,g4⟩ h1;refine ⟨r,N,⟨t,h4,u,?_,ws,l1,u2⟩,hr⟩
       grind
      .cases hpq
    obtain ⟨r,N,⟨t,h4,u,u1,ws,l1,u2⟩,hr⟩:=hR;refine Ex.test ⟨r,N,⟨t,h4,fun ht=> ?_,fun ht=> ?_⟩,hr⟩
    .subst ht
     obtain ⟨m,m1,us,l2,m2⟩:=nZ _ (by omega) u2;obtain ⟨z,hz,hm⟩:=X2 hx m m1;exact (fU a m2 hz).mono fun e Vp hp=>hp.sub (l1.trans l2) fun o h=>M1 _ (hm o h)
    .subst ht
     obtain ⟨m,m1,us,l2,m2⟩:=nZ _ (by omega) u2;obtain ⟨z,hz,hm⟩:=X2 hy m m1;exact (fU d m2 hz).mono fun e Vp hp=>hp.sub (l1.trans l2) fun o h=>List.mem_append_right _ (hm o h)
   .cases h
  .cases h
 | .block id body,vs,s,st,outs,hs,h=>by
  simp only [ct] at h;split at h
  .rename_i os hos
   cases h;refine Ex.block ((fU body hs hos).mono ?_);rintro e st' ⟨o,o1,rfl,ws,l1,o3⟩;have hm:=Oi (id:=id) o1;cases he:o.1 with
   |normal=>rw [he] at hm;exact ⟨_,hm,rfl,ws,l1,o3⟩
   |ret=>rw [he] at hm;exact ⟨_,hm,rfl,ws,l1,o3⟩
   |exit i =>
    rw [he] at hm;simp only at hm;simp only [FV];split
    .rename_i hi;rw [if_pos hi] at hm;exact ⟨_,hm,rfl,ws,l1,o3⟩
    .rename_i hi;rw [if_neg hi] at hm;exact ⟨_,hm,rfl,ws,l1,o3⟩
  .cases h
 | .loop mask body,vs,s,st,outs,hs,h=>by
  refine Ex.ofL ?_;rw [K2.len hs.2.1];exact NZ (sb:=ct A sem hook kp l b fuel body) (fun {_ _ _ _} h1 h2=>fU body h1 h2) fuel (s6.2 rfl) hs h
 | .fz t,vs,s,st,outs,hs,h=>by
  simp only [ct] at h;split at h
  .rename_i s' hs'
   cases h;obtain ⟨st',h1,h2⟩:=aH7 hs hs';exact ⟨_,_,0,⟨_,s6.2 rfl,rfl,vs,Le.refl _,h2⟩,fun n _=>by
    simp_all [nJ,N7,exec]⟩
  .cases h
end
def FL (T:List SV)(H:List SO):BL->Option SV
 | .slot t=>T[t]?
 | .cell t none=>match T[t]? with
  |some (.ptr id off)=>match YQ H id off 1 with
   |some [v]=>some v.I7
   |_=>none
  |_=>none
 | .cell t (some n)=>match T[t]? with
  |some (.ptr id off)=>match H[id]? with
   |some (.cells p l)=>if D9 (off+n) l.length then some (.agg (if s7 off 0&&s7 n l.length then p else none) (((l.drop off).take n).map SV.I7)) else none
   |_=>none
  |_=>none
def ov (T:List SV)(H:List SO):List BL->Option (List SV)
 |[]=>some []
 |r::rs=>match FL T H r,ov T H rs with
  |some v,some vs=>some (v::vs)
  |_,_=>none
def FI:List SV->SV
 |[v]=>v
 |vs=> .tuple (vs.map SV.I7)
def FD (H:List SO)(n:Nat):Nat->List SV->Option (List SV)
 |0,_=>none
 |fuel+1,l=>match l with
  |[]=>some []
  |v::vs=>match FD H n fuel vs with
   |none=>none
   |some ws=>match v with
    | .B6 id sz lo len=>if Nat.blt id n then some (.B6 id sz lo len::ws) else match YQ H id lo (len * sz) with
     |some us=>match FD H n fuel us with
      |some us' =>match jB us' with
       |some xs=>if s7 xs.length (len * sz) then some (.d (mkSlice sz len xs)::ws) else none
       |none=>none
      |none=>none
     |none=>none
    | .agg p l=>match FD H n fuel l with
     |some l' =>some (.agg (match y5.X5 l with|some 0=>p|_=>none) l' ::ws)
     |none=>none
    | .tuple l=>match FD H n fuel l with
     |some l' =>some (.tuple l' ::ws)
     |none=>none
    | .top=>none
    | .bn k=>if s7 k 0 then some (.bn 0::ws) else none
    |v=>some (v::ws)
def FC (bB:Bool)(n:Nat)(vs:List SV)(H:List SO):Option (SV×List SO) :=
 if bB then some (FI vs,H) else match FD H n 1000000 [FI vs] with
  |some [v]=>match v.X5 with
   |some b=>if D9 b n then some (v,H.take n) else none
   |none=>none
  |_=>none
section
variable {C:Ctx} {vs:List Nat}
theorem MR (cs:List j3):(cs.map j3.I7).map j3.I7=cs.map j3.I7:=by
 rw [List.map_map]
 congr 1
 funext v
 cases v<;>rfl
def RC {T:List SV}{H:List SO}{T' :List j3}{H' :q8}(hT:y5.g C vs T T')(hH:K2.g C vs H H'){r:BL}{v:SV}(h:FL T H r=some v):∃ a,jR T' H' r=some a/\v.g C vs a:=by
 unfold FL at h;split at h
 .exact y5.get hT h
 .split at h
  .rename_i id off e
   obtain ⟨a,h1,h2⟩:=y5.get hT e;rw [bu h2] at h1
   grind [Dy,y5.g,jR,SV.qt]
  .cases h
 .rename_i t n
  split at h
  .rename_i id off e
   obtain ⟨a,h1,h2⟩:=y5.get hT e;rw [bu h2] at h1;split at h
   .rename_i p l hl
    split at h
    .cases h
     obtain ⟨o,h3,h4⟩:=K2.get hH hl;obtain ⟨cs,rfl,h5,h6⟩:=h4;have hlen:=y5.len h5;refine ⟨.agg (((cs.drop off).take n).map j3.I7),?_,?_⟩
     .simp_all [jR,rd,if_pos]
     .refine ⟨_,rfl,y5.map (fun _ _=>SV.qt) (y5.take (y5.drop h5 off) n),fun k hk=> ?_⟩
      split at hk
      .grind [j7,A8,MR]
      .cases hk
    .cases h
   .cases h
  .cases h
theorem AI {T:List SV}{H:List SO}{T' :List j3}{H' :q8}(hT:y5.g C vs T T')(hH:K2.g C vs H H'):∀ {rs:List BL} {l:List SV},ov T H rs=some l->∃ as,aR T' H' rs=some as/\y5.g C vs l as
 |[],l,h=>by simp [ov,Option.some.injEq] at h;subst h;exact ⟨[],rfl,by simp [y5.g]⟩
 |r::rs,l,h=>by
  simp [ov] at h;split at h
  .rename_i v ws hv hws
   obtain ⟨a,h1,h2⟩:=RC hT hH hv;obtain ⟨as,h3,h4⟩:=AI hT hH hws
   grind [aR,y5.g]
  .cases h
def IQ {l:List SV}{as:List j3}(h:y5.g C vs l as):(FI l).g C vs (j9 as):=by
 have key:∀ {l:List SV} {as:List j3},y5.g C vs l as->(SV.tuple (l.map SV.I7)).g C vs (.tuple (as.map j3.I7)):=fun h=>by
  simp_all [SV.g,y5.map,SV.qt]
 match l,h with
 |[],h=>have:=key h;subst h;exact this
 |[v],h=>obtain ⟨d,_,rfl,h1,rfl⟩:=h;exact h1
 |v::w::l,h=>have:=key h;obtain ⟨d,_,rfl,h1,e,es,rfl,h2,h3⟩:=h;exact this
theorem Xv {H:q8}{n:Nat}:∀ (fuel:Nat) {l ws:List j3},B8 l=0->bH H n fuel l=some ws->ws=l
 |0,l,ws,_,h=>by simp [bH] at h
 |fuel+1,[],ws,_,h=>by simp_all [bH,Option.some.injEq]
 |fuel+1,v::l,ws,hb,h=>by
  simp [B8] at hb;simp [bH] at h;split at h
  .cases h
  .rename_i us zJ
   have e1:=Xv fuel (by omega) zJ;split at h
   .simp [j3.L7] at hb
   .rename_i l0
    simp [j3.L7] at hb;split at h
    .rename_i l' hl'
     have e2:=Xv fuel (l:=l0) (by omega) hl';simp_all
    .cases h
   .rename_i l0
    simp [j3.L7] at hb;split at h
    .rename_i l' hl'
     have e2:=Xv fuel (l:=l0) (by omega) hl';simp_all
    .cases h
   simp_all
theorem Az {H:List SO}{H' :q8}{n:Nat}(hH:K2.g C vs H H'):∀ (fuel:Nat) {l ws:List SV} {as:List j3},y5.g C vs l as->FD H n fuel l=some ws->∃ bs,bH H' n fuel as=some bs/\y5.g C vs ws bs
 |0,l,ws,as,_,h=>by simp [FD] at h
 |fuel+1,[],ws,as,hg,h=>by
  simp only [y5.g] at hg;subst hg;simp only [FD,Option.some.injEq] at h;subst h;exact ⟨[],by simp [bH],by simp [y5.g]⟩
 |fuel+1,v::l,ws,as,hg,h=>by
  simp only [y5.g] at hg;obtain ⟨a,as,rfl,ha,hl⟩:=hg;simp only [FD] at h;split at h
  .cases h
  .rename_i us zJ
   obtain ⟨bs,h1,h2⟩:=Az hH fuel hl zJ;have fin:∀ {v:SV} {a:j3},v.g C vs a->y5.g C vs (v::us) (a::bs):=fun h=>by simp only [y5.g];exact ⟨_,_,rfl,h,h2⟩
   split at h
   .rename_i id sz lo len
    rw [mq ha];split at h
    .rename_i hc
     have hc:id<n:=k9 hc;cases h;exact ⟨.B6 id sz lo len::bs,by simp only [bH,h1];rw [if_pos hc],fin (by simp only [SV.g])⟩
    .rename_i hc
     have hc:¬ id<n:=fun e=>hc (by rw [Nat.blt_eq];exact e)
     split at h
     .rename_i q hq
      split at h
      .rename_i q' hq'
       split at h
       .rename_i xs hxs
        split at h
        .rename_i hlen
         have hlen:=j7 hlen;cases h;obtain ⟨cs,h3,h4⟩:=Dy hH hq;obtain ⟨ds,h5,h6⟩:=Az hH fuel h4 hq';obtain ⟨es,h7,h8⟩:=oq h6 hxs;exact ⟨.d (.slice len es)::bs,by simp only [bH,h1];rw [if_neg hc];simp only [h3,h5,h7],fin (bZ (pF hlen h8))⟩
        .cases h
       .cases h
      .cases h
     .cases h
   .rename_i p l'
    simp only [SV.g] at ha;obtain ⟨cs,rfl,h3,h4⟩:=ha;split at h
    .rename_i l2 mK
     cases h;obtain ⟨ds,h5,h6⟩:=Az hH fuel h3 mK;refine ⟨.agg ds::bs,by simp only [bH,h1,h5],fin ?_⟩;simp only [SV.g];refine ⟨ds,rfl,h6,fun k hk=> ?_⟩;split at hk
     .rename_i hb
      rw [Xv fuel (y5.cD hb h3) h5];exact h4 k hk
     .cases hk
    .cases h
   .rename_i l'
    simp only [SV.g] at ha;obtain ⟨cs,rfl,h3⟩:=ha;split at h
    .rename_i l2 mK
     cases h;obtain ⟨ds,h5,h6⟩:=Az hH fuel h3 mK;exact ⟨.tuple ds::bs,by simp only [bH,h1,h5],fin (by simp only [SV.g];exact ⟨_,rfl,h6⟩)⟩
    .cases h
   .cases h
   .rename_i k
    split at h
    .rename_i hk
     have hk:=j7 hk;subst hk;cases h;simp only [SV.g] at ha;refine ⟨a::bs,?_,fin (by simp only [SV.g];exact ha)⟩;obtain ⟨a1,a2⟩:=ha;cases a<;>simp only [j3.L7,j3.one,j5,reduceCtorEq] at a1 a2<;>first
      |(simp only [bH,h1];done)
      |omega
    .cases h
   .rename_i w1 w2 w3 w4 w5
    cases h;refine ⟨a::bs,?_,fin ha⟩;cases v<;>simp only [SV.g] at ha
    .exact absurd rfl w4
    .subst ha;simp only [bH,h1]
    .obtain ⟨_,rfl,_⟩:=ha;simp only [bH,h1]
    .obtain ⟨_,_,rfl,_⟩:=ha;simp only [bH,h1]
    .subst ha;simp only [bH,h1]
    .subst ha;simp only [bH,h1]
    .obtain ⟨_,_,rfl,_⟩:=ha;simp only [bH,h1]
    .exact absurd rfl (w1 _ _ _ _)
    .exact absurd rfl (w2 _ _)
    .exact absurd rfl (w3 _)
    .exact absurd rfl (w5 _)
    .obtain ⟨_,h0,_⟩:=ha;cases a<;>simp only [j3.I7,reduceCtorEq] at h0<;>simp only [bH,h1]
    .obtain ⟨_,_,rfl⟩:=ha;simp only [bH,h1]
def Rs {H H1:List SO}{H' :q8}{bB:Bool}{n:Nat}{l:List SV}{as:List j3}{v:SV}(hH:K2.g C vs H H')(hl:y5.g C vs l as)(h:FC bB n l H=some (v,H1)) :
  ∃ a H2,finish bB n as H' =some (a,H2)/\v.g C vs a/\K2.g C vs H1 H2:=by
 unfold FC at h;split at h
 .rename_i hp
  cases h;exact ⟨_,_,by simp only [finish,hp,if_true],IQ hl,hH⟩
 .rename_i hp
  split at h
  .rename_i w hw
   split at h
   .rename_i b hb
    split at h
    .rename_i hc
     have hc:=k9 hc;cases h;obtain ⟨bs,h1,h2⟩:=Az hH 1000000 (l:=[FI l]) (as:=[j9 as]) (by simp only [y5.g];exact ⟨_,_,rfl,IQ hl,rfl⟩) hw;simp only [y5.g] at h2;obtain ⟨a,_,rfl,h3,rfl⟩:=h2;have e:=SV.cD hb h3;refine ⟨a,H'.take n,?_,h3,K2.take hH n⟩;simp only [finish];rw [if_neg hp,h1];simp only;rw [if_pos (by omega)]
    .cases h
   .cases h
  .cases h
end
def SB.cl:SB->Bool
 | .uv=>true
 |_=>false
def Rel.cl:Rel->Bool
 | .no=>true
 |_=>false
mutual
def SD.cl:SD->Bool
 | .bool c=>c.cl
 | .int _ _ _ r=>r.cl
 | .slice v _ _ row=>v.isNone&&K7.cl row
 | .pr _ x=>x.cl
 |_=>true
def K7.cl:List SD->Bool
 |[]=>true
 |x::xs=>x.cl&&K7.cl xs
end
mutual
def SV.cl:SV->Bool
 | .d x=>x.cl
 | .own _ x=>x.cl
 | .q x=>x.cl
 | .S9 r=>K7.cl r
 | .agg _ l=>y5.cl l
 | .tuple l=>y5.cl l
 |_=>true
def y5.cl:List SV->Bool
 |[]=>true
 |x::xs=>x.cl&&y5.cl xs
end
def SO.cl:SO->Bool
 | .cells _ l=>y5.cl l
 |_=>true
def K2.cl:List SO->Bool
 |[]=>true
 |x::xs=>x.cl&&K2.cl xs
section
variable {C:Ctx} {vs ws:List Nat}
mutual
theorem SD.dm:∀ (x:SD) {d:Data},x.cl=true->x.g C vs d->x.g C ws d
 | .top,_,_,_=>by simp [SD.g]
 | .lit _,_,_,h=>by simp_all [SD.g]
 | .bool c,_,hc,h=>by
  cases c with
  |uv=>obtain ⟨b,h1,_⟩:=h;exact ⟨b,h1,trivial⟩
  |cmp=>simp [SD.cl,SB.cl] at hc
 | .int k lo hi r,_,hc,h=>by
  cases r with
  |no=>obtain ⟨b,h1,h2,h3,_⟩:=h;exact ⟨b,h1,h2,h3,trivial⟩
  |eq=>simp [SD.cl,Rel.cl] at hc
  |lt=>simp [SD.cl,Rel.cl] at hc
 | .anyI _,_,_,h=>by simp_all [SD.g]
 | .str _,_,_,h=>by simp_all [SD.g]
 | .slice v lo hi row,_,hc,h=>by
  cases v with
  |some i=>simp [SD.cl] at hc
  |none =>
   obtain ⟨rows,h1,h2,h3,_,h5⟩:=h;exact ⟨rows,h1,h2,h3,(fun i e=>by cases e),fun r hr=>K7.dm row hc (h5 r hr)⟩
 | .pr _ x,_,hc,h=>by exact ⟨h.1,SD.dm x hc h.2⟩
theorem K7.dm:∀ (x:List SD) {d:List Data},K7.cl x=true->K7.g C vs x d->K7.g C ws x d
 |[],_,_,h=>by simp_all [K7.g]
 |x::xs,_,hc,h=>by
  simp [K7.cl,c9] at hc;obtain ⟨d,ds,h1,h2,h3⟩:=h;exact ⟨d,ds,h1,SD.dm x hc.1 h2,K7.dm xs hc.2 h3⟩
end
mutual
theorem SV.dm:∀ (x:SV) {d:j3},x.cl=true->x.g C vs d->x.g C ws d
 | .top,_,_,_=>by simp [SV.g]
 | .any,_,_,h=>by simpa only [SV.g] using h
 | .d x,_,hc,h=>by simp only [SV.cl] at hc;simp only [SV.g] at h ⊢;obtain ⟨y,h1,h2⟩:=h;exact ⟨y,h1,SD.dm x hc h2⟩
 | .own _ x,_,hc,h=>by simp only [SV.cl] at hc;simp only [SV.g] at h ⊢;obtain ⟨a,b,h1,h2⟩:=h;exact ⟨a,b,h1,SD.dm x hc h2⟩
 | .P5,_,_,h=>by simpa only [SV.g] using h
 | .ptr ..,_,_,h=>by simpa only [SV.g] using h
 | .S9 row,_,hc,h=>by simp only [SV.cl] at hc;simp only [SV.g] at h ⊢;obtain ⟨a,b,h1,h2⟩:=h;exact ⟨a,b,h1,K7.dm row hc h2⟩
 | .B6 ..,_,_,h=>by simpa only [SV.g] using h
 | .wp ..,_,_,h=>by simpa only [SV.g] using h
 | .agg p l,_,hc,h=>by simp only [SV.cl] at hc;simp only [SV.g] at h ⊢;obtain ⟨cs,h1,h2,h3⟩:=h;exact ⟨cs,h1,y5.dm l hc h2,h3⟩
 | .tuple l,_,hc,h=>by simp only [SV.cl] at hc;simp only [SV.g] at h ⊢;obtain ⟨cs,h1,h2⟩:=h;exact ⟨cs,h1,y5.dm l hc h2⟩
 | .bn _,_,_,h=>by simpa only [SV.g] using h
 | .q x,_,hc,h=>by simp only [SV.cl] at hc;simp only [SV.g] at h ⊢;obtain ⟨y,h1,h2⟩:=h;exact ⟨y,h1,SD.dm x hc h2⟩
theorem y5.dm:∀ (x:List SV) {d:List j3},y5.cl x=true->y5.g C vs x d->y5.g C ws x d
 |[],_,_,h=>by simpa only [y5.g] using h
 |x::xs,_,hc,h=>by
  simp only [y5.cl,c9] at hc;simp only [y5.g] at h ⊢;obtain ⟨d,ds,h1,h2,h3⟩:=h;exact ⟨d,ds,h1,SV.dm x hc.1 h2,y5.dm xs hc.2 h3⟩
end
theorem SO.dm (x:SO){o:x9}(hc:x.cl=true)(h:x.g C vs o):x.g C ws o:=by
 cases x with
 |dead=>exact h
 |cells p l=>obtain ⟨cs,h1,h2,h3⟩:=h;exact ⟨cs,h1,y5.dm l hc h2,h3⟩
 |pr k=>exact h
 |bn k=>exact h
 |top=>trivial
 |Rb k b=>exact h
theorem K2.dm:∀ (x:List SO) {o:q8},K2.cl x=true->K2.g C vs x o->K2.g C ws x o
 |[],_,_,h=>by simp_all [K2.g]
 |x::xs,_,hc,h=>by
  simp [K2.cl,c9] at hc;obtain ⟨d,ds,h1,h2,h3⟩:=h;exact ⟨d,ds,h1,SO.dm x hc.1 h2,K2.dm xs hc.2 h3⟩
end
def HJ:List SV->Option (List Data)
 |[]=>some []
 | .d (.lit x)::r=>match HJ r with
  |some xs=>some (x::xs)
  |none=>none
 |_=>none
abbrev Fact:=Nat->List Data->Bool
def yz (C:Ctx)(fact:Fact):Prop:=∀ k ds,fact k ds=true->C.Θ k (ds.map .d)
def Oe (fact:Fact)(p:Option Nat)(l:List SV):Option Nat->Bool
 |none=>true
 |some k=>Jb p (some k)||(match HJ l with
  |some ds=>fact k ds
  |none=>false)
mutual
def SV.le (fact:Fact)(B:jh)(x:SV):SV->Bool
 | .top=>true
 | .any=>match x with
  | .any=>true
  |_=>false
 | .d y=>match x with
  | .d x=>SD.le B x y
  |_=>false
 | .own z y=>match x with
  | .own z' x=>s7 z z' &&SD.le B x y
  |_=>false
 | .P5=>match x with
  | .P5=>true
  |_=>false
 | .ptr i o=>match x with
  | .ptr i' o' =>s7 i i' &&s7 o o'
  |_=>false
 | .S9 _=>false
 | .wp .. =>false
 | .B6 i z l n=>match x with
  | .B6 i' z' l' n' =>s7 i i' &&s7 z z' &&s7 l l' &&s7 n n'
  |_=>false
 | .agg p l=>match x with
  | .agg p' l' =>Oe fact p' l' p&&y5.le fact B l' l
  |_=>false
 | .tuple l=>match x with
  | .tuple l' =>y5.le fact B l' l
  |_=>false
 | .q y=>match x.data? with
  |some x=>SD.le B x y
  |none=>false
 | .bn k=>x.one&&(match x.X5 with
  |some b=>s7 b k
  |none=>false)
def y5.le (fact:Fact)(B:jh)(xs:List SV):List SV->Bool
 |[]=>xs.isEmpty
 |y::ys=>match xs with
  |x::xs=>SV.le fact B x y&&y5.le fact B xs ys
  |[]=>false
end
def SO.le (fact:Fact)(B:jh):SO->SO->Bool
 | .dead,.dead=>true
 | .cells p l,.cells p' l' =>Oe fact p l p' &&y5.le fact B l l'
 | .pr k,.pr k' =>s7 k k'
 | .Rb k b,.Rb k' b' =>s7 k k' &&s7 b b'
 |x,.bn k=>(match x.X5 with
  |some b=>s7 b k
  |none=>false)
 |_,.top=>true
 |_,_=>false
def K2.le (fact:Fact)(B:jh):List SO->List SO->Bool
 |[],[]=>true
 |x::xs,y::ys=>x.le fact B y&&K2.le fact B xs ys
 |_,_=>false
section
variable {C:Ctx} {vs:List Nat} {B:jh} {fact:Fact} (hB:Bg vs B) (hf:yz C fact)
theorem Nz:∀ {l:List SV} {ds:List Data} {cs:List j3},HJ l=some ds->y5.g C vs l cs->cs=ds.map .d
 |[],_,_,h,hg=>by simp_all [HJ,Option.some.injEq,y5.g]
 |x::xs,_,_,h,hg=>by
  obtain ⟨d,ds',rfl,h1,h2⟩:=hg;unfold HJ at h;split at h
  .simp_all
  .rename_i y r e
   cases e;split at h
   .rename_i ys hys
    cases h;obtain ⟨q,rfl,h3⟩:=aP h1;subst h3;rw [Nz hys h2];rfl
   .cases h
  .cases h
include hf in
def Of {p q:Option Nat}{l:List SV}{cs:List j3}(h:Oe fact p l q=true)(hl:y5.g C vs l cs)(hp:∀ k,p=some k->C.Θ k (cs.map j3.I7)):∀ k,q=some k->C.Θ k (cs.map j3.I7):=by
 rintro k rfl;simp [Oe,L5] at h
 rcases h with h|h
 .grind [Jc]
 .split at h
  .rename_i ds hds
   rw [Nz hds hl];have e:(ds.map j3.d).map j3.I7=ds.map j3.d:=by rw [List.map_map];rfl
   rw [e];exact hf k ds h
  .cases h
include hB hf
mutual
theorem SV.cA:∀ (y:SV) {x:SV} {v:j3},SV.le fact B x y=true->x.g C vs v->y.g C vs v
 | .top,_,_,_,_=>by simp [SV.g]
 | .any,x,_,h,hg=>by cases x<;>simp only [SV.le,j5] at h;exact hg
 | .d y,x,_,h,hg=>by
  cases x<;>simp only [SV.le,j5] at h;obtain ⟨d,rfl,h1⟩:=aP hg;exact bZ (SD.cA hB y h h1)
 | .own z y,x,_,h,hg=>by
  cases x<;>simp only [SV.le,j5,c9] at h;have e:=j7 h.1;subst e;obtain ⟨len,cells,rfl,h1⟩:=rR hg;simp only [SV.g];exact ⟨_,_,rfl,SD.cA hB y h.2 h1⟩
 | .P5,x,_,h,hg=>by cases x<;>simp only [SV.le,j5] at h;exact hg
 | .ptr i o,x,_,h,hg=>by
  cases x<;>simp only [SV.le,j5,c9] at h;have e:=j7 h.1;have e2:=j7 h.2;subst e e2;exact hg
 | .S9 _,x,_,h,hg=>by simp [SV.le] at h
 | .wp ..,x,_,h,hg=>by simp [SV.le] at h
 | .B6 i z l n,x,_,h,hg=>by
  cases x<;>simp only [SV.le,j5,c9] at h;have e1:=j7 h.1.1.1;have e2:=j7 h.1.1.2;have e3:=j7 h.1.2;have e4:=j7 h.2;subst e1 e2 e3 e4;exact hg
 | .agg p l,x,_,h,hg=>by
  cases x<;>simp only [SV.le,j5,c9] at h;simp only [SV.g] at hg ⊢;obtain ⟨cs,rfl,h1,h2⟩:=hg;exact ⟨cs,rfl,y5.cA l h.2 h1,Of hf h.1 h1 h2⟩
 | .tuple l,x,_,h,hg=>by
  cases x<;>simp only [SV.le,j5] at h;simp only [SV.g] at hg ⊢;obtain ⟨cs,rfl,h1⟩:=hg;exact ⟨cs,rfl,y5.cA l h h1⟩
 | .q y,x,_,h,hg=>by
  simp only [SV.le] at h;split at h
  .rename_i z hz
   obtain ⟨d,h0,h1⟩:=Fs hg hz;exact Fq h0 (SD.cA hB y h h1)
  .cases h
 | .bn k,x,_,h,hg=>by
  simp only [SV.le,c9] at h;split at h
  .rename_i b hb
   have e:=j7 h.2;subst e;simp only [SV.g];exact ⟨SV.cD hb hg,SV.Ah hg h.1⟩
  .exact absurd h.2 (by simp)
theorem y5.cA:∀ (y:List SV) {x:List SV} {v:List j3},y5.le fact B x y=true->y5.g C vs x v->y5.g C vs y v
 |[],x,_,h,hg=>by
  cases x with
  |nil=>exact hg
  |cons=>simp [y5.le] at h
 |y::ys,x,_,h,hg=>by
  cases x<;>simp only [y5.le,j5,c9] at h;simp only [y5.g] at hg ⊢;obtain ⟨d,ds,rfl,h1,h2⟩:=hg;exact ⟨d,ds,rfl,SV.cA y h.1 h1,y5.cA ys h.2 h2⟩
end
theorem SO.cA {x y:SO}{o:x9}(h:x.le fact B y=true)(hg:x.g C vs o):y.g C vs o:=by
 have key:∀ k,(match x.X5 with|some b=>s7 b k|none=>false)=true->o.L7=k:=fun k hk=>by
  split at hk
  .rename_i b hb
   rw [SO.cD hb hg];exact j7 hk
  .cases hk
 cases y
 case top=>trivial
 case bn k=>exact key k (by cases x<;>simpa only [SO.le] using h)
 all_goals cases x<;>simp only [SO.le,j5,c9] at h
 .exact hg
 .obtain ⟨cs,rfl,h1,h2⟩:=hg
  exact ⟨cs,rfl,y5.cA hB hf _ h.2 h1,Of hf h.1 h1 h2⟩
 .have e:=j7 h
  subst e;exact hg
 .have e1:=j7 h.1
  have e2:=j7 h.2;subst e1 e2;exact hg
theorem K2.cA:∀ {x y:List SO} {o:q8},K2.le fact B x y=true->K2.g C vs x o->K2.g C vs y o
 |[],[],_,_,hg=>hg
 |[],_::_,_,h,_=>by simp [K2.le] at h
 |_::_,[],_,h,_=>by simp [K2.le] at h
 |x::xs,y::ys,_,h,hg=>by
  simp [K2.le,c9] at h;obtain ⟨d,ds,rfl,h1,h2⟩:=hg;exact ⟨d,ds,rfl,SO.cA hB hf h.1 h1,K2.cA h.2 h2⟩
end
structure Spec where
 f:FuncId
 args:List SV
 H:List SO
 lim:F2
 outs:List (SV×List SO)
def Spec.cl (s:Spec):Bool:=y5.cl s.args&&K2.cl s.H&&s.outs.all fun o=>o.1.cl&&K2.cl o.2
def Spec.ok (C:Ctx)(A:Prog)(s:Spec):Prop:=s.cl=true/\∀ as Hc,y5.g C [] s.args as->K2.g C [] s.H Hc->Pq A s.f as Hc s.lim fun v H1=>∃ o,o ∈ s.outs/\o.1.g C [] v/\K2.g C [] o.2 H1
def sX (a b:F2):Bool:=s7 a.Tc b.Tc&&s7 a.SU b.SU&&s7 a.base b.base&&s7 a.strict b.strict
def Va (fact:Fact)(specs:List Spec):Sem:=fun B f args H l=>match specs.find? (fun s=>s7 s.f f&&y5.le fact B args s.args&&K2.le fact B H s.H&&sX s.lim l) with
 |some s=>some s.outs
 |none=>none
def Vb {C:Ctx}{A:Prog}{fact:Fact}(hf:yz C fact){specs:List Spec}(hs:∀ s,s ∈ specs->s.ok C A):gR C A (Va fact specs):=by
 intro B f args H l outs h vs hB as Hc ha hH;unfold Va at h;split at h
 .rename_i s hfind
  cases h;have hm:=List.mem_of_find?_eq_some hfind;have hc:=List.find?_some hfind;simp only [c9,sX] at hc;obtain ⟨⟨⟨c1,c2⟩,c3⟩,c4⟩:=hc;obtain ⟨k1,k2⟩:=hs s hm;have e:s.f=f:=j7 c1;have el:s.lim=l:=by
   cases vZ:s.lim;simp_all
  simp only [Spec.cl,c9] at k1;obtain ⟨v,H1,⟨o,o1,o2,o3⟩,h1⟩:=k2 as Hc (y5.dm _ k1.1.1 (y5.cA hB hf _ c2 ha)) (K2.dm _ k1.1.2 (K2.cA hB hf c3 hH));rw [e,el] at h1;have k3:=L1.1 k1.2 o o1;simp [c9] at k3;exact ⟨v,H1,⟨o,o1,SV.dm _ k3.1 o2,K2.dm _ k3.2 o3⟩,h1⟩
 .cases h
def Av (a b:Sem):Sem:=fun B f args H l=>match a B f args H l with
 |some r=>some r
 |none=>b B f args H l
def ot {C:Ctx}{A:Prog}{a b:Sem}(ha:gR C A a)(hb:gR C A b):gR C A (Av a b):=by
 intro B f args H l outs h;unfold Av at h;split at h
 .rename_i r hr;cases h;exact ha _ _ _ _ _ _ hr
 .exact hb _ _ _ _ _ _ h
def Uc (s:CS)(k:Nat):CS:=match s.T[k]? with
 |some v=>match HU s.B.length v with
  |some (w,p)=>{ s with T:=s.T.set k w,B:=s.B++[p] }
  |none=>s
 |none=>s
def LM (s:CS):Nat->CS
 |0=>s
 |n+1=>LM (Uc s n) n
def Yb {C:Ctx}{vs:List Nat}{s:CS}{st:St}(hs:s.g C vs st)(k:Nat):∃ ws,Le vs ws/\(Uc s k).g C ws st:=by
 unfold Uc;split
 .rename_i v e
  split
  .rename_i w p hn
   rw [<- hs.2.2.1] at hn;obtain ⟨a,h1,h2⟩:=y5.get hs.1 e;obtain ⟨m,h3,h4,h5⟩:=Fg hn h2;refine ⟨vs++[m],Le.app _ _,?_,K2.P3 (Le.app _ _) _ hs.2.1,hs.2.2.add h3 h4⟩;have:=y5.set (y5.P3 (Le.app vs [m]) _ hs.1) k h5;simp_all [Z3]
  grind [Le.refl]
 grind [Le.refl]
theorem HT {C:Ctx}:∀ (n:Nat) {vs:List Nat} {s:CS} {st:St},s.g C vs st->∃ ws,Le vs ws/\(LM s n).g C ws st
 |0,vs,s,st,hs=>⟨vs,Le.refl _,hs⟩
 |n+1,vs,s,st,hs=>by
  obtain ⟨ws,l1,h1⟩:=Yb hs n;obtain ⟨us,l2,h2⟩:=HT n h1;exact ⟨us,l1.trans l2,h2⟩
def Mr (s:CS)(j:Nat):List CS:=match s.T[j]? with
 |some (.d x)=>match x.int? s.B with
  |some (k,lo,hi,_)=>(nP k lo (hi - lo+1).toNat).map fun v=>{ s with T:=s.T.set j v }
  |none=>[s]
 |_=>[s]
def FK:List Nat->List CS->List CS
 |[],l=>l
 |j::r,l=>FK r (l.flatMap fun s=>Mr s j)
def Vi {C:Ctx}{vs:List Nat}{s:CS}{st:St}(hs:s.g C vs st)(j:Nat):∃ s',s' ∈ Mr s j/\s'.g C vs st:=by
 have hs' :=hs;obtain ⟨hT,hH,hB⟩:=hs;unfold Mr;split
 .rename_i x e
  split
  .rename_i k lo hi r hc
   obtain ⟨a,h1,h2⟩:=y5.get hT e;obtain ⟨d,rfl,h3⟩:=aP h2;obtain ⟨m,rfl,h4,h5,_⟩:=SD.iT hB hc h3;refine ⟨_,L6.2 ⟨_,lV _ lo m h4 (by omega),rfl⟩,?_,hH,hB⟩;have:=y5.set hT j (a:= .d (.lit (.int k m))) (b:= .d (.int k m)) (bZ (by rfl));simp_all [Z3]
  simp_all
 simp_all
theorem Dw {C:Ctx}{vs:List Nat}{st:St}:∀ (js:List Nat) {l:List CS} {s:CS},s ∈ l->s.g C vs st->∃ s',s' ∈ FK js l/\s'.g C vs st
 |[],l,s,hm,hs=>⟨s,hm,hs⟩
 |j::js,l,s,hm,hs=>by
  obtain ⟨s1,h1,h2⟩:=Vi hs j;exact Dw js (List.mem_flatMap.2 ⟨s,hm,h1⟩) h2
def aA4:F6->Bool
 | .exit _=>false
 |_=>true
def ao2 (A:Prog)(sem:Sem)(hook:KF)(fact:Fact)(kp js:List Nat)(fuel:Nat)(af:s8)(s:Spec):Bool :=
 s.cl&&s7 s.args.length af.nparams&&match iH (ct A sem hook kp s.lim s.H.length fuel af.body) (FK js [LM ⟨s.args++j4 (af.names.length - s.args.length) .any,s.H,[]⟩ s.args.length]) with
  |some outs=>outs.all fun o=>aA4 o.1&&match ov o.2.T o.2.H af.results with
   |some l=>match FC af.bB s.H.length l o.2.H with
    |some (v,H1)=>s.outs.any fun p=>SV.le fact o.2.B v p.1&&K2.le fact o.2.B H1 p.2
    |none=>false
   |none=>false
  |none=>false
def Fy {C:Ctx}{A:Prog}{sem:Sem}{hook:KF}{fact:Fact}{kp js:List Nat}{fuel:Nat}{s:Spec}{af:s8}(fG:gR C A sem)(hf:yz C fact)(Hl:Ej C A s.lim s.H.length hook)(hp:A.eF s.f=none)(ha:A.fn s.f=some af)
  (h:ao2 A sem hook fact kp js fuel af s=true):s.ok C A:=by
 unfold ao2 at h;simp only [c9] at h;obtain ⟨⟨c1,c2⟩,c3⟩:=h;have c2:=j7 c2;refine ⟨c1,fun as Hc hA hH=> ?_⟩;split at c3
 .rename_i outs hx
  have zD:=y5.len hA;have hHl:=K2.len hH;obtain ⟨ws,_,h0⟩:=HT s.args.length (C:=C) (vs:=[]) (s:=⟨s.args++j4 (af.names.length - s.args.length) .any,s.H,[]⟩) (st:=⟨as++j4 (af.names.length - as.length) .any,Hc⟩) ⟨by simp_all [y5.app,Ep],hH,rfl,fun i lo hi h=>by simp at h⟩;obtain ⟨s0,m0,h0⟩:=Dw js (s6.2 rfl) h0;obtain ⟨z,hz,hmz⟩:=X2 hx s0 m0;have h1:=fU fG Hl af.body h0 hz;refine Pq.run (b:=s.H.length) _ hp ha (by omega) hHl rfl (h1.mono ?_);rintro x st' ⟨o,o1,rfl,us,l1,g1,g2,g3⟩;have c4:=L1.1 c3 o (hmz o o1);simp [c9] at c4;obtain ⟨c5,c6⟩:=c4;split at c6
  .rename_i l hl
   obtain ⟨bs,h2,h3⟩:=AI g1 g2 hl;split at c6
   .rename_i v H1 rK
    obtain ⟨a,H2,h4,h5,h6⟩:=Rs g2 h3 rK;obtain ⟨p,p1,p2⟩:=List.any_eq_true.1 c6;simp [c9] at p2;refine ⟨a,H2,?_,p,p1,?_,?_⟩
    .cases he:o.1 with
     |exit i=>rw [he] at c5;cases c5
     |normal=>simp_all [iP]
     |ret=>simp_all [iP]
    .simp only [Spec.cl,c9] at c1
     have k3:=L1.1 c1.2 p p1;simp [c9] at k3;exact SV.dm _ k3.1 (SV.cA g3 hf _ p2.1 h5)
    .simp only [Spec.cl,c9] at c1
     have k3:=L1.1 c1.2 p p1;simp [c9] at k3;exact K2.dm _ k3.2 (K2.cA g3 hf p2.2 h6)
   .cases c6
  .cases c6
 .cases c3
end Go.Abs.Sh

