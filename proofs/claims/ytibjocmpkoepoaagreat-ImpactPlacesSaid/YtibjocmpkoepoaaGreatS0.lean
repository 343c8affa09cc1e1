import Derived.Test.YtibjocmpkoepoaaGreatB6
set_option linter.all false
open Bool renaming and_eq_true→c8,false_eq_true→e8,not_eq_true'→o8,true→W,false→F
open List renaming all_eq_true→L4,append_assoc→M3,cons_append→G9,drop_of_length_le→o7,getElem?_append_left→s8,getElem?_append_right→q9,length_append→s9,length_cons→q7,length_map→C5,map_cons→M8,mem_cons→C4,mem_singleton→y3,nil_append→J7,replicate→c9,take_of_length_le→y6,length→O
open Nat renaming add_assoc→M9,beq→y7,ble→F0,eq_of_beq_eq_true→j4,le_of_ble_eq_true→l5,le_refl→o6,le_trans→A3,lt_or_ge→x9,mul_le_mul_right→K4
open Option renaming some→J,none→K
namespace Go.B3.Sh
open Go.B3
inductive Rel where
 |no
 |eq (i:Nat)
 |lt (i:Nat)
inductive SB where
 |xb
 |cmp (i n:Nat) (pol:Bool)
inductive SD where
 |top
 |lit (x:Data)
 |bool (c:SB)
 |int (k:IntKind) (lo hi:Int) (r:Rel)
 |anyI (k:IntKind)
 |str (n:Nat)
 |slice (v:Option Nat) (lo hi:Nat) (row:List SD)
 |pr (k:Nat) (x:SD)
inductive SV where
 |top
 |any
 |d (x:SD)
 |own (sz:Nat) (x:SD)
 |H7
 |ptr (id off:Nat)
 |U2 (row:List SD)
 |s5 (id sz lo len:Nat)
 |agg (p:Option Nat) (l:List SV)
 |tuple (l:List SV)
 |bn (k:Nat)  
 |q (x:SD)    
 |wp (id lo sz cnt:Nat)  
instance:Inhabited SV:=⟨.any⟩
instance:Inhabited SD:=⟨.top⟩
inductive SO where
 |dead
 |cells (p:Option Nat) (l:List SV)
 |pr (k:Nat)
 |bn (k:Nat)
 |top
 |VB (k b:Nat)  
instance:Inhabited SO:=⟨.dead⟩
structure Ctx where
 Φ:Nat->Data->Prop
 Θ:Nat->List c7->Prop
 Ψ:Nat->B4->Prop
 K9:∀k o,Ψ k o->o.K9=0
 Ω:Nat->B4->Prop:=λ_ _=>False
def Rel.g (vs:List Nat):Rel->Int->Prop
 | .no,_=>True
 | .eq i,n=>∃m,vs[i]? =J m/\n=(m:Int)
 | .lt i,n=>∃m,vs[i]? =J m/\0<=n/\n<(m:Int)
def SB.g (vs:List Nat):SB->Bool->Prop
 | .xb,_=>True
 | .cmp i n pol,b=>∃m,vs[i]? =J m/\b=(decide (n<m)==pol)
section
variable (C:Ctx)
mutual
def SD.g (vs:List Nat):SD->Data->Prop
 | .top,_=>True
 | .lit x,d=>d=x
 | .bool c,d=>∃b,d= .bool b/\c.g vs b
 | .int k lo hi r,d=>∃n,d= .int k n/\lo<=n/\n<=hi/\r.g vs n
 | .anyI k,d=>∃n,d= .int k n
 | .str m,d=>∃s,d= .str s/\O s<=m
 | .slice v lo hi row,d=>∃rows:List (List Data),d= .slice (O rows) rows.flatten/\lo<=O rows/\O rows<=hi/\(∀i,v=J i->vs[i]? =J (O rows))/\∀r,r∈rows->L9.g vs row r
 | .pr k x,d=>C.Φ k d/\SD.g vs x d
def L9.g (vs:List Nat):List SD->List Data->Prop
 |[],ds=>ds=[]
 |x::xs,ds=>∃d ds',ds=d::ds' /\SD.g vs x d/\L9.g vs xs ds'
end
mutual
def SV.g (vs:List Nat):SV->c7->Prop
 | .top,_=>True
 | .any,v=>v= .any
 | .d x,v=>∃y,v= .d y/\SD.g C vs x y
 | .own sz x,v=>∃len cells,v= .own sz len cells/\SD.g C vs x (.slice len cells)
 | .H7,v=>v= .H7
 | .ptr id off,v=>v= .ptr id off
 | .U2 row,v=>∃cells rest,v= .U2 (cells++rest)/\L9.g C vs row cells
 | .s5 id sz lo len,v=>v= .s5 id sz lo len
 | .agg p l,v=>∃cs,v= .agg cs/\B6.g vs l cs/\∀k,p=J k->C.Θ k (cs.map c7.F4)
 | .tuple l,v=>∃cs,v= .tuple cs/\B6.g vs l cs
 | .bn k,v=>v.K9=k/\v.one=W
 | .q x,v=>∃y,v.F4= .d y/\SD.g C vs x y
 | .wp id lo sz cnt,v=>∃j,j<cnt/\v= .ptr id (lo+j * sz)
def B6.g (vs:List Nat):List SV->List c7->Prop
 |[],as=>as=[]
 |x::xs,as=>∃a as',as=a::as' /\SV.g vs x a/\B6.g vs xs as'
end
def SO.g (vs:List Nat):SO->B4->Prop
 | .dead,o=>o= .dead
 | .cells p l,o=>∃cs,o= .cells cs/\B6.g C vs l cs/\∀k,p=J k->C.Θ k (cs.map c7.F4)
 | .pr k,o=>C.Ψ k o
 | .bn k,o=>o.K9=k
 | .top,_=>True
 | .VB k b,o=>C.Ω k o/\o.K9=b
def M0.g (vs:List Nat):List SO->n9->Prop
 |[],os=>os=[]
 |x::xs,os=>∃o os',os=o::os' /\SO.g C vs x o/\M0.g vs xs os'
end
def Le (vs ws:List Nat):Prop:=∀(i m:Nat),vs[i]? =J m->ws[i]? =J m
theorem Le.refl (vs:List Nat):Le vs vs:=λ_ _ h=>h
theorem Le.trans {a b c:List Nat}(h:Le a b)(k:Le b c):Le a c:=λi m e=>k i m (h i m e)
theorem Le.app (vs ws:List Nat):Le vs (vs++ws):=λi m h=>by
 grind
section
variable {C:Ctx} {vs ws:List Nat}
theorem Rel.Q8 (hl:Le vs ws){r:Rel}{n:Int}(h:r.g vs n):r.g ws n:=by
 cases r with
 |no=>trivial
 |eq i=>obtain ⟨m,h1,h2⟩:=h;exact ⟨m,hl _ _ h1,h2⟩
 |lt i=>obtain ⟨m,h1,h2⟩:=h;exact ⟨m,hl _ _ h1,h2⟩
theorem SB.Q8 (hl:Le vs ws){r:SB}{n:Bool}(h:r.g vs n):r.g ws n:=by
 cases r with
 |xb=>trivial
 |cmp i n pol=>obtain ⟨m,h1,h2⟩:=h;exact ⟨m,hl _ _ h1,h2⟩
mutual
theorem SD.Q8 (hl:Le vs ws):∀(x:SD) {d:Data},x.g C vs d->x.g C ws d
 | .top,_,h=>by simp [SD.g]
 | .lit _,_,h=>by simp_all [SD.g]
 | .bool c,_,h=>by grind [SD.g,SB.Q8]
 | .int k lo hi r,_,h=>by grind [SD.g,Rel.Q8]
 | .anyI _,_,h=>by simp_all [SD.g]
 | .str _,_,h=>by simp_all [SD.g]
 | .slice v lo hi row,_,h=>by
  obtain ⟨rows,h1,h2,h3,h4,h5⟩:=h;exact ⟨rows,h1,h2,h3,λi e=>hl _ _ (h4 i e),λr hr=>L9.Q8 hl row (h5 r hr)⟩
 | .pr _ x,_,h=>by exact ⟨h.1,SD.Q8 hl x h.2⟩
theorem L9.Q8 (hl:Le vs ws):∀(x:List SD) {d:List Data},L9.g C vs x d->L9.g C ws x d
 |[],_,h=>by simp_all [L9.g]
 |x::xs,_,h=>by obtain ⟨d,ds,h1,h2,h3⟩:=h;exact ⟨d,ds,h1,SD.Q8 hl x h2,L9.Q8 hl xs h3⟩
end
mutual
theorem SV.Q8 (hl:Le vs ws):∀(x:SV) {d:c7},x.g C vs d->x.g C ws d
 | .top,_,h=>by simp only [SV.g]
 | .any,_,h=>by simpa only [SV.g] using h
 | .d x,_,h=>by simp only [SV.g] at h ⊢;obtain ⟨y,h1,h2⟩:=h;exact ⟨y,h1,SD.Q8 hl x h2⟩
 | .own _ x,_,h=>by simp only [SV.g] at h ⊢;obtain ⟨a,b,h1,h2⟩:=h;exact ⟨a,b,h1,SD.Q8 hl x h2⟩
 | .H7,_,h=>by simpa only [SV.g] using h
 | .ptr ..,_,h=>by simpa only [SV.g] using h
 | .U2 row,_,h=>by simp only [SV.g] at h ⊢;obtain ⟨a,b,h1,h2⟩:=h;exact ⟨a,b,h1,L9.Q8 hl row h2⟩
 | .s5 ..,_,h=>by simpa only [SV.g] using h
 | .wp ..,_,h=>by simpa only [SV.g] using h
 | .agg p l,_,h=>by simp only [SV.g] at h ⊢;obtain ⟨cs,h1,h2,h3⟩:=h;exact ⟨cs,h1,B6.Q8 hl l h2,h3⟩
 | .tuple l,_,h=>by simp only [SV.g] at h ⊢;obtain ⟨cs,h1,h2⟩:=h;exact ⟨cs,h1,B6.Q8 hl l h2⟩
 | .bn _,_,h=>by simpa only [SV.g] using h
 | .q x,_,h=>by simp only [SV.g] at h ⊢;obtain ⟨y,h1,h2⟩:=h;exact ⟨y,h1,SD.Q8 hl x h2⟩
theorem B6.Q8 (hl:Le vs ws):∀(x:List SV) {d:List c7},B6.g C vs x d->B6.g C ws x d
 |[],_,h=>by simpa only [B6.g] using h
 |x::xs,_,h=>by simp only [B6.g] at h ⊢;obtain ⟨d,ds,h1,h2,h3⟩:=h;exact ⟨d,ds,h1,SV.Q8 hl x h2,B6.Q8 hl xs h3⟩
end
theorem SO.Q8 (hl:Le vs ws)(x:SO){o:B4}(h:x.g C vs o):x.g C ws o:=by
 cases x with
 |dead=>exact h
 |cells p l=>obtain ⟨cs,h1,h2,h3⟩:=h;exact ⟨cs,h1,B6.Q8 hl l h2,h3⟩
 |pr k=>exact h
 |bn k=>exact h
 |top=>trivial
 |VB k b=>exact h
theorem M0.Q8 (hl:Le vs ws):∀(x:List SO) {o:n9},M0.g C vs x o->M0.g C ws x o
 |[],_,h=>by simp_all [M0.g]
 |x::xs,_,h=>by obtain ⟨d,ds,h1,h2,h3⟩:=h;exact ⟨d,ds,h1,SO.Q8 hl x h2,M0.Q8 hl xs h3⟩
end
section
variable {C:Ctx} {vs:List Nat}
theorem L9.len:∀{x:List SD} {d:List Data},L9.g C vs x d->O d=O x
 |[],_,h=>by simp_all [L9.g]
 |x::xs,_,h=>by obtain ⟨d,ds,rfl,_,h3⟩:=h;simp [L9.len h3]
theorem B6.len:∀{x:List SV} {d:List c7},B6.g C vs x d->O d=O x
 |[],_,h=>by simp_all [B6.g]
 |x::xs,_,h=>by obtain ⟨d,ds,rfl,_,h3⟩:=h;simp [B6.len h3]
theorem M0.len:∀{x:List SO} {d:n9},M0.g C vs x d->O d=O x
 |[],_,h=>by simp_all [M0.g]
 |x::xs,_,h=>by obtain ⟨d,ds,rfl,_,h3⟩:=h;simp [M0.len h3]
theorem B6.app:∀{x y:List SV} {d e:List c7},B6.g C vs x d->B6.g C vs y e->B6.g C vs (x++y) (d++e)
 |[],_,_,_,h,k=>by simp_all [B6.g]
 |x::xs,_,_,_,h,k=>by obtain ⟨d,ds,rfl,h2,h3⟩:=h;exact ⟨d,_,rfl,h2,B6.app h3 k⟩
theorem M0.app:∀{x y:List SO} {d e:n9},M0.g C vs x d->M0.g C vs y e->M0.g C vs (x++y) (d++e)
 |[],_,_,_,h,k=>by simp_all [M0.g]
 |x::xs,_,_,_,h,k=>by obtain ⟨d,ds,rfl,h2,h3⟩:=h;exact ⟨d,_,rfl,h2,M0.app h3 k⟩
theorem B6.get:∀{x:List SV} {d:List c7},B6.g C vs x d->∀{i:Nat} {a:SV},x[i]? =J a->∃b,d[i]? =J b/\a.g C vs b
 |[],_,_,_,_,e=>by simp at e
 |x::xs,_,h,i,a,e=>by
  obtain ⟨d,ds,rfl,h2,h3⟩:=h;cases i with
  |zero=>simp at e;subst e;exact ⟨d,rfl,h2⟩
  |succ i=>simpa using B6.get h3 (by simpa using e)
theorem B6.none:∀{x:List SV} {d:List c7},B6.g C vs x d->∀{i:Nat},x[i]? =K->d[i]? =K:=λh i e=>by
 grind [List.getElem?_eq_none_iff,B6.len]
theorem M0.get:∀{x:List SO} {d:n9},M0.g C vs x d->∀{i:Nat} {a:SO},x[i]? =J a->∃b,d[i]? =J b/\a.g C vs b
 |[],_,_,_,_,e=>by simp at e
 |x::xs,_,h,i,a,e=>by
  obtain ⟨d,ds,rfl,h2,h3⟩:=h;cases i with
  |zero=>simp at e;subst e;exact ⟨d,rfl,h2⟩
  |succ i=>simpa using M0.get h3 (by simpa using e)
theorem B6.set:∀{x:List SV} {d:List c7},B6.g C vs x d->∀(i:Nat) {a:SV} {b:c7},a.g C vs b->B6.g C vs (x.set i a) (d.set i b)
 |[],_,h,_,_,_,_=>by simp_all [B6.g]
 |x::xs,_,h,i,a,b,e=>by
  obtain ⟨d,ds,rfl,h2,h3⟩:=h;cases i with
  |zero=>exact ⟨_,_,rfl,e,h3⟩
  |succ i=>exact ⟨_,_,rfl,h2,B6.set h3 i e⟩
theorem M0.set:∀{x:List SO} {d:n9},M0.g C vs x d->∀(i:Nat) {a:SO} {b:B4},a.g C vs b->M0.g C vs (x.set i a) (d.set i b)
 |[],_,h,_,_,_,_=>by simp_all [M0.g]
 |x::xs,_,h,i,a,b,e=>by
  obtain ⟨d,ds,rfl,h2,h3⟩:=h;cases i with
  |zero=>exact ⟨_,_,rfl,e,h3⟩
  |succ i=>exact ⟨_,_,rfl,h2,M0.set h3 i e⟩
theorem B6.take:∀{x:List SV} {d:List c7},B6.g C vs x d->∀(n:Nat),B6.g C vs (x.take n) (d.take n)
 |[],_,h,n=>by simp_all [B6.g]
 |x::xs,_,h,n=>by
  obtain ⟨d,ds,rfl,h2,h3⟩:=h;cases n with
  |zero=>simp [B6.g]
  |succ n=>exact ⟨_,_,rfl,h2,B6.take h3 n⟩
theorem B6.drop:∀{x:List SV} {d:List c7},B6.g C vs x d->∀(n:Nat),B6.g C vs (x.drop n) (d.drop n)
 |[],_,h,n=>by simp_all [B6.g]
 |x::xs,_,h,n=>by
  have h' :=h;obtain ⟨d,ds,rfl,h2,h3⟩:=h;cases n with
  |zero=>exact h'
  |succ n=>simpa using B6.drop h3 n
theorem M0.take:∀{x:List SO} {d:n9},M0.g C vs x d->∀(n:Nat),M0.g C vs (x.take n) (d.take n)
 |[],_,h,n=>by simp_all [M0.g]
 |x::xs,_,h,n=>by
  obtain ⟨d,ds,rfl,h2,h3⟩:=h;cases n with
  |zero=>simp [M0.g]
  |succ n=>exact ⟨_,_,rfl,h2,M0.take h3 n⟩
theorem M0.drop:∀{x:List SO} {d:n9},M0.g C vs x d->∀(n:Nat),M0.g C vs (x.drop n) (d.drop n)
 |[],_,h,n=>by simp_all [M0.g]
 |x::xs,_,h,n=>by
  have h' :=h;obtain ⟨d,ds,rfl,h2,h3⟩:=h;cases n with
  |zero=>exact h'
  |succ n=>simpa using M0.drop h3 n
theorem B6.map {f:SV->SV}{f' :c7->c7}(hf:∀x a,SV.g C vs x a->SV.g C vs (f x) (f' a)):∀{x:List SV} {d:List c7},B6.g C vs x d->B6.g C vs (x.map f) (d.map f')
 |[],_,h=>by simp_all [B6.g]
 |x::xs,_,h=>by
  obtain ⟨d,ds,rfl,h2,h3⟩:=h;exact ⟨_,_,rfl,hf _ _ h2,B6.map hf h3⟩
end
def Wt:IntKind->IntKind->Bool:=λa b=>decide (a=b)
mutual
def IF:Data->Data->Bool
 | .bool a,.bool b=>a==b
 | .int k n,.int k' n' =>decide (k=k')&&decide (n=n')
 | .str s,.str t=>s==t
 | .slice n l,.slice m r=>y7 n m&&xz l r
 | .cZ,.cZ=>W
 | .P5,.P5=>W
 | .dV,.dV=>W
 | .nilIface,.nilIface=>W
 |_,_=>F
def xz:List Data->List Data->Bool
 |[],[]=>W
 |a::l,b::r=>IF a b&&xz l r
 |_,_=>F
end
mutual
theorem IG:∀(a b:Data),IF a b=W->a=b
 | .bool a,b,h=>by cases b<;>simp_all [IF]
 | .int k n,b,h=>by cases b<;>simp_all [IF]
 | .str s,b,h=>by cases b<;>simp_all [IF]
 | .slice n l,b,h=>by
  cases b<;>simp only [IF,c8,e8] at h;rename_i m r;rw [j4 h.1,II l r h.2]
 | .cZ,b,h=>by grind [IF]
 | .P5,b,h=>by grind [IF]
 | .dV,b,h=>by grind [IF]
 | .nilIface,b,h=>by grind [IF]
theorem II:∀(a b:List Data),xz a b=W->a=b
 |[],b,h=>by grind [xz]
 |x::a,b,h=>by
  cases b<;>simp [xz,c8,e8] at h;rw [IG _ _ h.1,II _ _ h.2]
end
abbrev mG:=List (Nat×Nat)
def Bg (vs:List Nat)(i4:mG):Prop:=O vs=O i4/\∀(i lo hi:Nat),i4[i]? =J (lo,hi)->∃m,vs[i]? =J m/\lo<=m/\m<=hi
def bdV (i4:mG)(v:Option Nat)(lo hi:Nat):Nat×Nat:=match v with
 |none=>(lo,hi)
 |some i=>match i4[i]? with
  |some (a,b)=>(max lo a,min hi b)
  |none=>(lo,hi)
def ax9 {vs:List Nat}{i4:mG}(hB:Bg vs i4){v:Option Nat}{lo hi m:Nat}(h1:lo<=m)(h2:m<=hi)(h3:∀i,v=J i->vs[i]? =J m):(bdV i4 v lo hi).1<=m/\m<=(bdV i4 v lo hi).2:=by
 unfold bdV;split
 .omega
 .split
  next a b hb=>
   obtain ⟨m',e1,e2,e3⟩:=hB.2 _ _ _ hb
   grind
  omega
def SD.int? (i4:mG):SD->Option (IntKind×Int×Int×Rel)
 | .lit (.int k n)=>J (k,n,n,.no)
 | .int k lo hi r=>match r with
  | .eq i=>match i4[i]? with
   |some (a,b)=>J (k,max lo a,min hi b,.eq i)
   |none=>J (k,lo,hi,.eq i)
  |_=>J (k,lo,hi,r)
 | .pr _ x=>x.int? i4
 |_=>K
def SD.wg :SD->Option (Nat×Option (List UInt8))
 | .lit (.str s)=>J (O s,J s)
 | .str m=>J (m,K)
 | .pr _ x=>x.wg
 |_=>K
inductive BK where
 |t (b:Bool)
 |u (c:SB)
def SD.bool? :SD->Option BK
 | .lit (.bool b)=>J (.t b)
 | .bool c=>J (.u c)
 | .pr _ x=>x.bool?
 |_=>K
def SD.kind? :SD->Option IntKind
 | .lit (.int k _)=>J k
 | .int k _ _ _=>J k
 | .anyI k=>J k
 | .pr _ x=>x.kind?
 |_=>K
def qI:List Data->Option (IntKind×Int×Int)
 |[]=>K
 | .int k n::r=>match r with
  |[]=>J (k,n,n)
  |_=>match qI r with
   |some (k',lo,hi)=>if Wt k k' then J (k,min lo n,max hi n) else K
   |none=>K
 |_=>K
def Lv:Data->Data->SD
 | .int k n,.int k' n' =>if Wt k k' then .int k (min n n') (max n n') .no else .top
 | .str s,.str t=> .str (max (O s) (O t))
 | .bool _,.bool _=> .bool .xb
 | .slice n cs,.slice m ds=>if y7 (O cs) n&&y7 (O ds) m then match qI (cs++ds) with
   |some (k,lo,hi)=> .slice K (min n m) (max n m) [.int k lo hi .no]
   |none=> .top
  else .top
 |_,_=> .top
def Rel.join:Rel->Rel->Rel
 | .eq i,.eq j=>if y7 i j then .eq i else .no
 | .lt i,.lt j=>if y7 i j then .lt i else .no
 |_,_=> .no
def VL:SD->Data->SD
 | .lit a,b=>if IF a b then .lit a else Lv a b
 | .int k lo hi _,.int k' n=>if Wt k k' then .int k (min lo n) (max hi n) .no else .top
 | .str m,.str t=> .str (max m (O t))
 | .bool _,.bool _=> .bool .xb
 |_,_=> .top
def xP:List SD->List Data->List SD
 |x::xs,d::ds=>VL x d::xP xs ds
 |_,_=>[]
def rowsOf (sz:Nat):Nat->List Data->List (List Data)
 |0,_=>[]
 |n+1,cs=>cs.take sz::rowsOf sz n (cs.drop sz)
def Mh (sz:Nat):List (List Data)->List SD
 |[]=>c9 sz .top
 |r::rs=>rs.foldl xP (r.map .lit)
def SD.uA (i4:mG):SD->Option (Option Nat×Nat×Nat)
 | .lit (.slice n _)=>J (K,n,n)
 | .slice v lo hi _=>J (v,bdV i4 v lo hi)
 | .pr _ x=>x.uA i4
 |_=>K
def SD.slice? (i4:mG)(sz:Nat):SD->Option (Option Nat×Nat×Nat×List SD)
 | .lit (.slice n cells)=>if y7 (O cells) (n * sz) then J (K,n,n,Mh sz (rowsOf sz n cells)) else K
 | .slice v lo hi row=>if y7 (O row) sz then J (v,(bdV i4 v lo hi).1,(bdV i4 v lo hi).2,row) else K
 | .pr _ x=>x.slice? i4 sz
 |_=>K
section
variable {C:Ctx} {vs:List Nat} {i4:mG}
theorem SD.kP (hB:Bg vs i4):∀{x:SD} {d:Data} {k:IntKind} {lo hi:Int} {r:Rel},x.int? i4=J (k,lo,hi,r)->x.g C vs d->∃n,d= .int k n/\lo<=n/\n<=hi/\r.g vs n
 | .lit (.int k' n'),_,_,_,_,_,h,hg=>by
  obtain ⟨rfl,rfl,rfl,rfl⟩:=h;exact ⟨_,hg,Int.le_refl _,Int.le_refl _,trivial⟩
 | .int k' lo' hi' r',_,_,_,_,_,h,hg=>by
  obtain ⟨n,rfl,h1,h2,h3⟩:=hg;simp [SD.int?] at h;split at h
  .split at h
   next a b hb=>
    obtain ⟨rfl,rfl,rfl,rfl⟩:=h;obtain ⟨m,e1,e2⟩:=h3;obtain ⟨m',e3,e4,e5⟩:=hB.2 _ _ _ hb;rw [e1] at e3;cases e3;exact ⟨n,rfl,V,V,m,e1,e2⟩
   simp_all
  simp_all
 | .pr k' x,_,_,_,_,_,h,hg=>by
  simp [SD.int?] at h;exact SD.kP hB h hg.2
 | .lit (.bool _),_,_,_,_,_,h,_=>by simp [SD.int?] at h
 | .lit (.str _),_,_,_,_,_,h,_=>by simp [SD.int?] at h
 | .lit (.slice _ _),_,_,_,_,_,h,_=>by simp [SD.int?] at h
 | .lit .cZ,_,_,_,_,_,h,_=>by simp [SD.int?] at h
 | .lit .P5,_,_,_,_,_,h,_=>by simp [SD.int?] at h
 | .lit .dV,_,_,_,_,_,h,_=>by simp [SD.int?] at h
 | .lit .nilIface,_,_,_,_,_,h,_=>by simp [SD.int?] at h
 | .top,_,_,_,_,_,h,_=>by simp [SD.int?] at h
 | .bool _,_,_,_,_,_,h,_=>by simp [SD.int?] at h
 | .anyI _,_,_,_,_,_,h,_=>by simp [SD.int?] at h
 | .str _,_,_,_,_,_,h,_=>by simp [SD.int?] at h
 | .slice ..,_,_,_,_,_,h,_=>by simp [SD.int?] at h
theorem SD.yf:∀{x:SD} {d:Data} {m:Nat} {e:Option (List UInt8)},x.wg =J (m,e)->x.g C vs d->∃s,d= .str s/\O s<=m/\∀t,e=J t->s=t
 | .lit x,_,_,_,h,hg=>by
  cases x<;>simp [SD.wg,reduceCtorEq] at h
  grind [SD.g]
 | .str m',_,_,_,h,hg=>by
  grind [SD.wg,Option.some.injEq,Prod.mk.injEq,SD.g]
 | .pr _ x,_,_,_,h,hg=>by
  simp [SD.wg] at h;exact SD.yf h hg.2
 | .top,_,_,_,h,_=>by simp [SD.wg] at h
 | .bool _,_,_,_,h,_=>by simp [SD.wg] at h
 | .anyI _,_,_,_,h,_=>by simp [SD.wg] at h
 | .int ..,_,_,_,h,_=>by simp [SD.wg] at h
 | .slice ..,_,_,_,h,_=>by simp [SD.wg] at h
theorem SD.gn:∀{x:SD} {d:Data} {c:BK},x.bool? =J c->x.g C vs d->∃b,d= .bool b/\match c with| .t b' =>b=b' | .u c=>c.g vs b
 | .lit x,_,_,h,hg=>by
  cases x<;>simp [SD.bool?,reduceCtorEq] at h
  grind [SD.g]
 | .bool c,_,_,h,hg=>by
  grind [SD.bool?,Option.some.injEq,SD.g]
 | .pr _ x,_,_,h,hg=>by
  simp [SD.bool?] at h;exact SD.gn h hg.2
 | .top,_,_,h,_=>by simp [SD.bool?] at h
 | .str _,_,_,h,_=>by simp [SD.bool?] at h
 | .anyI _,_,_,h,_=>by simp [SD.bool?] at h
 | .int ..,_,_,h,_=>by simp [SD.bool?] at h
 | .slice ..,_,_,h,_=>by simp [SD.bool?] at h
theorem SD.Bf:∀{x:SD} {d:Data} {k:IntKind},x.kind? =J k->x.g C vs d->∃n,d= .int k n
 | .lit x,_,_,h,hg=>by
  cases x<;>simp [SD.kind?,reduceCtorEq] at h;simp_all [SD.g]
 | .int ..,_,_,h,hg=>by
  grind [SD.kind?,Option.some.injEq,SD.g]
 | .anyI _,_,_,h,hg=>by
  simp_all [SD.kind?,Option.some.injEq,SD.g]
 | .pr _ x,_,_,h,hg=>by
  simp [SD.kind?] at h;exact SD.Bf h hg.2
 | .top,_,_,h,_=>by simp [SD.kind?] at h
 | .str _,_,_,h,_=>by simp [SD.kind?] at h
 | .bool _,_,_,h,_=>by simp [SD.kind?] at h
 | .slice ..,_,_,h,_=>by simp [SD.kind?] at h
theorem SD.Px (hB:Bg vs i4):∀{x:SD} {d:Data} {v:Option Nat} {lo hi:Nat},x.uA i4=J (v,lo,hi)->x.g C vs d->∃n cells,d= .slice n cells/\lo<=n/\n<=hi/\∀i,v=J i->vs[i]? =J n
 | .lit x,_,_,_,_,h,hg=>by
  cases x<;>simp [SD.uA,reduceCtorEq] at h
  grind [SD.g]
 | .slice v' lo' hi' row,_,_,_,_,h,hg=>by
  simp [SD.uA,Option.some.injEq,Prod.mk.injEq] at h;obtain ⟨rfl,h⟩:=h;obtain ⟨rows,rfl,h1,h2,h3,_⟩:=hg;have:=ax9 hB h1 h2 h3;simp_all
 | .pr _ x,_,_,_,_,h,hg=>by
  simp [SD.uA] at h;exact SD.Px hB h hg.2
 | .top,_,_,_,_,h,_=>by simp [SD.uA] at h
 | .str _,_,_,_,_,h,_=>by simp [SD.uA] at h
 | .bool _,_,_,_,_,h,_=>by simp [SD.uA] at h
 | .anyI _,_,_,_,_,h,_=>by simp [SD.uA] at h
 | .int ..,_,_,_,_,h,_=>by simp [SD.uA] at h
theorem Ru:∀{l:List Data} {k:IntKind} {lo hi:Int},qI l=J (k,lo,hi)->∀d,d∈l->∃n,d= .int k n/\lo<=n/\n<=hi
 |[],_,_,_,h,_,_=>M
 | .int k n::r,_,_,_,h,d,hd=>by
  simp [qI] at h;split at h
  .grind
  .split at h
   next k' lo' hi' e=>
    split at h
    next hk=>
     have hk:k=k' :=of_decide_eq_true hk
     rcases C4.1 hd with rfl|hd
     .grind
     .obtain ⟨m,rfl,h1,h2⟩:=Ru e d hd
      grind
    .cases h
   .cases h
 | .bool _::_,_,_,_,h,_,_=>by simp [qI] at h
 | .str _::_,_,_,_,h,_,_=>by simp [qI] at h
 | .slice _ _::_,_,_,_,h,_,_=>by simp [qI] at h
 | .cZ::_,_,_,_,h,_,_=>by simp [qI] at h
 | .P5::_,_,_,_,h,_,_=>by simp [qI] at h
 | .dV::_,_,_,_,h,_,_=>by simp [qI] at h
 | .nilIface::_,_,_,_,h,_,_=>by simp [qI] at h
theorem Xu:∀l:List Data,(l.map λd=>[d]).flatten=l
 |[]=>rfl
 |d::l=>by simp [Xu l]
theorem IW (a b:Data):(Lv a b).g C vs a/\(Lv a b).g C vs b:=by
 unfold Lv;split
 next k n k' n'=>
  split
  next hk=>
   have hk:k=k' :=of_decide_eq_true hk;subst hk;exact ⟨⟨_,rfl,V,V,trivial⟩,⟨_,rfl,V,V,trivial⟩⟩
  .simp [SD.g]
 .grind [SD.g]
 .exact ⟨⟨_,rfl,trivial⟩,⟨_,rfl,trivial⟩⟩
 next n cs m ds=>
  split
  next hc=>
   simp only [c8] at hc;have c1:=j4 hc.1;have c2:=j4 hc.2;split
   next k lo hi e=>
    have key:∀l:List Data,(∀d,d∈l->d∈cs++ds)->∀r,r∈l.map (λd=>[d])->L9.g C vs [.int k lo hi .no] r:=by
     intro l hl r hr;obtain ⟨d,hd,rfl⟩:=List.mem_map.1 hr;obtain ⟨q,rfl,h1,h2⟩:=Ru e d (hl d hd);exact ⟨_,_,rfl,⟨q,rfl,h1,h2,trivial⟩,rfl⟩
    exact ⟨⟨cs.map λd=>[d],by rw [Xu,C5,c1],by grind,by grind,(λi h=>by cases h),key cs λd h=>List.mem_append_left _ h⟩,
     ⟨ds.map λd=>[d],by rw [Xu,C5,c2],by grind,by grind,(λi h=>by cases h),key ds λd h=>List.mem_append_right _ h⟩⟩
   .simp [SD.g]
  .simp [SD.g]
 .simp [SD.g]
theorem Zu {x:SD}{a:Data}(b:Data)(h:x.g C vs a):(VL x b).g C vs a:=by
 unfold VL;split
 .grind [SD.g,IW]
 .split
  .obtain ⟨m,rfl,h1,h2,_⟩:=h
   exact ⟨_,rfl,V,V,trivial⟩
  .simp [SD.g]
 .grind [SD.g]
 .obtain ⟨m,rfl,h1⟩:=h
  exact ⟨_,rfl,trivial⟩
 .simp [SD.g]
def Zv (x:SD)(b:Data):(VL x b).g C vs b:=by
 unfold VL;split
 .split
  .grind [SD.g,IG]
  .exact (IW _ _).2
 next k lo hi r k' n=>
  split
  next hk=>
   have hk:k=k' :=of_decide_eq_true hk;subst hk;exact ⟨_,rfl,V,V,trivial⟩
  .simp [SD.g]
 .grind [SD.g]
 .exact ⟨_,rfl,trivial⟩
 .simp [SD.g]
theorem Zj:∀{x:List SD} {a b:List Data},L9.g C vs x a->O a=O b->L9.g C vs (xP x b) a
 |[],_,_,h,hl=>by simp_all [L9.g,xP]
 |x::xs,_,b,h,hl=>by
  obtain ⟨d,ds,rfl,h1,h2⟩:=h;cases b with
  |nil=>simp at hl
  |cons b bs=>exact ⟨_,_,rfl,Zu b h1,Zj h2 M⟩
theorem Zk:∀{x:List SD} {b:List Data},O x=O b->L9.g C vs (xP x b) b
 |[],[],_=>by rfl
 |[],_::_,h=>by simp at h
 |_::_,[],h=>by simp at h
 |x::xs,b::bs,h=>by exact ⟨_,_,rfl,Zv x b,Zk (by simpa using h)⟩
theorem Mf:∀(x:List SD) (b:List Data),O x=O b->O (xP x b)=O x
 |[],[],_=>rfl
 |[],_::_,h=>by simp at h
 |_::_,[],h=>by simp at h
 |x::xs,b::bs,h=>by simp [xP,q7];rw [Mf xs bs (by simpa using h)]
theorem Ym:∀(r:List Data),L9.g C vs (r.map .lit) r
 |[]=>by simp [L9.g]
 |d::r=>by exact ⟨_,_,rfl,rfl,Ym r⟩
theorem Bd {sz:Nat}:∀(rs:List (List Data)) (x:List SD),O x=sz->(∀r,r∈rs->O r=sz)->(∀a,O a=sz->L9.g C vs x a->L9.g C vs (rs.foldl xP x) a)/\(∀r,r∈rs->L9.g C vs (rs.foldl xP x) r)/\O (rs.foldl xP x)=sz
 |[],x,hx,_=>⟨λa _ h=>h,U,hx⟩
 |r::rs,x,hx,hr=>by
  have hl:O (xP x r)=sz:=by simp_all [Mf]
  obtain ⟨h1,h2,h3⟩:=Bd rs (xP x r) hl (λr' h=>hr r' (by simp [h]));simp_all [Zj,C4,Zk]
theorem fL {sz:Nat}:∀(n:Nat) (cs:List Data),O cs=n * sz->(rowsOf sz n cs).flatten=cs/\O (rowsOf sz n cs)=n/\∀r,r∈rowsOf sz n cs->O r=sz
 |0,cs,h=>by simp_all [rowsOf]
 |n+1,cs,h=>by
  rw [Nat.succ_mul] at h;obtain ⟨h1,h2,h3⟩:=fL (sz:=sz) n (cs.drop sz) D;simp_all [rowsOf,C4]
def RU {sz:Nat}{rs:List (List Data)}(hr:∀r,r∈rs->O r=sz):(∀r,r∈rs->L9.g C vs (Mh sz rs) r)/\O (Mh sz rs)=sz:=by
 cases rs with
 |nil=>simp_all [Mh]
 |cons r rs =>
  obtain ⟨h1,h2,h3⟩:=Bd (C:=C) (vs:=vs) rs (r.map .lit) M (λr' h=>hr r' (by simp [h]));refine ⟨λr' h=>?_,h3⟩
  rcases C4.1 h with rfl|h
  .exact h1 _ (hr _ U) (Ym _)
  .exact h2 _ h
theorem SD.gL (hB:Bg vs i4){sz:Nat}:∀{x:SD} {d:Data} {v:Option Nat} {lo hi:Nat} {row:List SD},x.slice? i4 sz=J (v,lo,hi,row)->x.g C vs d ->
  O row=sz/\∃rows:List (List Data),d= .slice (O rows) rows.flatten/\lo<=O rows/\O rows<=hi/\(∀i,v=J i->vs[i]? =J (O rows))/\∀r,r∈rows->L9.g C vs row r
 | .lit x,_,_,_,_,_,h,hg=>by
  cases x<;>simp only [SD.slice?,reduceCtorEq] at h;rename_i n cells;split at h
  next hc=>
   have hc:=j4 hc;simp [Option.some.injEq] at h;subst hg;obtain ⟨h1,h2,h3⟩:=fL n cells hc;obtain ⟨h4,h5⟩:=RU (C:=C) (vs:=vs) h3
   grind
  .cases h
 | .slice v' lo' hi' row',_,_,_,_,_,h,hg=>by
  simp only [SD.slice?] at h;split at h
  next hc=>
   have hc:=j4 hc;obtain ⟨rows,rfl,h1,h2,h3,h4⟩:=hg;have:=ax9 hB h1 h2 h3
   grind
  .cases h
 | .pr _ x,_,_,_,_,_,h,hg=>by
  simp [SD.slice?] at h;exact SD.gL hB h hg.2
 | .top,_,_,_,_,_,h,_=>by simp [SD.slice?] at h
 | .str _,_,_,_,_,_,h,_=>by simp [SD.slice?] at h
 | .bool _,_,_,_,_,_,h,_=>by simp [SD.slice?] at h
 | .anyI _,_,_,_,_,_,h,_=>by simp [SD.slice?] at h
 | .int ..,_,_,_,_,_,h,_=>by simp [SD.slice?] at h
end
def Rel.le:Rel->Rel->Bool
 |_,.no=>W
 | .eq i,.eq j=>y7 i j
 | .lt i,.lt j=>y7 i j
 |_,_=>F
theorem Rel.dD {vs:List Nat}{r s:Rel}{n:Int}(h:r.le s=W)(hr:r.g vs n):s.g vs n:=by
 cases r<;>cases s<;>simp [Rel.le] at h<;>first
  |trivial
  |simp_all
def iLe (a b:Int):Bool:=decide (a<=b)
mutual
def SD.le (i4:mG)(x:SD):SD->Bool
 | .top=>W
 | .lit b=>match x with
  | .lit a=>IF a b
  |_=>F
 | .bool .xb=>match x.bool? with
  |some _=>W
  |none=>F
 | .bool _=>F
 | .int k lo hi r=>match x.int? i4 with
  |some (k',a,b,s)=>Wt k' k&&iLe lo a&&iLe b hi&&s.le r
  |none=>F
 | .anyI k=>match x.kind? with
  |some k' =>Wt k' k
  |none=>F
 | .str m=>match x.wg with
  |some (m',_)=>F0 m' m
  |none=>F
 | .slice K lo hi row=>match x.slice? i4 (O row) with
  |some (_,a,b,row')=>F0 lo a&&F0 b hi&&(y7 b 0||L9.le i4 row' row)
  |none=>F
 | .slice (J i) lo hi row=>match x with
  | .slice (J j) lo' hi' row' =>y7 i j&&F0 lo lo' &&F0 hi' hi&&L9.le i4 row' row
  |_=>F
 | .pr k y=>match x with
  | .pr k' _=>y7 k k' &&SD.le i4 x y
  |_=>F
def L9.le (i4:mG)(xs:List SD):List SD->Bool
 |[]=>xs.isEmpty
 |y::ys=>match xs with
  |x::xs=>SD.le i4 x y&&L9.le i4 xs ys
  |[]=>F
end
section
variable {C:Ctx} {vs:List Nat} {i4:mG} (hB:Bg vs i4)
include hB
mutual
theorem SD.dD:∀(y:SD) {x:SD} {d:Data},SD.le i4 x y=W->x.g C vs d->y.g C vs d
 | .top,_,_,_,_=>by simp [SD.g]
 | .lit b,x,_,h,hx=>by
  simp [SD.le] at h
  grind [SD.g,IG]
 | .bool c,x,_,h,hx=>by
  cases c with
  |cmp i n pol=>simp [SD.le] at h
  |xb =>
   simp [SD.le] at h;split at h
   next c hc=>
    obtain ⟨b,h1,_⟩:=SD.gn hc hx;exact ⟨b,h1,trivial⟩
   .cases h
 | .int k lo hi r,x,_,h,hx=>by
  simp [SD.le] at h;split at h
  next k' a b s hc=>
   simp [c8,iLe] at h;obtain ⟨n,h1,h2,h3,h4⟩:=SD.kP hB hc hx;have hk:k' =k:=of_decide_eq_true h.1.1.1
   grind [SD.g,Rel.dD]
  .cases h
 | .anyI k,x,_,h,hx=>by
  simp [SD.le] at h;split at h
  next k' hc=>
   have hk:k' =k:=of_decide_eq_true h
   grind [SD.g,SD.Bf]
  .cases h
 | .str m,x,_,h,hx=>by
  simp [SD.le] at h;split at h
  next m' e hc=>
   obtain ⟨s,h1,h2,_⟩:=SD.yf hc hx;simp_all [SD.g]<;>omega
  .cases h
 | .slice K lo hi row,x,_,h,hx=>by
  simp [SD.le] at h;split at h
  next v a b row' hc=>
   simp only [c8,Bool.or_eq_true] at h;obtain ⟨e,rows,h1,h2,h3,h4,h5⟩:=SD.gL hB hc hx;have l1:=l5 h.1.1;have l2:=l5 h.1.2;refine ⟨rows,h1,V,V,(λi e=>by cases e),λr hr=>?_⟩
   rcases h.2 with h0|h0
   .simp_all
   .exact L9.dD row h0 (h5 r hr)
  .cases h
 | .slice (J i) lo hi row,x,_,h,hx=>by
  simp [SD.le] at h;split at h
  .simp only [c8] at h
   have l0:=j4 h.1.1.1;have l1:=l5 h.1.1.2;have l2:=l5 h.1.2;subst l0;obtain ⟨rows,h1,h2,h3,h4,h5⟩:=hx;exact ⟨rows,h1,V,V,h4,λr hr=>L9.dD row h.2 (h5 r hr)⟩
  .cases h
 | .pr k y,x,_,h,hx=>by
  simp [SD.le] at h;split at h
  .simp only [c8] at h
   have l0:=j4 h.1;have h6:=SD.dD y h.2 hx;simp_all [SD.g]
  .cases h
theorem L9.dD:∀(y:List SD) {x:List SD} {d:List Data},L9.le i4 x y=W->L9.g C vs x d->L9.g C vs y d
 |[],x,_,h,hx=>by
  simp_all [L9.le]
 |y::ys,x,_,h,hx=>by
  simp [L9.le] at h;cases x with
  |nil=>cases h
  |cons x xs =>
   simp [c8] at h;obtain ⟨d,ds,rfl,h1,h2⟩:=hx;exact ⟨d,ds,rfl,SD.dD y h.1 h1,L9.dD ys h.2 h2⟩
end
end
def SV.F4:SV->SV
 | .own _ x=> .d x
 | .H7=> .d (.lit (.slice 0 []))
 | .q x=> .d x
 |v=>v
def SV.one:SV->Bool
 | .top=>F
 | .any=>F
 | .agg _ _=>F
 | .tuple _=>F
 |_=>W
def SV.cells? :SV->Option (List SV)
 | .agg _ l=>if l.all SV.one then J l else K
 |v=>if v.one then J [v] else K
def SV.tag:SV->Option Nat
 | .agg p _=>p
 |_=>K
def SV.data? :SV->Option SD
 | .d x=>J x
 | .own _ x=>J x
 | .H7=>J (.lit (.slice 0 []))
 | .q x=>J x
 |_=>K
def lU :List SV->Option (List SD)
 |[]=>J []
 |v::vs=>match v.data? with
  |some x=>match lU vs with
   |some xs=>J (x::xs)
   |none=>K
  |none=>K
def ofA:c7->SV
 | .any=> .any
 | .d x=> .d (.lit x)
 | .own z len cells=> .own z (.lit (.slice len cells))
 | .H7=> .H7
 | .ptr a b=> .ptr a b
 | .s5 a b c e=> .s5 a b c e
 |_=> .top
def di (T L:List SV):z6->SV
 | .loc j=>(L.getD j .any).F4
 | .slot s=>(T.getD s .any).F4
 | .const v=>ofA v.UA
section
variable {C:Ctx} {vs:List Nat}
theorem SV.th {x:SV}{v:c7}(h:x.g C vs v):x.F4.g C vs v.F4:=by
 cases x with
 |own sz x=>simp only [SV.g] at h;obtain ⟨len,cells,rfl,h1⟩:=h;simp only [SV.F4,c7.F4,SV.g];exact ⟨_,rfl,h1⟩
 |H7=>simp only [SV.g] at h;subst h;simp only [SV.F4,c7.F4,SV.g,SD.g];exact ⟨_,rfl,rfl⟩
 |top=>simp [SV.F4,SV.g]
 |any=>simp only [SV.g] at h;subst h;simp [SV.F4,c7.F4,SV.g]
 |d x=>have h' :=h;simp only [SV.g] at h;obtain ⟨y,rfl,h1⟩:=h;exact h'
 |ptr a b=>have h' :=h;simp only [SV.g] at h;subst h;exact h'
 |U2 a=>have h' :=h;simp only [SV.g] at h;obtain ⟨a,b,rfl,_⟩:=h;exact h'
 |s5 a b c e=>have h' :=h;simp only [SV.g] at h;subst h;exact h'
 |wp a b c e=>have h' :=h;simp only [SV.g] at h;obtain ⟨_,_,rfl⟩:=h;exact h'
 |agg p l=>have h' :=h;simp only [SV.g] at h;obtain ⟨cs,rfl,_⟩:=h;exact h'
 |tuple l=>have h' :=h;simp only [SV.g] at h;obtain ⟨cs,rfl,_⟩:=h;exact h'
 |bn k =>
  simp only [SV.g] at h;simp only [SV.F4,SV.g];cases v<;>simp_all [c7.F4,c7.K9,c7.one]
 |q x =>
  simp only [SV.g] at h;obtain ⟨y,h1,h2⟩:=h;simp only [SV.F4,h1,SV.g];exact ⟨_,rfl,h2⟩
def SV.Da {x:SV}{v:c7}(h:x.g C vs v)(h1:x.one=W):v.one=W:=by
 cases x<;>simp only [SV.one,e8] at h1<;>simp only [SV.g] at h
 .obtain ⟨y,rfl,_⟩:=h;rfl
 .obtain ⟨a,b,rfl,_⟩:=h;rfl
 .subst h;rfl
 .subst h;rfl
 .obtain ⟨a,b,rfl,_⟩:=h;rfl
 .subst h;rfl
 .exact h.2
 .obtain ⟨y,h1,_⟩:=h;cases v<;>simp only [c7.F4,reduceCtorEq] at h1<;>rfl
 .obtain ⟨_,_,rfl⟩:=h;rfl
theorem B6.Da:∀{x:List SV} {v:List c7},B6.g C vs x v->x.all SV.one=W->v.all c7.one=W
 |[],_,h,_=>by simp_all [B6.g]
 |x::xs,_,h,h1=>by
  obtain ⟨d,ds,rfl,h2,h3⟩:=h;simp only [List.all_cons,c8] at h1 ⊢;exact ⟨SV.Da h2 h1.1,B6.Da h3 h1.2⟩
def SV.AX {x:SV}{v:c7}{l:List SV}(h:x.g C vs v)(h1:x.cells? =J l):∃cs,v.cells? =J cs/\B6.g C vs l cs/\∀k,x.tag=J k->C.Θ k (cs.map c7.F4):=by
 cases x with
 |agg p l' =>
  simp only [SV.cells?] at h1;split at h1
  next h2=>
   cases h1;obtain ⟨cs,rfl,h3,h4⟩:=h;exact ⟨cs,by simp [c7.cells?,B6.Da h3 h2],h3,h4⟩
  .cases h1
 |_ =>
  simp only [SV.cells?] at h1;split at h1
  next h2=>
   cases h1;have h3:=SV.Da h h2;refine ⟨[v],?_,by simp_all [B6.g],λk h=>by cases h⟩;simp_all [c7.one,c7.cells?]<;>grind
  .cases h1
def SV.OT {x:SV}{v:c7}{y:SD}(h:x.g C vs v)(h1:x.data? =J y):∃d,v.data? =J d/\y.g C vs d:=by
 cases x<;>simp [SV.data?,reduceCtorEq,Option.some.injEq] at h1<;>subst h1<;>simp [SV.g] at h
 .obtain ⟨d,rfl,h2⟩:=h;exact ⟨d,rfl,h2⟩
 .obtain ⟨a,b,rfl,h2⟩:=h;exact ⟨_,rfl,h2⟩
 .subst h;exact ⟨_,rfl,by simp [SD.g]⟩
 .obtain ⟨d,h1,h2⟩:=h
  cases v<;>simp [c7.F4,reduceCtorEq,c7.d.injEq] at h1<;>subst h1<;>exact ⟨_,rfl,h2⟩
theorem qU:∀{x:List SV} {v:List c7} {y:List SD},B6.g C vs x v->lU x=J y->∃d,L5 v=J d/\L9.g C vs y d
 |[],_,_,h,h1=>by subst h;simp [lU,Option.some.injEq] at h1;subst h1;exact ⟨[],rfl,by simp [L9.g]⟩
 |x::xs,_,_,h,h1=>by
  obtain ⟨d,ds,rfl,h2,h3⟩:=h;simp [lU] at h1;split at h1
  next a ha=>
   split at h1
   next as has=>
    simp [Option.some.injEq] at h1;obtain ⟨e,e1,e2⟩:=SV.OT h2 ha;obtain ⟨es,e3,e4⟩:=qU h3 has
    grind [L5,L9.g]
   .cases h1
  .cases h1
def YD (v:c7):(ofA v).g C vs v:=by
 cases v<;>simp [ofA,SV.g,SD.g]
def XG {x:List SV}{v:List c7}(h:B6.g C vs x v)(j:Nat):(x.getD j .any).g C vs (v.getD j .any):=by
 grind [B6.none,SV.g,B6.get]
def JJ {T L:List SV}{T' L' :List c7}(hT:B6.g C vs T T')(hL:B6.g C vs L L')(x:z6):(di T L x).g C vs (G5 T' L' x):=by
 cases x with
 |loc j=>exact SV.th (XG hL j)
 |slot j=>exact SV.th (XG hT j)
 |const v=>exact YD _
end
def srd (H:List SO)(id off n:Nat):Option (List SV):=match H[id]? with
 |some (.cells _ l)=>if F0 (off+n) (O l) then J ((l.drop off).take n) else K
 |_=>K
def By (l:List SV)(off:Nat)(vs:List SV):List SV:=l.take off++vs++l.drop (off+O vs)
def swr (H:List SO)(id off:Nat)(p:Option Nat)(vs:List SV):Option (List SO):=match H[id]? with
 |some (.cells _ l)=>if F0 (off+O vs) (O l) then J (H.set id (.cells (if y7 off 0&&y7 (O vs) (O l) then p else K) (By l off vs))) else K
 |_=>K
section
variable {C:Ctx} {vs:List Nat}
theorem GB {H:List SO}{H' :n9}{id off n:Nat}{l:List SV}(h:M0.g C vs H H')(h1:srd H id off n=J l):∃cs,rd H' id off n=J cs/\B6.g C vs l cs:=by
 unfold srd at h1;split at h1
 next p l' hl=>
  split at h1
  .cases h1
   obtain ⟨o,h2,h3⟩:=M0.get h hl;obtain ⟨cs,rfl,h4,_⟩:=h3;refine ⟨(cs.drop off).take n,?_,B6.take (B6.drop h4 off) n⟩;have:=B6.len h4;simp_all [rd,if_pos]
  .cases h1
 .cases h1
def GF {l vl:List SV}{l' vl' :List c7}(off:Nat)(h:B6.g C vs l l')(h1:B6.g C vs vl vl'):B6.g C vs (By l off vl) (splice l' off vl'):=by
 grind [By,splice,B6.len,B6.app,B6.take,B6.drop]
def bm3 {H H2:List SO}{H' :n9}{id off:Nat}{p:Option Nat}{vl:List SV}{cs:List c7}(h:M0.g C vs H H')(hv:B6.g C vs vl cs)(hp:∀k,p=J k->C.Θ k (cs.map c7.F4))(h1:swr H id off p vl=J H2) :
  ∃H3,wr H' id off cs=J H3/\M0.g C vs H2 H3:=by
 unfold swr at h1;split at h1
 next p' l hl=>
  split at h1
  .cases h1
   obtain ⟨o,h2,h3⟩:=M0.get h hl;obtain ⟨cs',rfl,h4,_⟩:=h3;have e1:=B6.len h4;have e2:=B6.len hv;refine ⟨H'.set id (.cells (splice cs' off cs)),?_,M0.set h id ⟨_,rfl,GF off h4 hv,?_⟩⟩
   .simp_all [wr,if_pos]
   simp_all [c8,j4,splice,o7]
  .cases h1
 .cases h1
end
def Dn (cells:List SV):List (Nat×Nat×SV)->Option (List SV)
 |[]=>J cells
 |(off,sz,v)::rest=>match v.cells? with
  |some l=>if y7 (O l) sz&&F0 (off+sz) (O cells) then Dn (By cells off l) rest else K
  |none=>K
inductive WG (C:Ctx) (vs:List Nat):List (Nat×Nat×SV)->List (Nat×Nat×c7)->Prop where
 |nil:WG C vs [] []
 |cons {o s:Nat} {x:SV} {a:c7} {r r'}:x.g C vs a->WG C vs r r' ->WG C vs ((o,s,x)::r) ((o,s,a)::r')
theorem Bu {C:Ctx}{vs:List Nat}:∀{ps:List (Nat×Nat×SV)} {qs:List (Nat×Nat×c7)} {cells l:List SV} {cs:List c7},WG C vs ps qs->B6.g C vs cells cs->Dn cells ps=J l->∃ds,bB cs qs=J ds/\B6.g C vs l ds
 |[],_,_,_,cs,hp,hc,h=>by
  cases hp;simp [Dn,Option.some.injEq] at h;subst h;exact ⟨cs,rfl,hc⟩
 |(o,s,x)::r,_,_,_,cs,hp,hc,h=>by
  cases hp with
  |cons hx hr =>
   simp [Dn] at h;split at h
   next l' hl=>
    split at h
    .obtain ⟨ds,h1,h2,_⟩:=SV.AX hx hl
     have e1:=B6.len h2;have e2:=B6.len hc;obtain ⟨es,h3,h4⟩:=Bu hr (GF o hc h2) h;simp_all [bB,if_pos]
    .cases h
   .cases h
theorem vM {C:Ctx}{vs:List Nat}{σ:z6->SV}{ρ:z6->c7}(hρ:∀x,(σ x).g C vs (ρ x)):∀(parts:List (Nat×Nat×z6)),WG C vs (parts.map λ(o,s,x)=>(o,s,σ x)) (parts.map λ(o,s,x)=>(o,s,ρ x))
 |[]=> .nil
 |(_,_,x)::r=> .cons (hρ x) (vM hρ r)
theorem CY {C:Ctx}{vs:List Nat}:∀l:List c7,B6.g C vs (l.map ofA) l
 |[]=>by simp [B6.g]
 |a::l=>by exact ⟨_,_,rfl,YD a,CY l⟩
def mn:Int:= -9223372036854775808
def mx:Int:=9223372036854775807
def isI (k:IntKind):Bool:=Wt k .i64
def SB.not:SB->SB
 | .xb=> .xb
 | .cmp i n p=> .cmp i n (!p)
def sLt:Int×Int×Rel->Int×Int×Rel->SD
 |(l1,h1,r1),(l2,h2,r2) =>
  if decide (h1<l2) then .lit (.bool W) else if decide (h2<=l1) then .lit (.bool F) else
  match r2,r1 with
  | .eq i,_=>if decide (l1=h1)&&decide (0<=l1) then .bool (.cmp i l1.toNat W) else .bool .xb
  |_,.eq i=>if decide (l2=h2)&&decide (1<=l2) then .bool (.cmp i (l2 - 1).toNat F) else .bool .xb
  |_,_=> .bool .xb
def SD.neg:SD->SD
 | .lit (.bool b)=> .lit (.bool (!b))
 | .bool c=> .bool c.not
 |_=> .top
def sEq:Int×Int×Rel->Int×Int×Rel->SD
 |(l1,h1,r1),(l2,h2,r2) =>
  if decide (h1<l2)||decide (h2<l1) then .lit (.bool F) else if decide (l1=h1)&&decide (l2=h2)&&decide (l1=l2) then .lit (.bool W) else
  match r1,r2 with
  | .eq i,_=>if decide (l2=h2)&&decide (l2=0) then .bool (.cmp i 0 F) else .bool .xb
  |_,.eq i=>if decide (l1=h1)&&decide (l1=0) then .bool (.cmp i 0 F) else .bool .xb
  |_,_=> .bool .xb
def rng (k:IntKind)(lo hi:Int)(r:Rel):Option SD:=if isI k&&decide (mn<=lo)&&decide (hi<=mx) then J (if decide (lo=hi) then .lit (.int k lo) else .int k lo hi r) else K
def RW (op:BinOp)(k:IntKind)(a b:Int×Int×Rel):Option SD :=
 match op with
 | .add=>rng k (a.1+b.1) (a.2.1+b.2.1) .no
 | .sub=>rng k (a.1 - b.2.1) (a.2.1 - b.1) .no
 | .mul=>if decide (0<=a.1)&&decide (0<=b.1) then rng k 0 (a.2.1 * b.2.1) .no else K
 | .quo=>if decide (0<=a.1)&&decide (b.1=b.2.1)&&decide (1<=b.1) then rng k (a.1.tdiv b.1) (a.2.1.tdiv b.1) .no else K
 | .rem=>if decide (1<=b.1) then (if decide (0<=a.1) then rng k 0 (min a.2.1 (b.2.1 - 1)) (match b.2.2 with| .eq i=> .lt i|_=> .no) else rng k (1 - b.2.1) (b.2.1 - 1) .no) else K
 | .eql=>J (sEq a b)
 | .neq=>J (sEq a b).neg
 | .lss=>J (sLt a b)
 | .gtr=>J (sLt b a)
 | .leq=>J (sLt b a).neg
 | .geq=>J (sLt a b).neg
 |_=>K
def Zp (op:BinOp)(a b:Nat×Option (List UInt8)):Option SD :=
 match op with
 | .add=>if F0 (a.1+b.1) 4000000000 then (match a.2,b.2 with
  |some s,J t=>J (.lit (.str (s++t)))
  |_,_=>J (.str (a.1+b.1))) else K
 | .eql=>match a.2,b.2 with
  |some s,J t=>J (.lit (.bool (s==t)))
  |_,_=>J (.bool .xb)
 | .neq=>match a.2,b.2 with
  |some s,J t=>J (.lit (.bool (!(s==t))))
  |_,_=>J (.bool .xb)
 |_=>K
def aP2 (i4:mG)(op:BinOp)(x y:SD):Option SD :=
 match x.int? i4,y.int? i4 with
 |some (k,a),J (k',b)=>if Wt k k' then RW op k a b else K
 |_,_=>match x.wg,y.wg with
  |some a,J b=>Zp op a b
  |_,_=>K
section
variable {C:Ctx} {vs:List Nat} {i4:mG}
def Gr {k:IntKind}{lo hi:Int}{r:Rel}{x:SD}{n:Int}(h:rng k lo hi r=J x)(h1:lo<=n)(h2:n<=hi)(h3:r.g vs n):x.g C vs (.int k (k.wrap n))/\k.wrap n=n:=by
 unfold rng at h;split at h
 next hc=>
  simp [c8,decide_eq_true_eq] at hc;have e1:mn= -9223372036854775808:=rfl;have e2:mx=9223372036854775807:=rfl;have hk:k= .i64:=of_decide_eq_true hc.1.1;have e:IntKind.wrap .i64 n=n:=wrap_small V V
  grind [SD.g]
 .cases h
theorem RK {x:SD}{b:Bool}(h:x.g C vs (.bool b)):x.neg.g C vs (.bool (!b)):=by
 unfold SD.neg;split
 .simp_all [SD.g,Data.bool.injEq]
 next c=>
  obtain ⟨b',h1,h2⟩:=h;refine ⟨_,rfl,?_⟩;cases c with
  |xb=>trivial
  |cmp i n p =>
   obtain ⟨m,e1,e2⟩:=h2;refine ⟨m,e1,?_⟩
   grind
 .simp [SD.g]
theorem RX {a b:Int×Int×Rel}{n m:Int}(h1:a.1<=n)(h2:n<=a.2.1)(h3:a.2.2.g vs n)(k1:b.1<=m)(k2:m<=b.2.1)(k3:b.2.2.g vs m):(sLt a b).g C vs (.bool (decide (n<m))):=by
 obtain ⟨l1,u1,r1⟩:=a;obtain ⟨l2,u2,r2⟩:=b;simp [sLt];split
 .grind [SD.g]
 .split
  .grind [SD.g]
  .split
   .split
    .obtain ⟨q,e1,e2⟩:=k3
     refine ⟨_,rfl,q,e1,?_⟩
     grind
    .exact ⟨_,rfl,trivial⟩
   .split
    .obtain ⟨q,e1,e2⟩:=h3
     refine ⟨_,rfl,q,e1,?_⟩
     grind
    .exact ⟨_,rfl,trivial⟩
   .exact ⟨_,rfl,trivial⟩
theorem aC5 {a b:Int×Int×Rel}{n m:Int}(h1:a.1<=n)(h2:n<=a.2.1)(h3:a.2.2.g vs n)(k1:b.1<=m)(k2:m<=b.2.1)(k3:b.2.2.g vs m):(sEq a b).g C vs (.bool (n==m)):=by
 obtain ⟨l1,u1,r1⟩:=a;obtain ⟨l2,u2,r2⟩:=b;simp [sEq];split
 .simp_all [SD.g]<;>omega
 .split
  .grind [SD.g]
  .split
   .split
    .obtain ⟨q,e1,e2⟩:=h3
     refine ⟨_,rfl,q,e1,?_⟩
     grind
    .exact ⟨_,rfl,trivial⟩
   .split
    .obtain ⟨q,e1,e2⟩:=k3
     refine ⟨_,rfl,q,e1,?_⟩
     grind
    .exact ⟨_,rfl,trivial⟩
   .exact ⟨_,rfl,trivial⟩
def GJ {a b c:Int}(h0:0<=a)(h:a<=b)(hc:1<=c):a.tdiv c<=b.tdiv c:=by
 rw [Int.tdiv_eq_ediv_of_nonneg h0,Int.tdiv_eq_ediv_of_nonneg V];exact Int.ediv_le_ediv V h
def at4 {op:BinOp}{k:IntKind}{a b:Int×Int×Rel}{n m:Int}{x:SD}(h1:a.1<=n)(h2:n<=a.2.1)(h3:a.2.2.g vs n)(k1:b.1<=m)(k2:m<=b.2.1)(k3:b.2.2.g vs m)(h:RW op k a b=J x) :
  ∃d,cC op k n m=J d/\x.g C vs d:=by
 cases op<;>simp only [RW,reduceCtorEq,Option.some.injEq] at h<;>simp only [cC]
 case add=>exact ⟨_,rfl,(Gr h V V trivial).1⟩
 case sub=>exact ⟨_,rfl,(Gr h V V trivial).1⟩
 case mul =>
  split at h
  next hc=>
   simp [c8,decide_eq_true_eq] at hc;exact ⟨_,rfl,(Gr h (Int.mul_nonneg V V) (Int.mul_le_mul V V V V) trivial).1⟩
  .cases h
 case quo =>
  split at h
  next hc=>
   simp [c8,decide_eq_true_eq] at hc;have hm:m=b.1:=V
   subst hm;rw [if_neg V];exact ⟨_,rfl,(Gr h (GJ V V V) (GJ V V V) trivial).1⟩
  .cases h
 case rem =>
  split at h
  next hc=>
   simp [decide_eq_true_eq] at hc;have hm:0<m:=V
   have hlt:=Int.tmod_lt_of_pos n hm;split at h
   next pG=>
    simp [decide_eq_true_eq] at pG;have h0:=Int.tmod_nonneg (a:=n) m V;have hle:n.tmod m<=n:=by
     by_cases hl:n<m
     .rw [Int.tmod_eq_of_lt V hl]
      omega
     .omega
    have:=(Gr (C:=C) (vs:=vs) (n:=n.tmod m) h h0 V (by
     split
     next i hi=>
      rw [hi] at k3;obtain ⟨q,e1,e2⟩:=k3;exact ⟨q,e1,h0,V⟩
     .trivial))
    grind
   .have hge: -m<n.tmod m:=by
     by_cases hn:n<0
     .have e:n.tmod m= -((-n).tmod m):=M
      have:=Int.tmod_lt_of_pos (-n) hm;omega
     .have:=Int.tmod_nonneg (a:=n) m V
      omega
    have:=(Gr (C:=C) (vs:=vs) (n:=n.tmod m) h V V trivial)
    grind
  .cases h
 case eql=>grind [aC5]
 case neq=>grind [RK,aC5]
 case lss=>grind [RX]
 case gtr=>subst h;simp_all [RX]
 case leq =>
  have:=RK (RX (C:=C) k1 k2 k3 h1 h2 h3)
  grind [decide_not,decide]
 case geq =>
  have:=RK (RX (C:=C) h1 h2 h3 k1 k2 k3)
  grind [decide_not,decide]
def at5 {op:BinOp}{a b:Nat×Option (List UInt8)}{s t:List UInt8}{x:SD}(h1:O s<=a.1)(h2:∀u,a.2=J u->s=u)(k1:O t<=b.1)(k2:∀u,b.2=J u->t=u)(h:Zp op a b=J x) :
  ∃d,uc op s t=J d/\x.g C vs d:=by
 cases op<;>simp only [Zp,reduceCtorEq] at h<;>simp only [uc]
 case add =>
  split at h
  next hc=>
   have hc:=l5 hc;rw [if_pos V]
   grind [SD.g]
  .cases h
 case eql =>
  refine ⟨_,rfl,?_⟩;split at h
  .grind [SD.g]
  .cases h
   exact ⟨_,rfl,trivial⟩
 case neq =>
  refine ⟨_,rfl,?_⟩;split at h
  .grind [SD.g]
  .cases h
   exact ⟨_,rfl,trivial⟩
def aP3 (hB:Bg vs i4){op:BinOp}{x y z:SD}{a b:Data}(hx:x.g C vs a)(hy:y.g C vs b)(h:aP2 i4 op x y=J z):∃d,O2 op a b=J d/\z.g C vs d:=by
 unfold aP2 at h;split at h
 next k p k' q hp hq=>
  split at h
  next hk=>
   have hk:k=k' :=of_decide_eq_true hk;obtain ⟨n,rfl,h1,h2,h3⟩:=SD.kP hB hp hx;obtain ⟨m,rfl,k1,k2,k3⟩:=SD.kP hB hq hy;obtain ⟨d,e1,e2⟩:=at4 (C:=C) (vs:=vs) h1 h2 h3 k1 k2 k3 h;simp_all [aI,RW,O2]<;>grind
  .cases h
 .split at h
  next p q hp hq=>
   obtain ⟨p1,p2⟩:=p;obtain ⟨q1,q2⟩:=q;obtain ⟨s,rfl,h1,h2⟩:=SD.yf hp hx;obtain ⟨t,rfl,k1,k2⟩:=SD.yf hq hy;obtain ⟨d,e1,e2⟩:=at5 (C:=C) (vs:=vs) (a:=(p1,p2)) (b:=(q1,q2)) h1 h2 k1 k2 h;simp_all [O2]
  .cases h
end
def SB.join:SB->SB->SB
 | .cmp i n p,.cmp j m q=>if y7 i j&&y7 n m&&(p==q) then .cmp i n p else .xb
 |_,_=> .xb
def MI:Option Nat->Option Nat->Option Nat
 |some i,J j=>if y7 i j then J i else K
 |_,_=>K
def SD.strip:SD->SD
 | .pr _ x=>x.strip
 |x=>x
def RF (a b:Data):SD:=match a,b with
 | .slice n cs,.slice m ds =>
  if y7 (O cs) (n * (if y7 n 0 then O ds / m else O cs / n))&&y7 (O ds) (m * (if y7 n 0 then O ds / m else O cs / n)) then
   .slice K (min n m) (max n m) (Mh (if y7 n 0 then O ds / m else O cs / n) (rowsOf (if y7 n 0 then O ds / m else O cs / n) n cs++rowsOf (if y7 n 0 then O ds / m else O cs / n) m ds))
  else .top
 |a,b=>Lv a b
def Fj (x:SD)(b:Data):SD:=match x,b with
 | .slice _ lo hi row,.slice n cells=>if y7 (O cells) (n * O row) then .slice K (min lo n) (max hi n) ((rowsOf (O row) n cells).foldl xP row) else .top
 | .anyI k,.int k' _=>if Wt k k' then .anyI k else .top
 |x,b=>VL x b
mutual
def SD.join:SD->SD->SD
 | .lit a,y=>match y with
  | .lit b=>if IF a b then .lit a else RF a b
  |y=>Fj y.strip a
 | .pr k x,y=>match y with
  | .pr k' y' =>if y7 k k' then .pr k (x.join y') else x.join y'
  |y=>x.join y
 | .int k lo hi r,y=>match y.strip with
  | .lit b=>Fj (.int k lo hi r) b
  | .int k' lo' hi' r' =>if Wt k k' then .int k (min lo lo') (max hi hi') (r.join r') else .top
  | .anyI k' =>if Wt k k' then .anyI k else .top
  |_=> .top
 | .anyI k,y=>match y.strip with
  | .lit b=>Fj (.anyI k) b
  | .int k' _ _ _=>if Wt k k' then .anyI k else .top
  | .anyI k' =>if Wt k k' then .anyI k else .top
  |_=> .top
 | .str m,y=>match y.strip with
  | .lit b=>Fj (.str m) b
  | .str m' => .str (max m m')
  |_=> .top
 | .bool c,y=>match y.strip with
  | .lit b=>Fj (.bool c) b
  | .bool c' => .bool (c.join c')
  |_=> .top
 | .slice v lo hi row,y=>match y.strip with
  | .lit b=>Fj (.slice v lo hi row) b
  | .slice v' lo' hi' row' =>if y7 (O row) (O row') then .slice (MI v v') (min lo lo') (max hi hi') (L9.join row row') else .top
  |_=> .top
 | .top,_=> .top
def L9.join:List SD->List SD->List SD
 |x::xs,y::ys=>x.join y::L9.join xs ys
 |_,_=>[]
end
section
variable {C:Ctx} {vs:List Nat}
theorem SD.oU:∀{x:SD} {d:Data},x.g C vs d->x.strip.g C vs d
 | .pr _ x,_,h=>by simp_all [SD.g,SD.strip,SD.oU]
 | .top,_,h=>h
 | .lit _,_,h=>h
 | .bool _,_,h=>h
 | .int ..,_,h=>h
 | .anyI _,_,h=>h
 | .str _,_,h=>h
 | .slice ..,_,h=>h
theorem RG (a b:Data):(RF a b).g C vs a/\(RF a b).g C vs b:=by
 unfold RF;split
 next n cs m ds=>
  generalize (if y7 n 0 then O ds / m else O cs / n)=sz;split
  next hc=>
   simp only [c8] at hc;have c1:=j4 hc.1;have c2:=j4 hc.2;obtain ⟨e1,e2,e3⟩:=fL n cs c1;obtain ⟨f1,f2,f3⟩:=fL m ds c2;obtain ⟨g1,_⟩:=RU (C:=C) (vs:=vs) (sz:=sz) (rs:=rowsOf sz n cs++rowsOf sz m ds) (λr hr=>(List.mem_append.1 hr).elim (e3 r) (f3 r))
   grind [SD.g,List.mem_append_left,List.mem_append_right]
  .simp [SD.g]
 .exact IW a b
theorem xT {x:SD}{a:Data}(b:Data)(h:x.g C vs a):(Fj x b).g C vs a:=by
 unfold Fj;split
 next v lo hi row n cells=>
  split
  next hc=>
   have hc:=j4 hc;simp [SD.g] at h ⊢;obtain ⟨e1,e2,e3⟩:=fL n cells hc;obtain ⟨f1,_,_⟩:=Bd (C:=C) (vs:=vs) (rowsOf (O row) n cells) row rfl e3
   grind [L9.len]
  .simp [SD.g]
 all_goals grind [SD.g,Zu]
theorem xU (x:SD)(b:Data):(Fj x b).g C vs b:=by
 unfold Fj;split
 next v lo hi row n cells=>
  split
  next hc=>
   have hc:=j4 hc;simp [SD.g];obtain ⟨e1,e2,e3⟩:=fL n cells hc;obtain ⟨_,f2,_⟩:=Bd (C:=C) (vs:=vs) (rowsOf (O row) n cells) row rfl e3
   grind
  .simp [SD.g]
 .split
  next k k' n hk=>
   have hk:k=k' :=of_decide_eq_true hk;simp_all [SD.g]
  .simp [SD.g]
 .exact Zv _ b
theorem SB.V3 {a b:SB}{t:Bool}(h:a.g vs t):(a.join b).g vs t:=by
 unfold SB.join;split
 .split
  .exact h
  .trivial
 .trivial
theorem SB.V4 {a b:SB}{t:Bool}(h:b.g vs t):(a.join b).g vs t:=by
 unfold SB.join;split
 .split
  .simp_all
  .trivial
 .trivial
theorem Rel.V3 {a b:Rel}{t:Int}(h:a.g vs t):(a.join b).g vs t:=by
 unfold Rel.join;split
 .split
  .exact h
  .trivial
 .split
  .exact h
  .trivial
 .trivial
theorem Rel.V4 {a b:Rel}{t:Int}(h:b.g vs t):(a.join b).g vs t:=by
 unfold Rel.join;split
 .split
  .simp_all
  .trivial
 .split
  .simp_all
  .trivial
 .trivial
def aw5 {v w:Option Nat}{m:Nat}(h:∀i,v=J i->vs[i]? =J m):∀i,MI v w=J i->vs[i]? =J m:=by
 simp_all [MI]<;>grind
def aw6 {v w:Option Nat}{m:Nat}(h:∀i,w=J i->vs[i]? =J m):∀i,MI v w=J i->vs[i]? =J m:=by
 simp_all [MI]<;>grind
mutual
theorem SD.V3:∀(x y:SD) {d:Data},x.g C vs d->(x.join y).g C vs d
 | .lit a,y,_,h=>by
  simp [SD.join]
  grind [SD.g,RG,xU]
 | .pr k x,y,_,h=>by
  simp [SD.join];split
  .split
   .exact ⟨h.1,SD.V3 x _ h.2⟩
   .exact SD.V3 x _ h.2
  .exact SD.V3 x _ h.2
 | .int k lo hi r,y,_,h=>by
  grind [SD.join,xT,SD.g,Rel.V3]
 | .anyI k,y,_,h=>by
  grind [SD.join,xT,SD.g]
 | .str m,y,_,h=>by
  grind [SD.join,xT,SD.g]
 | .bool c,y,_,h=>by
  grind [SD.join,xT,SD.g,SB.V3]
 | .slice v lo hi row,y,_,h=>by
  simp only [SD.join];split
  .exact xT _ h
  .split
   next hc=>
    have hc:=j4 hc;obtain ⟨rows,rfl,h1,h2,h3,h4⟩:=h;exact ⟨rows,rfl,V,V,aw5 h3,λr hr=>L9.V3 row _ hc (h4 r hr)⟩
   .simp [SD.g]
  .simp [SD.g]
 | .top,y,_,h=>by simp [SD.join,SD.g]
theorem L9.V3:∀(x y:List SD) {d:List Data},O x=O y->L9.g C vs x d->L9.g C vs (L9.join x y) d
 |[],[],_,_,h=>by grind [L9.join]
 |[],_::_,_,hl,h=>by simp at hl
 |_::_,[],_,hl,h=>by simp at hl
 |x::xs,y::ys,_,hl,h=>by
  obtain ⟨d,ds,rfl,h1,h2⟩:=h;exact ⟨_,_,rfl,SD.V3 x y h1,L9.V3 xs ys M h2⟩
end
mutual
theorem SD.V4:∀(x y:SD) {d:Data},y.g C vs d->(x.join y).g C vs d
 | .lit a,y,_,h=>by
  simp [SD.join];split
  .split
   .grind [IG]
   simp_all [SD.g,RG]
  .exact xT _ (SD.oU h)
 | .pr k x,y,_,h=>by
  simp only [SD.join];split
  .split
   next hc=>
    rw [j4 hc];exact ⟨h.1,SD.V4 x _ h.2⟩
   .exact SD.V4 x _ h.2
  .exact SD.V4 x _ h
 | .int k lo hi r,y,_,h=>by
  have h:=SD.oU h;simp [SD.join];split
  .simp_all [SD.g,xU]
  .split
   next hk=>
    have hk:=of_decide_eq_true hk
    grind [SD.g,Rel.V4]
   .simp [SD.g]
  .split
   next hk=>
    have hk:=of_decide_eq_true hk;simp_all
   .simp [SD.g]
  .simp [SD.g]
 | .anyI k,y,_,h=>by
  have h:=SD.oU h;simp [SD.join];split
  .simp_all [SD.g,xU]
  .split
   next hk=>
    have hk:=of_decide_eq_true hk
    grind [SD.g]
   .simp [SD.g]
  .split
   next hk=>
    have hk:=of_decide_eq_true hk;simp_all
   .simp [SD.g]
  .simp [SD.g]
 | .str m,y,_,h=>by
  have h:=SD.oU h
  grind [SD.join,SD.g,xU]
 | .bool c,y,_,h=>by
  have h:=SD.oU h
  grind [SD.join,SD.g,xU,SB.V4]
 | .slice v lo hi row,y,_,h=>by
  have h:=SD.oU h;simp only [SD.join];split
  .simp_all [SD.g,xU]
  next e=>
   rw [e] at h;split
   next hc=>
    have hc:=j4 hc;obtain ⟨rows,rfl,h1,h2,h3,h4⟩:=h;exact ⟨rows,rfl,V,V,aw6 h3,λr hr=>L9.V4 row _ hc (h4 r hr)⟩
   .simp [SD.g]
  .simp [SD.g]
 | .top,y,_,h=>by simp [SD.join,SD.g]
theorem L9.V4:∀(x y:List SD) {d:List Data},O x=O y->L9.g C vs y d->L9.g C vs (L9.join x y) d
 |[],[],_,_,h=>by grind [L9.join]
 |[],_::_,_,hl,h=>by simp at hl
 |_::_,[],_,hl,h=>by simp at hl
 |x::xs,y::ys,_,hl,h=>by
  obtain ⟨d,ds,rfl,h1,h2⟩:=h;exact ⟨_,_,rfl,SD.V4 x y h1,L9.V4 xs ys M h2⟩
end
theorem L9.Lr:∀(x y:List SD),O x=O y->O (L9.join x y)=O x
 |[],[],_=>rfl
 |[],_::_,h=>by simp at h
 |_::_,[],h=>by simp at h
 |x::xs,y::ys,h=>by simp_all [L9.join,q7,L9.Lr]
end
def zu (sz:Nat):Nat->List SD->List (List SD)
 |0,_=>[]
 |n+1,cs=>cs.take sz::zu sz n (cs.drop sz)
def Zq (sz:Nat):List (List SD)->List SD
 |[]=>c9 sz .top
 |r::rs=>rs.foldl L9.join r
def Lu :List SD->Option (List Data)
 |[]=>J []
 | .lit d::r=>match Lu r with
  |some ds=>J (d::ds)
  |none=>K
 |_=>K
def mkSlice (sz len:Nat)(xs:List SD):SD:=match Lu xs with
 |some ds=> .lit (.slice len ds)
 |none=> .slice K len len (Zq sz (zu sz len xs))
section
variable {C:Ctx} {vs:List Nat}
theorem Yl:∀{xs:List SD} {ds es:List Data},Lu xs=J ds->L9.g C vs xs es->es=ds
 |[],_,_,h,hg=>by simp_all [Lu,Option.some.injEq,L9.g]
 |x::xs,_,_,h,hg=>by
  obtain ⟨d,ds',rfl,h1,h2⟩:=hg;cases x<;>simp [Lu,reduceCtorEq] at h;split at h
  next ds hds=>
   cases h;rw [h1,Yl hds h2]
  .cases h
theorem Ml {sz:Nat}:∀(rs:List (List SD)) (x:List SD),O x=sz->(∀r,r∈rs->O r=sz)->(∀a,L9.g C vs x a->L9.g C vs (rs.foldl L9.join x) a)/\(∀r a,r∈rs->L9.g C vs r a->L9.g C vs (rs.foldl L9.join x) a)/\O (rs.foldl L9.join x)=sz
 |[],x,hx,_=>⟨λa h=>h,U,hx⟩
 |r::rs,x,hx,hr=>by
  have hl:O (L9.join x r)=sz:=by simp_all [L9.Lr]
  obtain ⟨h1,h2,h3⟩:=Ml rs (L9.join x r) hl (λr' h=>hr r' (by simp [h]))
  grind [L9.V3,L9.V4]
theorem L9.take {x:List SD}:∀{d:List Data},L9.g C vs x d->∀n,L9.g C vs (x.take n) (d.take n):=by
 induction x with
 |nil=>simp_all [L9.g]
 |cons x xs ih =>
  intro d h n;cases n with
  |zero=>simp [L9.g]
  |succ n=>grind [L9.g]
theorem L9.drop {x:List SD}:∀{d:List Data},L9.g C vs x d->∀n,L9.g C vs (x.drop n) (d.drop n):=by
 induction x with
 |nil=>simp_all [L9.g]
 |cons x xs ih =>
  intro d h n;have h' :=h;obtain ⟨d,ds,rfl,h2,h3⟩:=h;cases n with
  |zero=>exact h'
  |succ n=>simp_all
theorem RY {sz:Nat}:∀(n:Nat) {xs:List SD} {ds:List Data},O xs=n * sz->L9.g C vs xs ds ->
  ∃rows:List (List Data),rows.flatten=ds/\O rows=n/\(∀r,r∈zu sz n xs->O r=sz)/\∀r,r∈rows->∃s,s∈zu sz n xs/\L9.g C vs s r
 |0,xs,ds,hl,h=>by
  have:xs=[]:=List.eq_nil_of_length_eq_zero V;subst this;simp only [L9.g] at h;subst h;exact ⟨[],rfl,rfl,by simp [zu],U⟩
 |n+1,xs,ds,hl,h=>by
  rw [Nat.succ_mul] at hl;obtain ⟨rows,h1,h2,h3,h4⟩:=RY (sz:=sz) n (xs:=xs.drop sz) D (L9.drop h sz);refine ⟨ds.take sz::rows,by simp [h1],by simp [h2],λr hr=>?_,λr hr=>?_⟩
  .grind [zu]
  .rcases C4.1 hr with rfl|hr
   all_goals simp_all [zu,L9.take]
def sG {sz len:Nat}{xs:List SD}{ds:List Data}(hl:O xs=len * sz)(h:L9.g C vs xs ds):(mkSlice sz len xs).g C vs (.slice len ds):=by
 unfold mkSlice;split
 .grind [SD.g,Yl]
 .obtain ⟨rows,h1,h2,h3,h4⟩:=RY len hl h
  refine ⟨rows,by rw [h1,h2],V,V,(λi e=>by cases e),λr hr=>?_⟩;obtain ⟨s,h5,h6⟩:=h4 r hr;cases hs:zu sz len xs with
  |nil=>simp_all
  |cons q qs =>
   rw [hs] at h5 h3;obtain ⟨f1,f2,_⟩:=Ml (C:=C) (vs:=vs) qs q (h3 q U) (λr hr=>h3 r (by simp [hr]))
   grind [Zq]
end
def exact? (i4:mG)(x:SD):Option Int:=match x.int? i4 with
 |some (_,a,b,_)=>if decide (a=b) then J a else K
 |none=>K
def Gu (σ:z6->SV)(i4:mG)(dl dh:Int):Option z6->Option (Int×Int)
 |none=>J (dl,dh)
 |some x=>match σ x with
  | .d y=>match y.int? i4 with
   |some (_,a,b,_)=>J (a,b)
   |none=>K
  |_=>K
def Yk (v:Option Nat)(lo hi:Nat):SD:=if y7 lo hi then .lit (.int .i64 lo) else .int .i64 lo hi (match v with|some i=> .eq i|none=> .no)
def inR:Rel->Option Nat->Bool
 | .lt p,J q=>y7 p q
 |_,_=>F
def Dx (σ:z6->SV)(H:List SO)(i4:mG):s7->Option (SV×List Nat)
 | .pick c a b=>match σ c with
  | .d x=>match x.bool? with
   |some (.t t)=>J (if t then σ a else σ b,[])
   |_=>K
  |_=>K
 | .build zero parts=>match Dn (zero.map ofA) (parts.map λ(o,s,x)=>(o,s,σ x)) with
  |some cs=>J (.agg K cs,[])
  |none=>K
 | .J3 sz len zero parts F=>match Dn (zero.map ofA) (parts.map λ(o,s,x)=>(o,s,σ x)) with
  |some cs=>match lU cs with
   |some xs=>if Nat.blt 0 sz&&y7 (O xs) (len * sz) then J (.own sz (mkSlice sz len xs),[]) else K
   |none=>K
  |none=>K
 | .load K x=>match σ x with
  | .ptr id off=>match srd H id off 1 with
   |some [v]=>J (v.F4,[id])
   |_=>K
  | .U2 (c::_)=>J (.d c,[])
  |_=>K
 | .load (J n) x=>match σ x with
  | .ptr id off=>match H[id]? with
   |some (.cells p l)=>if F0 (off+n) (O l) then J (.agg (if y7 off 0&&y7 n (O l) then p else K) (((l.drop off).take n).map SV.F4),[id]) else K
   |_=>K
  | .U2 row=>if F0 n (O row) then J (.agg K ((row.take n).map .d),[]) else K
  |_=>K
 | .cH x=>match σ x with
  | .ptr id off=>J (.ptr id off,[])
  | .wp id lo z c=>J (.wp id lo z c,[])
  | .U2 row=>J (.U2 row,[])
  |_=>K
 | .bin op x y=>match σ x,σ y with
  | .d a,.d b=>match aP2 i4 op a b with
   |some z=>J (.d z,[])
   |none=>K
  |_,_=>K
 | .A1 _ x y=>match σ x,σ y with
  | .d a,.d b=>match a.bool?,b.bool? with
   |some _,J _=>J (.d (.bool .xb),[])
   |_,_=>K
  |_,_=>K
 | .un .not x=>match σ x with
  | .d a=>match a.bool? with
   |some (.t b)=>J (.d (.lit (.bool (!b))),[])
   |some (.u c)=>J (.d (.bool c.not),[])
   |none=>K
  |_=>K
 | .pE k x=>match σ x with
  | .d a=>match a.kind? with
   |some _=>J (.d (.anyI k),[])
   |none=>K
  |_=>K
 | .mH x=>match σ x with
  | .d a=>match a.slice? i4 1 with
   |some (_,_,hi,[c])=>match c.kind? with
    |some .u8=>J (.d (.str hi),[])
    |_=>K
   |_=>K
  |_=>K
 | .Z0 sz x lo hi=>match σ x with
  | .d a=>match a.slice? i4 sz with
   |some (_,l1,l2,row)=>match Gu σ i4 0 0 lo,hi with
    |some (a1,a2),K=>if decide (0<=a1)&&decide (a2<=l1) then J (.d (.slice K (l1 - a2.toNat) (l2 - a1.toNat) row),[]) else K
    |some (a1,a2),J h=>match Gu σ i4 0 0 (J h) with
     |some (b1,b2)=>if decide (0<=a1)&&decide (a2<=b1)&&decide (b2<=l1) then J (.d (.slice K (b1 - a2).toNat (b2 - a1).toNat row),[]) else K
     |none=>K
    |_,_=>K
   |none=>K
  | .s5 id z a len=>match Gu σ i4 0 0 lo,Gu σ i4 len len hi with
   |some (a1,a2),J (b1,b2)=>if decide (a1=a2)&&decide (b1=b2)&&decide (0<=a1)&&decide (a1<=b1)&&decide (b1<=len)&&y7 z sz then
     (if decide (a1=b1) then J (.d (.lit (.slice 0 [])),[]) else J (.s5 id sz (a+a1.toNat * sz) (b1 - a1).toNat,[])) else K
   |_,_=>K
  |_=>K
 | .off k x=>match σ x with
  | .ptr id off=>J (.ptr id (off+k),[])
  | .wp id lo z c=>J (.wp id (lo+k) z c,[])
  | .U2 row=>if F0 k (O row) then J (.U2 (row.drop k),[]) else K
  |_=>K
 | .J4 sz x i=>match σ x,σ i with
  | .d a,.d j=>match a.slice? i4 sz,j.int? i4 with
   |some (v,lo,_,row),J (_,j1,j2,r)=>if decide (0<=j1)&&(decide (j2<lo)||inR r v) then J (.U2 row,[]) else K
   |_,_=>K
  | .s5 id z lo len,.d j=>match exact? i4 j with
   |some n=>if decide (0<=n)&&decide (n<len)&&y7 z sz then J (.ptr id (lo+n.toNat * sz),[]) else K
   |none=>match j.int? i4 with
    |some (_,a,b,_)=>if decide (0<=a)&&decide (b<len)&&y7 z sz then J (.wp id lo sz len,[]) else K
    |none=>K
  |_,_=>K
 | .extract x i=>match σ x with
  | .tuple vs=>match vs[i]? with
   |some v=>J (v,[])
   |none=>K
  |_=>K
 | .len x=>match σ x with
  | .d a=>match a.uA i4 with
   |some (v,lo,hi)=>J (.d (Yk v lo hi),[])
   |none=>K
  | .s5 _ _ _ len=>J (.d (.lit (.int .i64 len)),[])
  |_=>K
 | .Y0 x=>match σ x with
  | .d a=>match a.wg with
   |some (m,K)=>J (.d (.int .i64 0 m .no),[])
   |some (_,J s)=>J (.d (.lit (.int .i64 (O s))),[])
   |none=>K
  |_=>K
 |_=>K
section
variable {C:Ctx} {vs:List Nat} {i4:mG}
theorem bV {x:SD}{v:c7}(h:(SV.d x).g C vs v):∃d,v= .d d/\x.g C vs d:=by simp_all [SV.g]
theorem uE {z:Nat}{x:SD}{v:c7}(h:(SV.own z x).g C vs v):∃len cells,v= .own z len cells/\x.g C vs (.slice len cells):=by simp_all [SV.g]
theorem dO {x:SD}{d:Data}(h:x.g C vs d):(SV.d x).g C vs (.d d):=by simp_all [SV.g]
def dc {id off:Nat}{v:c7}(h:(SV.ptr id off).g C vs v):v= .ptr id off:=by simp_all [SV.g]
def oT {id off a b:Nat}{v:c7}(h:(SV.s5 id off a b).g C vs v):v= .s5 id off a b:=by simp_all [SV.g]
def Be {row:List SD}{v:c7}(h:(SV.U2 row).g C vs v):∃cells rest,v= .U2 (cells++rest)/\L9.g C vs row cells:=by simp_all [SV.g]
def ao8 {v:Option Nat}{lo hi n:Nat}(h1:lo<=n)(h2:n<=hi)(h3:∀i,v=J i->vs[i]? =J n):(Yk v lo hi).g C vs (.int .i64 n):=by
 unfold Yk;split
 .grind [j4,SD.g]
 .refine ⟨_,rfl,V,V,?_⟩
  split
  .exact ⟨n,h3 _ rfl,rfl⟩
  .trivial
def al2 (hB:Bg vs i4){x:SD}{d:Data}{n:Int}(h:exact? i4 x=J n)(hx:x.g C vs d):∃k,d= .int k n:=by
 unfold exact? at h;split at h
 .split at h
  .grind [SD.kP]
  .cases h
 .cases h
def Di (hB:Bg vs i4){σ:z6->SV}{ρ:z6->c7}(hρ:∀x,(σ x).g C vs (ρ x)){dl dh a b:Int}{n:Nat}{o:Option z6}(hn:o=K->dl<=n/\(n:Int)<=dh)(h:Gu σ i4 dl dh o=J (a,b)):∃m,V2 ρ n o=J m/\a<=m/\m<=b:=by
 cases o with
 |none=>obtain ⟨rfl,rfl⟩:=h;exact ⟨n,rfl,hn rfl⟩
 |some x =>
  have h1:=hρ x;simp [Gu] at h;split at h
  next y hy=>
   rw [hy] at h1;split at h
   next k p q r hi=>
    obtain ⟨d,e,h1⟩:=bV h1;obtain ⟨m,rfl,h2,h3,_⟩:=SD.kP hB hi h1;simp_all [V2]
   .cases h
  .cases h
theorem B6.Vm:∀{x:List SD} {d:List Data},L9.g C vs x d->B6.g C vs (x.map .d) (d.map .d)
 |[],_,h=>by simp_all [L9.g,B6.g]
 |x::xs,_,h=>by
  obtain ⟨d,ds,rfl,h1,h2⟩:=h;exact ⟨_,_,rfl,dO h1,B6.Vm h2⟩
theorem RV {sz:Nat}:∀{rows:List (List Data)} {i:Nat},(∀r,r∈rows->O r=sz)->i<O rows->∃r,r∈rows/\rows.flatten.drop (i * sz)=r++rows.flatten.drop ((i+1) * sz)
 |[],i,_,h=>by simp at h
 |r::rows,0,hr,h=>by
  simp_all
 |r::rows,i+1,hr,h=>by
  obtain ⟨q,h1,h2⟩:=RV (rows:=rows) (i:=i) (λr h=>hr r (by simp [h])) (by simpa using h);simp_all [List.flatten_cons,List.drop_append,o7,Nat.succ_mul,Nat.add_sub_cancel]
theorem ny {sz:Nat}:∀{rows:List (List Data)},(∀r,r∈rows->O r=sz)->O rows.flatten=O rows * sz
 |[],_=>U
 |r::rows,h=>by
  have:=ny (rows:=rows) (λr hr=>h r (by simp [hr]))
  grind
theorem DG {sz:Nat}:∀{rows:List (List Data)},(∀r,r∈rows->O r=sz)->∀i,rows.flatten.take (i * sz)=(rows.take i).flatten
 |[],_,i=>U
 |r::rows,h,0=>U
 |r::rows,h,i+1=>by
  have:=DG (rows:=rows) (λr hr=>h r (by simp [hr])) i;simp_all [List.flatten_cons,List.take_succ_cons,List.take_append,y6,Nat.succ_mul,Nat.add_sub_cancel]
theorem Cf {sz:Nat}:∀{rows:List (List Data)},(∀r,r∈rows->O r=sz)->∀i,rows.flatten.drop (i * sz)=(rows.drop i).flatten
 |[],_,i=>U
 |r::rows,h,0=>U
 |r::rows,h,i+1=>by
  have:=Cf (rows:=rows) (λr hr=>h r (by simp [hr])) i;simp_all [List.flatten_cons,List.drop_succ_cons,List.drop_append,o7,Nat.succ_mul,Nat.add_sub_cancel]
def YM {sz:Nat}{row:List SD}{rows:List (List Data)}{a b l1 l2:Nat}(hw:O row=sz)(hr:∀r,r∈rows->L9.g C vs row r)(hab:a<=b)(hb:b<=O rows)(h1:l1<=b - a)(h2:b - a<=l2) :
  (SD.slice K l1 l2 row).g C vs (.slice ((b:Int) - a).toNat ((rows.flatten.take (b * sz)).drop (a * sz))):=by
 have hrl:∀r,r∈rows->O r=sz:=λr h=>by grind [L9.len]
 grind [List.mem_of_mem_take,DG,Cf,SD.g,List.mem_of_mem_drop]
theorem QJ {c:SD}(hk:c.kind? =J .u8):∀{rows:List (List Data)},(∀r,r∈rows->L9.g C vs [c] r)->∃bs,je rows.flatten=J bs/\O bs=O rows
 |[],_=>⟨[],rfl,rfl⟩
 |r::rows,h=>by
  obtain ⟨bs,h1,h2⟩:=QJ hk (rows:=rows) (λr hr=>h r (by simp [hr]));have h3:=h r U
  grind [L9.g,SD.Bf,UInt8.ofNat,je]
def av2 (hB:Bg vs i4){σ:z6->SV}{ρ:z6->c7}(hρ:∀x,(σ x).g C vs (ρ x)){H:List SO}{H' :n9}(hH:M0.g C vs H H'){op:s7}{v:SV}{rs:List Nat}(h:Dx σ H i4 op=J (v,rs)) :
  ∃r,l8 ρ H' op=J (r,rs)/\v.g C vs r:=by
 cases op<;>simp only [Dx,reduceCtorEq] at h
 case pick c a b =>
  have hc:=hρ c;split at h
  next x hx=>
   rw [hx] at hc;obtain ⟨d,e1,hd⟩:=bV hc;split at h
   next t ht=>
    obtain ⟨t',rfl,e2⟩:=SD.gn ht hd;simp only at e2;subst e2;cases h;refine ⟨_,(by simp only [l8,e1];rfl),?_⟩;cases t' <;>exact hρ _
   .cases h
  .cases h
 case build zero parts =>
  split at h
  next cs hcs=>
   cases h;obtain ⟨ds,h1,h2⟩:=Bu (vM hρ parts) (CY zero) hcs;exact ⟨_,(by simp only [l8,h1];rfl),by simp only [SV.g];exact ⟨_,rfl,h2,λk h=>by cases h⟩⟩
  .cases h
 case J3 sz len zero parts ob =>
  cases ob<;>simp only [Dx,reduceCtorEq] at h;split at h
  next cs hcs=>
   split at h
   next xs hxs=>
    split at h
    next hc=>
     simp only [c8] at hc;have c1:=l5 hc.1;have c2:=j4 hc.2;cases h;obtain ⟨ds,h1,h2⟩:=Bu (vM hρ parts) (CY zero) hcs;obtain ⟨es,h3,h4⟩:=qU h2 hxs;have hl:=L9.len h4;refine ⟨.own sz len es,?_,by simp only [SV.g];exact ⟨_,_,rfl,sG c2 h4⟩⟩;simp only [l8,h1,h3];rw [if_pos ⟨V,V⟩]
    .cases h
   .cases h
  .cases h
 case load n x =>
  have hx:=hρ x;cases n with
  |none =>
   simp only [Dx] at h;split at h
   next id off e=>
    rw [e] at hx;have e1:=dc hx;split at h
    next w hw=>
     cases h;obtain ⟨cs,h1,h2⟩:=GB hH hw;simp only [B6.g] at h2;obtain ⟨a,_,rfl,h3,rfl⟩:=h2;exact ⟨_,(by simp only [l8,e1,h1]),SV.th h3⟩
    .cases h
   next c row e=>
    rw [e] at hx;obtain ⟨cells,rest,e1,h1⟩:=Be hx;cases h;simp only [L9.g] at h1;obtain ⟨d,ds,rfl,h2,h3⟩:=h1;exact ⟨.d d,by simp only [l8,e1,G9],dO h2⟩
   .cases h
  |some n =>
   simp only [Dx] at h;split at h
   next id off e=>
    rw [e] at hx;have e1:=dc hx;split at h
    next p l hl=>
     split at h
     next hc=>
      have hc:=l5 hc;cases h;obtain ⟨o,h1,h2⟩:=M0.get hH hl;obtain ⟨cs,rfl,h3,h4⟩:=h2;have hlen:=B6.len h3;refine ⟨.agg (((cs.drop off).take n).map c7.F4),?_,?_⟩
      .simp only [l8,e1,rd,h1]
       rw [if_pos V]
      .simp only [SV.g]
       refine ⟨_,rfl,B6.map (λ_ _=>SV.th) (B6.take (B6.drop h3 off) n),λk hk=>?_⟩;split at hk
       next pG=>
        simp only [c8] at pG;have c1:=j4 pG.1;have c2:=j4 pG.2;subst c1;have:(cs.drop 0).take n=cs:=by rw [List.drop_zero,y6 V]
        rw [this];have e3:(cs.map c7.F4).map c7.F4=cs.map c7.F4:=by
         rw [List.map_map]
         congr 1
         funext v
         cases v<;>rfl
        rw [e3];exact h4 k hk
       .cases hk
     .cases h
    .cases h
   next row e=>
    rw [e] at hx;obtain ⟨cells,rest,e1,h1⟩:=Be hx;split at h
    next hc=>
     have hc:=l5 hc;cases h;have hlen:=L9.len h1;refine ⟨.agg ((cells.take n).map .d),?_,?_⟩
     .simp only [l8,e1]
      rw [if_pos D,List.take_append_of_le_length V]
     .simp only [SV.g]
      exact ⟨_,rfl,B6.Vm (L9.take h1 n),λk h=>by cases h⟩
    .cases h
   .cases h
 case cH x =>
  have hx:=hρ x;split at h
  next id off e=>
   cases h;rw [e] at hx;exact ⟨_,(by simp only [l8,dc hx];rfl),by simp only [SV.g]⟩
  next id lo z c e=>
   cases h;rw [e] at hx;simp only [SV.g] at hx;obtain ⟨j,j1,j2⟩:=hx;exact ⟨_,(by simp only [l8,j2];rfl),by simp only [SV.g];exact ⟨j,j1,rfl⟩⟩
  next row e=>
   cases h;rw [e] at hx;obtain ⟨cells,rest,e1,h1⟩:=Be hx;exact ⟨_,(by simp only [l8,e1];rfl),by simp only [SV.g];exact ⟨_,_,rfl,h1⟩⟩
  .cases h
 case bin op x y =>
  have hx:=hρ x;have hy:=hρ y;split at h
  next a b ea eb=>
   rw [ea] at hx;rw [eb] at hy;obtain ⟨d,e1,h1⟩:=bV hx;obtain ⟨f,e2,h2⟩:=bV hy;split at h
   next z hz=>
    cases h;obtain ⟨r,h3,h4⟩:=aP3 hB h1 h2 hz;exact ⟨.d r,by simp only [l8,e1,e2,h3],dO h4⟩
   .cases h
  .cases h
 case un op x =>
  cases op<;>simp only [Dx,reduceCtorEq] at h;have hx:=hρ x;split at h
  next a ea=>
   rw [ea] at hx;obtain ⟨d,e1,h1⟩:=bV hx;split at h
   next b hb=>
    cases h;obtain ⟨b',rfl,e2⟩:=SD.gn hb h1;simp only at e2;subst e2;exact ⟨_,(by simp only [l8,e1,DO];rfl),dO (by simp [SD.g])⟩
   next c hc=>
    cases h;obtain ⟨b',rfl,e2⟩:=SD.gn hc h1;have:=RK (C:=C) (vs:=vs) (x:= .bool c) (b:=b') (by simp only [SD.g];exact ⟨_,rfl,e2⟩);exact ⟨_,(by simp only [l8,e1,DO]),dO this⟩
   .cases h
  .cases h
 case A1 neg x y =>
  have hx:=hρ x;have hy:=hρ y;split at h
  next a b ea eb=>
   rw [ea] at hx;rw [eb] at hy;obtain ⟨d,e1,h1⟩:=bV hx;obtain ⟨f,e2,h2⟩:=bV hy;split at h
   next p q hp hq=>
    cases h;obtain ⟨t,rfl,_⟩:=SD.gn hp h1;obtain ⟨u,rfl,_⟩:=SD.gn hq h2;exact ⟨_,(by simp only [l8,e1,e2];rfl),dO (by simp only [SD.g];exact ⟨_,rfl,trivial⟩)⟩
   .cases h
  .cases h
 case pE k x =>
  have hx:=hρ x;split at h
  next a ea=>
   rw [ea] at hx;obtain ⟨d,e1,h1⟩:=bV hx;split at h
   next k' hk=>
    cases h;obtain ⟨n,rfl⟩:=SD.Bf hk h1;exact ⟨_,(by simp only [l8,e1];rfl),dO (by simp only [SD.g];exact ⟨_,rfl⟩)⟩
   .cases h
  .cases h
 case mH x =>
  have hx:=hρ x;split at h
  next a ea=>
   rw [ea] at hx;obtain ⟨d,e1,h1⟩:=bV hx;split at h
   next v lo hi c hs=>
    split at h
    next hk=>
     cases h;obtain ⟨_,rows,rfl,h2,h3,h4,h5⟩:=SD.gL hB hs h1;obtain ⟨bs,h6,h7⟩:=QJ hk h5;have hl:O rows.flatten=O rows:=by
      have:=ny (sz:=1) (rows:=rows) (λr hr=>L9.len (h5 r hr));omega
     exact ⟨.d (.str bs),by simp only [l8,e1,hl,if_true,h6],dO (by simp only [SD.g];exact ⟨_,rfl,V⟩)⟩
    .cases h
   .cases h
  .cases h
 case Z0 sz x lo hi =>
  have hx:=hρ x;split at h
  next a ea=>
   rw [ea] at hx;obtain ⟨d,e1,h1⟩:=bV hx;split at h
   next v l1 l2 row hs=>
    obtain ⟨hw,rows,rfl,h2,h3,h4,h5⟩:=SD.gL hB hs h1;have hfl:O rows.flatten=O rows * sz:=ny (λr hr=>by rw [L9.len (h5 r hr)];exact hw);split at h
    next a1 a2 hlo=>
     split at h
     next hc=>
      simp only [c8,decide_eq_true_eq] at hc;cases h;obtain ⟨m,b1,b2,b3⟩:=Di (n:=0) hB hρ (λ_=>⟨Int.le_refl _,Int.le_refl _⟩) hlo;obtain ⟨m',rfl⟩:=Int.eq_ofNat_of_zero_le (show 0<=m by omega);refine ⟨_,?_,dO (YM (a:=m') (b:=O rows) (l1:=l1 - a2.toNat) (l2:=l2 - a1.toNat) hw h5 V (o6 _) V V)⟩;have b4:V2 ρ (O rows) K=J (O rows:Int):=rfl;simp only [l8,e1,b1,b4];rw [if_pos (by refine ⟨?_,?_,?_,hfl⟩<;>omega)];simp
     .cases h
    next a1 a2 hop hlo=>
     split at h
     next b1 b2 hhi=>
      split at h
      next hc=>
       simp only [c8,decide_eq_true_eq] at hc;cases h;obtain ⟨m,c1,c2,c3⟩:=Di (n:=0) hB hρ (λ_=>⟨Int.le_refl _,Int.le_refl _⟩) hlo;obtain ⟨q,d1,d2,d3⟩:=Di (n:=O rows) (dl:=0) (dh:=0) hB hρ (o:=J hop) (λh=>by cases h) hhi;obtain ⟨m',rfl⟩:=Int.eq_ofNat_of_zero_le (show 0<=m by omega);obtain ⟨q',rfl⟩:=Int.eq_ofNat_of_zero_le (show 0<=q by omega);refine ⟨_,?_,dO (YM (a:=m') (b:=q') (l1:=(b1 - a2).toNat) (l2:=(b2 - a1).toNat) hw h5 V V V V)⟩;simp only [l8,e1,c1,d1];rw [if_pos (by refine ⟨?_,?_,?_,hfl⟩<;>omega)];simp
      .cases h
     .cases h
    .cases h
   .cases h
  next id z a len ea=>
   rw [ea] at hx;have e1:=oT hx;split at h
   next a1 a2 b1 b2 hlo hhi=>
    split at h
    next hc=>
     simp only [c8,decide_eq_true_eq] at hc;obtain ⟨⟨⟨⟨⟨c1,c2⟩,c3⟩,c4⟩,c5⟩,c6⟩:=hc;have c6:=j4 c6;subst c6;obtain ⟨m,f1,f2,f3⟩:=Di (n:=0) hB hρ (λ_=>⟨Int.le_refl _,Int.le_refl _⟩) hlo;obtain ⟨q,g1,g2,g3⟩:=Di (n:=len) hB hρ (λ_=>⟨Int.le_refl _,Int.le_refl _⟩) hhi;have em:m=a1:=V
     have eq:q=b1:=V
     subst em eq;simp only [l8,e1,f1,g1];rw [if_pos ⟨V,V,V,trivial⟩];split at h
     next he=>
      simp only [decide_eq_true_eq] at he;cases h;rw [if_pos he];exact ⟨_,rfl,dO (by simp [SD.g])⟩
     next he=>
      simp only [decide_eq_true_eq] at he;cases h;rw [if_neg he];exact ⟨_,rfl,by simp only [SV.g]⟩
    .cases h
   .cases h
  .cases h
 case off k x =>
  have hx:=hρ x;split at h
  next id off e=>
   cases h;rw [e] at hx;exact ⟨_,(by simp only [l8,dc hx];rfl),by simp only [SV.g]⟩
  next id lo z c e=>
   cases h;rw [e] at hx;simp only [SV.g] at hx;obtain ⟨j,j1,j2⟩:=hx;exact ⟨.ptr id (lo+j * z+k),(by simp only [l8,j2]),by simp only [SV.g];exact ⟨j,j1,by rw [show lo+k+j * z=lo+j * z+k by omega]⟩⟩
  next row e=>
   rw [e] at hx;split at h
   next hc=>
    have hc:=l5 hc;cases h;obtain ⟨cells,rest,e1,h1⟩:=Be hx;have:=L9.len h1;refine ⟨_,(by simp only [l8,e1];rfl),?_⟩;simp only [SV.g];exact ⟨cells.drop k,rest,by rw [List.drop_append_of_le_length V],L9.drop h1 k⟩
   .cases h
  .cases h
 case J4 sz x i =>
  have hx:=hρ x;have hi:=hρ i;split at h
  next a j ea ej=>
   rw [ea] at hx;rw [ej] at hi;obtain ⟨d,e1,h1⟩:=bV hx;obtain ⟨f,e2,h2⟩:=bV hi;split at h
   next v lo hi' row k j1 j2 r hs hj=>
    split at h
    next hc=>
     simp only [c8,Bool.or_eq_true,decide_eq_true_eq] at hc;cases h;obtain ⟨hw,rows,rfl,h3,h4,h5,h6⟩:=SD.gL hB hs h1;obtain ⟨n,rfl,k1,k2,k3⟩:=SD.kP hB hj h2;have hlt:0<=n/\n<O rows:=by
      refine ⟨V,?_⟩
      rcases hc.2 with hc|hc
      .omega
      .unfold inR at hc
       split at hc
       next p q=>
        have hpq:=j4 hc;subst hpq;obtain ⟨m,m1,m2,m3⟩:=k3;rw [h5 _ rfl] at m1;cases m1;exact m3
       .cases hc
     obtain ⟨n',rfl⟩:=Int.eq_ofNat_of_zero_le hlt.1;obtain ⟨q,q1,q2⟩:=RV (sz:=sz) (rows:=rows) (i:=n') (λr hr=>by rw [L9.len (h6 r hr)];exact hw) V;refine ⟨.U2 (rows.flatten.drop (n' * sz)),?_,?_⟩
     .simp only [l8,e1,e2]
      rw [if_pos hlt];simp
     .simp only [SV.g]
      exact ⟨q,_,by rw [q2],h6 q q1⟩
    .cases h
   .cases h
  next id z lo len j ea ej=>
   rw [ea] at hx;rw [ej] at hi;have e1:=oT hx;obtain ⟨f,e2,h2⟩:=bV hi;split at h
   next n hn=>
    split at h
    next hc=>
     simp only [c8,decide_eq_true_eq] at hc;have c2:=j4 hc.2;cases h;obtain ⟨k,rfl⟩:=al2 hB hn h2;refine ⟨.ptr id (lo+n.toNat * sz),?_,by simp only [SV.g]⟩;simp only [l8,e1,e2];rw [if_pos ⟨hc.1.1,hc.1.2,c2⟩]
    .cases h
   .split at h
    next k a b r hj=>
     split at h
     next hc=>
      simp only [c8,decide_eq_true_eq] at hc;have c2:=j4 hc.2;cases h;obtain ⟨n,rfl,k1,k2,_⟩:=SD.kP hB hj h2;refine ⟨.ptr id (lo+n.toNat * sz),?_,?_⟩
      .simp only [l8,e1,e2]
       rw [if_pos ⟨V,V,c2⟩]
      .simp only [SV.g]
       exact ⟨n.toNat,V,rfl⟩
     .cases h
    .cases h
  .cases h
 case extract x i =>
  have hx:=hρ x;split at h
  next l e=>
   rw [e] at hx;simp only [SV.g] at hx;obtain ⟨cs,e1,h1⟩:=hx;split at h
   next v' hv=>
    cases h;obtain ⟨b,h2,h3⟩:=B6.get h1 hv;exact ⟨b,by simp only [l8,e1,h2],h3⟩
   .cases h
  .cases h
 case len x =>
  have hx:=hρ x;split at h
  next a ea=>
   rw [ea] at hx;obtain ⟨d,e1,h1⟩:=bV hx;split at h
   next v' lo hi hl=>
    cases h;obtain ⟨n,cells,rfl,h2,h3,h4⟩:=SD.Px hB hl h1;exact ⟨.d (.int .i64 n),by simp only [l8,e1,i64],dO (ao8 h2 h3 h4)⟩
   .cases h
  next e=>
   cases h;rw [e] at hx;exact ⟨_,(by simp only [l8,oT hx,i64];rfl),dO (by simp [SD.g])⟩
  .cases h
 case Y0 x =>
  have hx:=hρ x;split at h
  next a ea=>
   rw [ea] at hx;obtain ⟨d,e1,h1⟩:=bV hx;split at h
   next m hm=>
    cases h;obtain ⟨s,rfl,h2,_⟩:=SD.yf hm h1;exact ⟨.d (.int .i64 (O s)),by simp only [l8,e1,i64],dO (by simp only [SD.g];exact ⟨_,rfl,V,V,trivial⟩)⟩
   next m s hm=>
    cases h;obtain ⟨s',rfl,h2,h3⟩:=SD.yf hm h1;have:=h3 s rfl;subst this;exact ⟨.d (.int .i64 (O s')),by simp only [l8,e1,i64],dO (by simp [SD.g])⟩
   .cases h
  .cases h
end
structure SS where
 T:List SV
 H:List SO
 L:List SV
 o5:List Touch
 i4:mG
def SS.g (C:Ctx)(vs:List Nat)(s:SS)(st:G4):Prop:=B6.g C vs s.T st.T/\M0.g C vs s.H st.H/\B6.g C vs s.L st.L/\st.o5=s.o5/\Bg vs s.i4
def rj (s:SS)(k:Nat)(v:SV):SS:={ s with L:=s.L.set k v }
mutual
def SV.aa :SV->Option Nat
 | .top=>K
 | .ptr id _=>J (id+1)
 | .s5 id _ _ _=>J (id+1)
 | .wp id _ _ _=>J (id+1)
 | .agg _ l=>B6.aa l
 | .tuple l=>B6.aa l
 | .bn k=>J k
 |_=>J 0
def B6.aa :List SV->Option Nat
 |[]=>J 0
 |x::xs=>match x.aa,B6.aa xs with
  |some a,J b=>J (max a b)
  |_,_=>K
end
def SO.aa :SO->Option Nat
 | .dead=>J 0
 | .cells _ l=>B6.aa l
 | .pr _=>J 0
 | .bn k=>J k
 | .top=>K
 | .VB _ b=>J b
def BQ :List SO->Option (List Nat)
 |[]=>J []
 |o::os=>match o.aa,BQ os with
  |some a,J b=>J (a::b)
  |_,_=>K
mutual
def SV.kill (id:Nat):SV->SV
 | .ptr i o=>if y7 i id then .any else .ptr i o
 | .s5 i z l n=>if y7 i id then .any else .s5 i z l n
 | .agg p l=>match B6.aa l with
  |some 0=> .agg p l
  |_=> .agg K (B6.kill id l)
 | .tuple l=> .tuple (B6.kill id l)
 | .bn k=>if y7 k 0 then .bn 0 else .top
 | .wp .. => .top
 |v=>v
def B6.kill (id:Nat):List SV->List SV
 |[]=>[]
 |v::vs=>v.kill id::B6.kill id vs
end
def SO.kill (id:Nat):SO->SO
 | .cells p l=>match B6.aa l with
  |some 0=> .cells p l
  |_=> .cells K (B6.kill id l)
 | .bn k=>if y7 k 0 then .bn 0 else .top
 | .VB k b=>if F0 b id then .VB k b else .top
 |o=>o
mutual
theorem Yf (id:Nat):∀(v:c7),v.K9<=id->v.kill id=v
 | .any,_=>by simp [c7.kill]
 | .d _,_=>by simp [c7.kill]
 | .ptr i o,h=>by simp only [c7.K9] at h;simp only [c7.kill];rw [if_neg V]
 | .U2 _,_=>by simp [c7.kill]
 | .s5 i z l n,h=>by simp only [c7.K9] at h;simp only [c7.kill];rw [if_neg V]
 | .own _ _ _,_=>by simp [c7.kill]
 | .H7,_=>by simp [c7.kill]
 | .agg l,h=>by simp only [c7.K9] at h;simp only [c7.kill];rw [uz id l h]
 | .tuple l,h=>by simp only [c7.K9] at h;simp only [c7.kill];rw [uz id l h]
 | .func f a b,h=>by simp only [c7.K9] at h;simp only [c7.kill];rw [uz id a V,uz id b V]
 | .map i,h=>by simp only [c7.K9] at h;simp only [c7.kill];rw [if_neg V]
theorem uz (id:Nat):∀(l:List c7),C0 l<=id->K1 id l=l
 |[],_=>rfl
 |v::l,h=>by simp only [C0] at h;simp only [K1];rw [Yf id v V,uz id l V]
end
def aA6 (id:Nat)(v:c7)(h:v.K9=0):v.kill id=v:=Yf id v V
def Yg (id:Nat)(l:List c7)(h:C0 l=0):K1 id l=l:=uz id l V
def YG (id:Nat){o:B4}(h:o.K9<=id):o.kill id=o:=by
 cases o with
 |dead=>rfl
 |cells l=>simp only [B4.K9] at h;simp only [B4.kill,uz id l h]
 |map es =>
  simp only [B4.K9] at h;simp only [B4.kill]
  congr 1
  have:∀es:List (Key×c7),C0 (es.map (·.2))<=id->es.map (λp=>(p.1,p.2.kill id))=es:=by
   intro es
   induction es with
   |nil=>intro _;rfl
   |cons e es ih =>
    intro h;simp only [M8,C0] at h;simp only [M8];rw [Yf id e.2 V,ih V]
  exact this es h
def YF (id:Nat){o:B4}(h:o.K9=0):o.kill id=o:=YG id V
section
variable {C:Ctx} {vs:List Nat}
mutual
theorem SV.dZ:∀{x:SV} {v:c7} {n:Nat},x.aa =J n->x.g C vs v->v.K9=n
 | .top,_,_,h,_=>by simp [SV.aa] at h
 | .any,_,_,h,hg=>by simp only [SV.g] at hg;subst hg;simp only [SV.aa,Option.some.injEq] at h;subst h;rfl
 | .d _,_,_,h,hg=>by simp only [SV.g] at hg;obtain ⟨y,rfl,_⟩:=hg;simp only [SV.aa,Option.some.injEq] at h;subst h;rfl
 | .own _ _,_,_,h,hg=>by simp only [SV.g] at hg;obtain ⟨y,_,rfl,_⟩:=hg;simp only [SV.aa,Option.some.injEq] at h;subst h;rfl
 | .H7,_,_,h,hg=>by simp only [SV.g] at hg;subst hg;simp only [SV.aa,Option.some.injEq] at h;subst h;rfl
 | .ptr ..,_,_,h,hg=>by simp only [SV.g] at hg;subst hg;simp only [SV.aa,Option.some.injEq] at h;subst h;simp [c7.K9]
 | .U2 _,_,_,h,hg=>by simp only [SV.g] at hg;obtain ⟨_,_,rfl,_⟩:=hg;simp only [SV.aa,Option.some.injEq] at h;subst h;rfl
 | .wp ..,_,_,h,hg=>by simp only [SV.g] at hg;obtain ⟨j,_,rfl⟩:=hg;simp only [SV.aa,Option.some.injEq] at h;subst h;simp [c7.K9]
 | .s5 ..,_,_,h,hg=>by simp only [SV.g] at hg;subst hg;simp only [SV.aa,Option.some.injEq] at h;subst h;simp [c7.K9]
 | .agg p l,_,_,h,hg=>by simp only [SV.g] at hg;obtain ⟨cs,rfl,h1,_⟩:=hg;simp only [SV.aa] at h;simp only [c7.K9];exact B6.dZ h h1
 | .tuple l,_,_,h,hg=>by simp only [SV.g] at hg;obtain ⟨cs,rfl,h1⟩:=hg;simp only [SV.aa] at h;simp only [c7.K9];exact B6.dZ h h1
 | .bn k,_,_,h,hg=>by simp only [SV.g] at hg;simp only [SV.aa,Option.some.injEq] at h;subst h;exact hg.1
 | .q x,v,_,h,hg=>by
  simp only [SV.g] at hg;obtain ⟨y,h1,_⟩:=hg;simp only [SV.aa,Option.some.injEq] at h;subst h;cases v<;>simp only [c7.F4,reduceCtorEq] at h1<;>rfl
theorem B6.dZ:∀{x:List SV} {v:List c7} {n:Nat},B6.aa x=J n->B6.g C vs x v->C0 v=n
 |[],_,_,h,hg=>by simp only [B6.g] at hg;subst hg;simp only [B6.aa,Option.some.injEq] at h;subst h;rfl
 |x::xs,_,_,h,hg=>by
  simp only [B6.g] at hg;obtain ⟨d,ds,rfl,h1,h2⟩:=hg;simp only [B6.aa] at h;split at h
  next a b ha hb=>
   simp only [Option.some.injEq] at h;subst h;simp only [C0];rw [SV.dZ ha h1,B6.dZ hb h2]
  .cases h
end
theorem SO.dZ {x:SO}{o:B4}{n:Nat}(h:x.aa =J n)(hg:x.g C vs o):o.K9=n:=by
 cases x with
 |dead=>simp only [SO.g] at hg;subst hg;simp only [SO.aa,Option.some.injEq] at h;subst h;rfl
 |cells p l=>obtain ⟨cs,rfl,h1,_⟩:=hg;simp only [SO.aa] at h;simp only [B4.K9];exact B6.dZ h h1
 |pr k=>simp only [SO.g] at hg;simp only [SO.aa,Option.some.injEq] at h;subst h;exact C.K9 k o hg
 |bn k=>simp only [SO.g] at hg;simp only [SO.aa,Option.some.injEq] at h;subst h;exact hg
 |top=>simp [SO.aa] at h
 |VB k b=>simp only [SO.g] at hg;simp only [SO.aa,Option.some.injEq] at h;subst h;exact hg.2
theorem Ip:∀{x:List SO} {H:n9} {l:List Nat},BQ x=J l->M0.g C vs x H->H.map B4.K9=l
 |[],_,_,h,hg=>by simp_all [M0.g,BQ,Option.some.injEq]
 |x::xs,_,_,h,hg=>by
  obtain ⟨d,ds,rfl,h1,h2⟩:=hg;simp [BQ] at h;split at h
  next a b ha hb=>
   simp [Option.some.injEq] at h;subst h;simp only [M8];rw [SO.dZ ha h1,Ip hb h2]
  .cases h
mutual
theorem SV.gC (id:Nat):∀{x:SV} {v:c7},x.g C vs v->(x.kill id).g C vs (v.kill id)
 | .top,_,_=>by simp [SV.kill,SV.g]
 | .any,_,hg=>by simp only [SV.g] at hg;subst hg;simp [SV.kill,c7.kill,SV.g]
 | .d _,_,hg=>by have hg' :=hg;simp only [SV.g] at hg;obtain ⟨y,rfl,_⟩:=hg;simpa only [SV.kill,c7.kill] using hg'
 | .own _ _,_,hg=>by have hg' :=hg;simp only [SV.g] at hg;obtain ⟨y,_,rfl,_⟩:=hg;simpa only [SV.kill,c7.kill] using hg'
 | .H7,_,hg=>by simp only [SV.g] at hg;subst hg;simp [SV.kill,c7.kill,SV.g]
 | .ptr i o,_,hg=>by
  simp only [SV.g] at hg;subst hg;simp only [SV.kill,c7.kill];split
  .rename_i h;rw [if_pos (j4 h)];simp [SV.g]
  .rename_i h;rw [if_neg (λe=>h (by rw [e];exact Nat.beq_refl _))];simp [SV.g]
 | .wp ..,_,_=>by simp [SV.kill,SV.g]
 | .U2 _,_,hg=>by have hg' :=hg;simp only [SV.g] at hg;obtain ⟨_,_,rfl,_⟩:=hg;simpa only [SV.kill,c7.kill] using hg'
 | .s5 i z l n,_,hg=>by
  simp only [SV.g] at hg;subst hg;simp only [SV.kill,c7.kill];split
  .rename_i h;rw [if_pos (j4 h)];simp [SV.g]
  .rename_i h;rw [if_neg (λe=>h (by rw [e];exact Nat.beq_refl _))];simp [SV.g]
 | .agg p l,_,hg=>by
  have hg' :=hg;simp only [SV.g] at hg;obtain ⟨cs,rfl,h1,h2⟩:=hg;simp only [SV.kill,c7.kill];split
  next h=>
   rw [Yg id cs (B6.dZ h h1)];exact hg'
  .simp only [SV.g]
   exact ⟨_,rfl,B6.gC id h1,λk h=>by cases h⟩
 | .tuple l,_,hg=>by
  simp only [SV.g] at hg;obtain ⟨cs,rfl,h1⟩:=hg;simp only [SV.kill,c7.kill,SV.g];exact ⟨_,rfl,B6.gC id h1⟩
 | .bn k,v,hg=>by
  simp only [SV.kill];split
  next h=>
   have h:=j4 h;subst h;simp only [SV.g] at hg ⊢;rw [aA6 id v hg.1];exact hg
  .simp [SV.g]
 | .q x,v,hg=>by
  have hg' :=hg;simp only [SV.g] at hg;obtain ⟨y,h1,_⟩:=hg;simp only [SV.kill];rw [aA6 id v (by cases v<;>simp only [c7.F4,reduceCtorEq] at h1<;>rfl)];exact hg'
theorem B6.gC (id:Nat):∀{x:List SV} {v:List c7},B6.g C vs x v->B6.g C vs (B6.kill id x) (K1 id v)
 |[],_,h=>by simp only [B6.g] at h;subst h;simp [B6.kill,K1,B6.g]
 |x::xs,_,h=>by
  simp only [B6.g] at h;obtain ⟨d,ds,rfl,h2,h3⟩:=h;simp only [B6.kill,K1,B6.g];exact ⟨_,_,rfl,SV.gC id h2,B6.gC id h3⟩
end
theorem SO.gC (id:Nat){x:SO}{o:B4}(h:x.g C vs o):(x.kill id).g C vs (o.kill id):=by
 cases x with
 |dead=>simp only [SO.g] at h;subst h;rfl
 |cells p l =>
  have h' :=h;obtain ⟨cs,rfl,h1,h2⟩:=h;simp only [SO.kill,B4.kill];split
  next hb=>
   rw [Yg id cs (B6.dZ hb h1)];exact h'
  .exact ⟨_,rfl,B6.gC id h1,λk h=>by cases h⟩
 |pr k =>
  simp only [SO.g] at h;simp only [SO.kill];rw [YF id (C.K9 k o h)];exact h
 |bn k =>
  simp only [SO.kill];split
  next hk=>
   have hk:=j4 hk;subst hk;rw [YF id h];exact h
  .trivial
 |top=>trivial
 |VB k b =>
  simp only [SO.kill];split
  next hk=>
   rw [YG id (by have:=h.2;have:=l5 hk;omega)];exact h
  .trivial
theorem M0.map {f:SO->SO}{f' :B4->B4}(hf:∀x a,SO.g C vs x a->SO.g C vs (f x) (f' a)):∀{x:List SO} {d:n9},M0.g C vs x d->M0.g C vs (x.map f) (d.map f')
 |[],_,h=>by simp_all [M0.g]
 |x::xs,_,h=>by
  obtain ⟨d,ds,rfl,h2,h3⟩:=h;exact ⟨_,_,rfl,hf _ _ h2,M0.map hf h3⟩
end
def BN (l:List Nat):Nat:=l.foldr max 0
def X3 (bs:List Nat)(strict:Nat):Nat->Nat->Nat
 |0,n=>n
 |k+1,n=>if F0 n strict then n else
  if y7 (max n (BN ((bs.take n).drop strict))) n then n else X3 bs strict k (max n (BN ((bs.take n).drop strict)))
def QS:List Nat->Nat->Bool
 |[],_=>W
 |b::bs,k=>F0 b (k+1)&&QS bs (k+1)
def sO (bs:List Nat)(strict n:Nat):Nat:=if F0 n strict then n else if QS ((bs.take n).drop strict) strict then n else strict
theorem WM:∀H:n9,Q5 H=BN (H.map B4.K9)
 |[]=>rfl
 |o::H=>by simp [Q5,BN];rw [WM H];rfl
def sw (H:n9)(a b:Nat):Q5 ((H.take a).drop b)=BN (((H.map B4.K9).take a).drop b):=by
 rw [WM,List.map_drop,List.map_take]
theorem xu (H:n9)(strict:Nat):∀(k n:Nat),I4 H strict k n=X3 (H.map B4.K9) strict k n
 |0,n=>rfl
 |k+1,n=>by
  simp [I4,X3,sw,Nat.ble_eq,Nat.beq_eq];split
  .rfl
  .split
   .rfl
   .exact xu H strict k _
theorem Xd:∀(H:n9) (k:Nat),cU H k=QS (H.map B4.K9) k
 |[],_=>rfl
 |o::H,k=>by
  simp [cU,QS];rw [Xd H (k+1)]
  congr 1
  rw [Bool.eq_iff_iff,Nat.ble_eq];simp
def Ql (H:n9)(s n:Nat):I7 H s n=sO (H.map B4.K9) s n:=by
 simp [I7,sO,Xd,List.map_drop,List.map_take,Nat.ble_eq]
def cK (s:SS):z6->SV×SS
 | .loc j=>match s.L[j]? with
  |some (.own z x)=>(.own z x,{ s with L:=s.L.set j (.d x) })
  |some (.q x)=>(.q x,s)
  |some .H7=>(.H7,s)
  |_=>(di s.T s.L (.loc j),s)
 | .const v=>(ofA v,s)
 | .slot t=>(di s.T s.L (.slot t),s)
section
variable {C:Ctx} {vs:List Nat} {s:SS} {st:G4}
def dW (hs:s.g C vs st)(k:Nat){v:SV}{a:c7}(h:v.g C vs a):(rj s k v).g C vs (put st k a) :=
 ⟨hs.1,hs.2.1,B6.set hs.2.2.1 k h,hs.2.2.2⟩
def Bz (hs:s.g C vs st)(x:z6):(cK s x).1.g C vs (F1 st x).1/\(cK s x).2.g C vs (F1 st x).2:=by
 obtain ⟨hT,hH,hL,ht,hB⟩:=hs;have hr:∀x,(di s.T s.L x).g C vs (G5 st.T st.L x):=λx=>JJ hT hL x
 cases x with
 |const v=>exact ⟨YD v,hT,hH,hL,ht,hB⟩
 |slot t=>exact ⟨hr (.slot t),hT,hH,hL,ht,hB⟩
 |loc j =>
  simp only [cK];split
  next z x e=>
   obtain ⟨a,h1,h2⟩:=B6.get hL e;simp only [SV.g] at h2;obtain ⟨len,cells,rfl,h3⟩:=h2;simp only [F1,h1];refine ⟨?_,hT,hH,B6.set hL j ?_,ht,hB⟩
   .simp only [SV.g];exact ⟨_,_,rfl,h3⟩
   .simp only [SV.g];exact ⟨_,rfl,h3⟩
  next x e=>
   obtain ⟨a,h1,h2⟩:=B6.get hL e;have hq:∀v:c7,v.F4=a.F4->(SV.q x).g C vs v:=λv hv=>by
    simp only [SV.g] at h2 ⊢;rw [hv];exact h2
   simp only [F1];split
   next z len cells e2=>
    rw [h1] at e2;cases e2;refine ⟨hq _ rfl,hT,hH,?_,ht,hB⟩;have:=B6.set hL j (a:= .q x) (b:= .d (.slice len cells)) (hq _ rfl)
    rwa [ay e] at this
   next e2=>
    rw [h1] at e2;cases e2;exact ⟨hq _ rfl,hT,hH,hL,ht,hB⟩
   .refine ⟨hq _ ?_,hT,hH,hL,ht,hB⟩
    simp only [G5,List.getD_eq_getElem?_getD,h1,Option.getD_some];cases a<;>rfl
  next e=>
   obtain ⟨a,h1,h2⟩:=B6.get hL e;simp only [SV.g] at h2;subst h2;simp only [F1,h1];exact ⟨by simp only [SV.g],hT,hH,hL,ht,hB⟩
  next hno hnq hni=>
   simp only [F1];split
   next z len cells e=>
    cases hx:s.L[j]? with
    |none=>rw [B6.none hL hx] at e;cases e
    |some y =>
     obtain ⟨a,h1,h2⟩:=B6.get hL hx;rw [e] at h1;cases h1;have hy:(y= .top\/y= .bn 0):=by
      cases y<;>simp only [SV.g,reduceCtorEq,and_false,exists_false] at h2
      .exact .inl rfl
      .obtain ⟨_,h2,_⟩:=h2;cases h2
      .rename_i z' x';exact absurd hx (hno z' x')
      .obtain ⟨_,_,h2,_⟩:=h2;cases h2
      .obtain ⟨_,h2,_⟩:=h2;cases h2
      .obtain ⟨_,h2,_⟩:=h2;cases h2
      .rw [<- h2.1];exact .inr rfl
      .rename_i x';exact absurd hx (hnq x')
     have hg:∀v:c7,v.K9=0->v.one=W->y.g C vs v:=λv e1 e2=>by
      rcases hy with rfl|rfl
      .simp [SV.g]
      .simp only [SV.g];exact ⟨e1,e2⟩
     refine ⟨?_,hT,hH,?_,ht,hB⟩
     .have:di s.T s.L (.loc j)=y:=by rcases hy with rfl|rfl<;>simp [di,List.getD_eq_getElem?_getD,hx,SV.F4]
      rw [this];exact hg _ rfl rfl
     .have:=B6.set hL j (a:=y) (b:= .d (.slice len cells)) (hg _ rfl rfl)
      rwa [ay hx] at this
   next e=>
    cases hx:s.L[j]? with
    |none=>rw [B6.none hL hx] at e;cases e
    |some y =>
     obtain ⟨a,h1,h2⟩:=B6.get hL hx;rw [e] at h1;cases h1;refine ⟨?_,hT,hH,hL,ht,hB⟩;have:di s.T s.L (.loc j)=y:=by
      cases y
      case own z' x' =>exact absurd hx (hno z' x')
      case q x' =>exact absurd hx (hnq x')
      case H7=>exact absurd hx hni
      all_goals simp [di,List.getD_eq_getElem?_getD,hx,SV.F4]
     rw [this];exact h2
   .exact ⟨hr (.loc j),hT,hH,hL,ht,hB⟩
end
def vX (s:SS)(y4:Option Nat)(o:SO):SS:=match y4 with
 |none=>{ s with H:=s.H++[o] }
 |some i=>{ s with H:=s.H.set i o }
def mR (s:SS)(y4:Option Nat):Nat:=y4.getD (O s.H)
def okB (lim:H8)(id:Nat):Option Nat->Bool
 |some b=>F0 b (id+1)||(F0 lim.base id&&F0 lim.strict id)
 |none=>F0 lim.base id&&F0 lim.strict id
def wj (x y:SV):Option SV:=match x.data?,y.data? with
 |some a,J b=>J (.q (a.join b))
 |_,_=>K
def Wi:List SV->List SV->Option (List SV)
 |[],l=>J l
 |_::_,[]=>K
 |y::ys,x::l=>match wj x y,Wi ys l with
  |some z,J r=>J (z::r)
  |_,_=>K
def MM (new:List SV)(sz:Nat):Nat->List SV->Option (List SV)
 |0,l=>J l
 |c+1,l=>match Wi new l with
  |some l1=>match MM new sz c (l1.drop sz) with
   |some r=>J (l1.take sz++r)
   |none=>K
  |none=>K
def JL (lim:H8)(k n:Nat)(s:SS)(x:z6):SV->Option SS
 | .ptr id off=>match (cK s x).1.cells? with
  |some l=>if y7 (O l) n&&lim.may id&&okB lim id (B6.aa l) then
    match swr (cK s x).2.H id off (cK s x).1.tag l with
    |some H' =>J (rj { (cK s x).2 with H:=H',o5:= .obj id::(cK s x).2.o5 } k .any)
    |none=>K
   else K
  |none=>K
 | .wp id lo sz c=>match (cK s x).1.cells?,(cK s x).2.H[id]? with
  |some l,J (.cells _ old)=>match MM l sz c (old.drop lo) with
   |some r=>if y7 (O l) n&&lim.may id&&okB lim id (B6.aa l)&&F0 n sz&&F0 (lo+c * sz) (O old+sz - n)&&F0 lo (O old) then
     J (rj { (cK s x).2 with H:=(cK s x).2.H.set id (.cells K (old.take lo++r)),o5:= .obj id::(cK s x).2.o5 } k .any)
    else K
   |none=>K
  |_,_=>K
 |_=>K
def PS (i4:mG)(H:List SO)(sz:Nat):SV->Option SD
 | .d z=>match z.slice? i4 sz with
  |some _=>J z
  |none=>K
 | .s5 id z lo len=>if y7 z sz then match srd H id lo (len * sz) with
   |some l=>match lU (l.map SV.F4) with
    |some xs=>J (mkSlice sz len xs)
    |none=>K
   |none=>K
  else K
 |_=>K
def aP4 (i4:mG)(sz:Nat)(x z:SD):Option (SD×Nat):=match x.slice? i4 sz,z.slice? i4 sz with
 |some (_,lo1,hi1,bk2),J (_,lo2,hi2,bk3) =>
  if y7 hi1 0 then J (z,hi2) else if y7 hi2 0 then J (x,hi1) else J (.slice K (lo1+lo2) (hi1+hi2) (L9.join bk2 bk3),hi1+hi2)
 |_,_=>K
def KY (o5:List Touch)(s:Nat):Bool:=o5.any (Touch.V7 s)
def Dw (s:SS):z6->Option (Nat×Nat)
 | .loc m=>match s.L[m]? with
  |some (.ptr id off)=>J (id,off)
  |_=>K
 | .slot t=>if KY s.o5 t then K else match s.T[t]? with
  |some (.ptr id off)=>J (id,off)
  |_=>K
 | .const _=>K
def DC (l:H8)(s:SS)(sz:Nat):s7->Option (SD×SS)
 | .S1 (.slot t)=>if KY s.o5 t then K else match s.T[t]? with
  |some (.own z x)=>if y7 z sz then J (x,{ s with T:=s.T.set t (.d x),o5:= .slot t::s.o5 }) else K
  |_=>K
 | .load K x=>match Dw s x with
  |some (id,off)=>if s.o5.any (Touch.aR id off)|| !l.may id then K else
   match s.H[id]? with
   |some (.cells p cs)=>match cs[off]? with
    |some (.own z x)=>if y7 z sz then J (x,{ s with H:=s.H.set id (.cells p (cs.set off (.d x))),o5:= .cell id off::s.o5 }) else K
    |_=>K
   |_=>K
  |none=>K
 |_=>K
def DB (l:H8)(j9:List o4)(s:SS)(sz:Nat):z6->Option (SD×SS)
 | .const (.own z len cells)=>if y7 z sz then J (.lit (.slice len cells),s) else K
 | .loc j=>match s.L[j]? with
  |some (.own z x)=>if y7 z sz then J (x,{ s with L:=s.L.set j (.d x) }) else K
  |some (.d x)=>match x.uA s.i4,j9[j]? with
   |some _,J a=>DC l s sz a.op
   |_,_=>K
  |_=>K
 |_=>K
def JD (l:H8)(s:SS):s7->Bool
 | .S1 (.slot t)=> !KY s.o5 t&&(match s.T[t]? with|some .H7=>W|_=>F)
 | .load K x=>match Dw s x with
  |some (id,off)=> !s.o5.any (Touch.aR id off)&&l.may id&&(match s.H[id]? with
   |some (.cells _ cs)=>(match cs[off]? with|some .H7=>W|_=>F)
   |_=>F)
  |none=>F
 |_=>F
def PX (l:H8)(j9:List o4)(s:SS):z6->Bool
 | .const .H7=>W
 | .loc j=>match s.L[j]? with
  |some .H7=>W
  |some (.d x)=>match x.uA s.i4,j9[j]? with
   |some _,J a=>JD l s a.op
   |_,_=>F
  |_=>F
 |_=>F
def Ju (i4:mG)(H:List SO)(sz:Nat):SV->Option (Nat×List SV)
 | .d z=>match z.slice? i4 sz with
  |some (_,lo,hi,row)=>if y7 lo hi then J (lo,(c9 lo (row.map .d)).flatten) else K
  |none=>K
 | .s5 id z lo len=>if y7 z sz then match srd H id lo (len * sz) with
   |some l=>J (len,l.map SV.F4)
   |none=>K
  else K
 |_=>K
def Sd (n bytes:Nat):Bool:=F0 ((2 * n+512) * bytes) 281474976710656
def sK (lim:H8)(j9:List o4)(y4:Option Nat)(k sz bytes:Nat)(ob:Bool)(s:SS)(x:z6)(y:SV):Option SS :=
 if ob then match Ju s.i4 s.H sz y with
  |some (m,cs)=>if PX lim j9 s x&&Sd m bytes&&Nat.blt 0 sz then
    (if y7 m 0 then J (rj s k .H7) else J (rj (vX s y4 (.cells K cs)) k (.s5 (mR s y4) sz 0 m)))
   else K
  |none=>K
 else match PS s.i4 s.H sz y with
  |some z=>match DB lim j9 s sz x with
   |some (x0,s')=>match aP4 s.i4 sz x0 z with
    |some (r,hi)=>if Sd hi bytes&&Nat.blt 0 sz then J (rj s' k (.own sz r)) else K
    |none=>K
   |none=>K
  |none=>K
def Bn (lim:H8)(entry k sz bytes:Nat)(s:SS)(id lo len:Nat)(y:SV):Option SS :=
 if F0 lim.base id&&F0 entry id&&lim.may id then
  match s.H[id]?,Ju s.i4 s.H sz y with
  |some (.cells _ l),J (m,cs)=>match B6.aa cs with
   |some b=>if y7 lo 0&&y7 (len * sz) (O l)&&Sd (len+m) bytes&&F0 b id&&cs.all SV.one&&Nat.blt 0 sz then
     J (rj { s with T:=B6.kill id s.T,H:=(s.H.take lim.base++(s.H.drop lim.base).map (SO.kill id)).set id (.cells K (B6.kill id l++cs)),L:=B6.kill id s.L,o5:= .obj id::s.o5 } k (.s5 id sz lo (len+m)))
    else K
   |none=>K
  |_,_=>K
 else K
section
variable {C:Ctx} {vs:List Nat} {s:SS} {st:G4}
theorem SS.G5 (hs:s.g C vs st)(x:z6):(di s.T s.L x).g C vs (G5 st.T st.L x):=JJ hs.1 hs.2.2.1 x
def bn1 {x y z:SV}{v:c7}(h:wj x y=J z):(x.g C vs v->z.g C vs v)/\(y.g C vs v->z.g C vs v):=by
 unfold wj at h;split at h
 next a b ha hb=>
  cases h;have ad:∀{v:c7} {d:Data},v.data? =J d->v.F4= .d d:=by intro v d h;cases v<;>simp_all [c7.data?,c7.F4]
  refine ⟨λhx=>?_,λhy=>?_⟩
  .obtain ⟨d,h1,h2⟩:=SV.OT hx ha
   simp only [SV.g];exact ⟨d,ad h1,SD.V3 a b h2⟩
  .obtain ⟨d,h1,h2⟩:=SV.OT hy hb
   simp only [SV.g];exact ⟨d,ad h1,SD.V4 a b h2⟩
 .cases h
theorem Qr:∀{new l r:List SV} {ns cs:List c7},Wi new l=J r->B6.g C vs l cs->(B6.g C vs r cs)/\(B6.g C vs new ns->B6.g C vs r (ns++cs.drop (O ns)))
 |[],l,r,ns,cs,h,hl=>by
  simp only [Wi,Option.some.injEq] at h;subst h;refine ⟨hl,λhn=>?_⟩;simp only [B6.g] at hn;subst hn;simpa using hl
 |_::_,[],r,ns,cs,h,hl=>by simp [Wi] at h
 |y::ys,x::l,r,ns,cs,h,hl=>by
  simp only [Wi] at h;split at h
  next z r' hz hr=>
   cases h;simp only [B6.g] at hl;obtain ⟨c,cs',rfl,h1,h2⟩:=hl;refine ⟨?_,λhn=>?_⟩
   .simp only [B6.g]
    exact ⟨_,_,rfl,(bn1 hz).1 h1,(Qr (ns:=[]) hr h2).1⟩
   .simp only [B6.g] at hn
    obtain ⟨n,ns',rfl,n1,n2⟩:=hn;simp only [G9,q7,List.drop_succ_cons,B6.g];exact ⟨_,_,rfl,(bn1 hz).2 n1,(Qr hr h2).2 n2⟩
  .cases h
theorem Su {new:List SV}{sz:Nat}{ns:List c7}(hn:B6.g C vs new ns)(hsz:O ns<=sz):∀{c:Nat} {l r:List SV} {cs:List c7},MM new sz c l=J r->B6.g C vs l cs->B6.g C vs r cs/\∀j,j<c->B6.g C vs r (splice cs (j * sz) ns)
 |0,l,r,cs,h,hl=>by
  simp only [MM,Option.some.injEq] at h;subst h;exact ⟨hl,λj hj=>absurd hj V⟩
 |c+1,l,r,cs,h,hl=>by
  simp only [MM] at h;split at h
  next l1 h1=>
   split at h
   next r' h2=>
    cases h;obtain ⟨g1,g2⟩:=Qr (ns:=ns) h1 hl;have g2:=g2 hn;obtain ⟨k1,k2⟩:=Su hn hsz h2 (B6.drop g1 sz);have e0:cs=cs.take sz++cs.drop sz:=(List.take_append_drop sz cs).symm;refine ⟨?_,λj hj=>?_⟩
    .rw [e0];exact B6.app (B6.take g1 sz) k1
    .cases j with
     |zero =>
      simp only [splice,Nat.zero_mul,List.take_zero,J7,Nat.zero_add];have e1:ns++cs.drop (O ns)=(ns++cs.drop (O ns)).take sz++cs.drop sz:=by
       have:=(List.take_append_drop sz (ns++cs.drop (O ns))).symm;rw [List.drop_append,o7 hsz,J7,List.drop_drop,show O ns+(sz - O ns)=sz by omega] at this;exact this
      rw [e1];exact B6.app (B6.take g2 sz) k1
     |succ j =>
      have h3:=k2 j V
      by_cases hlen:sz<=O cs
      .have e1:splice cs ((j+1) * sz) ns=cs.take sz++splice (cs.drop sz) (j * sz) ns:=by
        simp only [splice,M3];rw [show (j+1) * sz=sz+j * sz by rw [Nat.succ_mul,Nat.add_comm],List.take_add,M3,List.drop_drop,M9]
       rw [e1];exact B6.app (B6.take g1 sz) h3
      .have e1:splice cs ((j+1) * sz) ns=cs.take sz++splice (cs.drop sz) (j * sz) ns:=by
        simp only [splice,M3];rw [show (j+1) * sz=sz+j * sz by rw [Nat.succ_mul,Nat.add_comm],List.take_add,M3,List.drop_drop,M9]
       rw [e1];exact B6.app (B6.take g1 sz) h3
   .cases h
  .cases h
def ZN (hs:s.g C vs st){E:Env}{k n:Nat}{x:z6}{a:SV}{a' :c7}(ha:a.g C vs a'){s' :SS}(h:JL E.lim k n s x a=J s'):∃st',R2 E k n st a' x=J st' /\s'.g C vs st' :=by
 have hbd:∀(id:Nat) (l:List SV) (cs:List c7),B6.g C vs l cs->okB E.lim id (B6.aa l)=W->C0 cs<=id+1\/(E.lim.base<=id/\E.lim.strict<=id):=by
  intro id l cs h2 h4;unfold okB at h4;split at h4
  next b hb=>
   simp only [Bool.or_eq_true,c8,Nat.ble_eq] at h4;rw [B6.dZ hb h2];exact h4
  .simp only [c8,Nat.ble_eq] at h4
   exact .inr h4
 cases a<;>simp only [JL,reduceCtorEq] at h
 rotate_left
 next id lo sz c=>
  simp only [SV.g] at ha;obtain ⟨j,j1,rfl⟩:=ha;obtain ⟨hv,hT,hH,hL,ht,hB⟩:=Bz hs x;split at h
  next l p old hl ho=>
   obtain ⟨cs,h1,h2,h3⟩:=SV.AX hv hl;split at h
   next r hr=>
    split at h
    next hc=>
     simp only [c8,Nat.ble_eq] at hc;cases h;have hlen:=B6.len h2;have hn:=j4 hc.1.1.1.1.1;obtain ⟨o',o1,co,rfl,o2,_⟩:=M0.get hH ho;have hol:=B6.len o2;have hw:=(Su h2 V hr (B6.drop o2 lo)).2 j j1;have hcs:j * sz+sz<=c * sz:=by rw [<- Nat.succ_mul];exact K4 _ j1
     have hwr:wr (F1 st x).2.H id (lo+j * sz) cs=J ((F1 st x).2.H.set id (.cells (splice co (lo+j * sz) cs))):=by
      simp only [wr,o1];rw [if_pos V]
     have e1:splice co (lo+j * sz) cs=co.take lo++splice (co.drop lo) (j * sz) cs:=by
      simp only [splice,M3];rw [List.take_add,M3,List.drop_drop,M9]
     refine ⟨_,?_,dW (s:={ (cK s x).2 with H:=(cK s x).2.H.set id (.cells K (old.take lo++r)),o5:= .obj id::(cK s x).2.o5 }) (st:={ (F1 st x).2 with H:=(F1 st x).2.H.set id (.cells (splice co (lo+j * sz) cs)),o5:= .obj id::(F1 st x).2.o5 })
      ⟨hT,M0.set hH id ⟨_,rfl,by rw [e1];exact B6.app (B6.take o2 lo) hw,λk hk=>by cases hk⟩,hL,congrArg (Touch.obj id::·) ht,hB⟩ k (v:= .any) (a:= .any) (by simp only [SV.g])⟩
     simp only [R2,h1];rw [if_pos ⟨V,hc.1.1.1.1.2,hbd _ _ _ h2 hc.1.1.1.2⟩,hwr]
    .cases h
   .cases h
  .cases h
 rename_i id off;rw [dc ha];obtain ⟨hv,hT,hH,hL,ht,hB⟩:=Bz hs x;split at h
 next l hl=>
  obtain ⟨cs,h1,h2,h3⟩:=SV.AX hv hl;split at h
  next hc=>
   simp only [c8] at hc;split at h
   next H' hw=>
    cases h;obtain ⟨H3,w1,w2⟩:=bm3 hH h2 h3 hw;have hlen:=B6.len h2;have hn:=j4 hc.1.1;have hbb:C0 cs<=id+1\/(E.lim.base<=id/\E.lim.strict<=id):=by
     have h4:=hc.2;unfold okB at h4;split at h4
     next b hb=>
      simp only [Bool.or_eq_true,c8,Nat.ble_eq] at h4;rw [B6.dZ hb h2];exact h4
     .simp only [c8,Nat.ble_eq] at h4
      exact .inr h4
    refine ⟨_,?_,dW (s:={ (cK s x).2 with H:=H',o5:= .obj id::(cK s x).2.o5 }) (st:={ (F1 st x).2 with H:=H3,o5:= .obj id::(F1 st x).2.o5 }) ⟨hT,w2,hL,congrArg (Touch.obj id::·) ht,hB⟩ k (v:= .any) (a:= .any) (by simp only [SV.g])⟩;simp only [R2,h1];rw [if_pos ⟨V,hc.1.2,hbb⟩,w1]
   .cases h
  .cases h
 .cases h
def Zr (hs:s.g C vs st){sz:Nat}{y:SV}{y' :c7}(hy:y.g C vs y'){z:SD}(h:PS s.i4 s.H sz y=J z):∃m cs new,C1 st.H sz y' =J (m,cs)/\L5 cs=J new/\z.g C vs (.slice m new):=by
 obtain ⟨hT,hH,hL,ht,hB⟩:=hs;cases y<;>simp only [PS,reduceCtorEq] at h
 .split at h
  next q hq=>
   cases h;obtain ⟨d,rfl,h1⟩:=bV hy;obtain ⟨hw,rows,rfl,h2,h3,h4,h5⟩:=SD.gL hB hq h1;have hfl:O rows.flatten=O rows * sz:=ny (λr hr=>by grind [L9.len]);exact ⟨_,_,_,by simp_all [C1,if_true],iC _,h1⟩
  .cases h
 next id z' lo len=>
  rw [oT hy];split at h
  .split at h
   next l hl=>
    split at h
    next xs hxs=>
     cases h;obtain ⟨cs,h1,h2⟩:=GB hH hl;have h3:=B6.map (C:=C) (vs:=vs) (λ_ _=>SV.th) h2;obtain ⟨ds,h4,h5⟩:=qU h3 hxs;have hlen:O xs=len * sz:=by
      have e1:=L9.len h5;have e2:∀{v:List c7} {d:List Data},L5 v=J d->O d=O v:=by
       intro v
       induction v with
       |nil=>simp_all [L5,Option.some.injEq]
       |cons a v ih =>
        grind [L5,Option.some.injEq]
      have e4:=B6.len h2;simp_all [srd]<;>grind
     refine ⟨len,_,ds,?_,h4,sG hlen h5⟩;simp_all [C1,if_pos]
    .cases h
   .cases h
  .cases h
def aP5 {i4:mG}(hB:Bg vs i4){sz:Nat}{x z r:SD}{hi len m:Nat}{cells new:List Data}(h:aP4 i4 sz x z=J (r,hi))(hx:x.g C vs (.slice len cells))(hz:z.g C vs (.slice m new)):r.g C vs (.slice (len+m) (cells++new))/\len+m<=hi:=by
 unfold aP4 at h;split at h
 next v1 lo1 hi1 bk2 v2 lo2 hi2 bk3 e1 e2=>
  obtain ⟨w1,cc3,r1,a1,a2,a3,a4⟩:=SD.gL hB e1 hx;obtain ⟨w2,cc4,r2,b1,b2,b3,b4⟩:=SD.gL hB e2 hz;split at h
  .simp_all
  .split at h
   .simp_all
   .grind [SD.g,List.flatten_append,s9,L9.V3,L9.V4]
 .cases h
theorem ZI (hs:s.g C vs st){x:z6}{id off:Nat}(h:Dw s x=J (id,off)):bF st x=J (id,off):=by
 obtain ⟨hT,hH,hL,ht,hB⟩:=hs;cases x with
 |loc m =>
  simp [Dw] at h;split at h
  next e=>
   obtain ⟨a,h1,h2⟩:=B6.get hL e;rw [dc h2] at h1
   grind [bF]
  .cases h
 |slot t =>
  simp only [Dw] at h;split at h
  .cases h
  next hh=>
   unfold KY at hh;split at h
   next e=>
    obtain ⟨a,h1,h2⟩:=B6.get hT e;rw [dc h2] at h1;simp_all [bF,if_neg]
   .cases h
 |const v=>cases h
theorem Qh (hs:s.g C vs st){l:H8}{sz:Nat}{op:s7}{x:SD}{s' :SS}(h:DC l s sz op=J (x,s')):∃len cells st',aJ l st sz op=J (len,cells,st')/\x.g C vs (.slice len cells)/\s'.g C vs st' :=by
 have hs' :=hs;obtain ⟨hT,hH,hL,ht,hB⟩:=hs;unfold DC at h;split at h
 next t=>
  split at h
  .cases h
  next hh=>
   unfold KY at hh;split at h
   next z x' e=>
    split at h
    .obtain ⟨rfl,rfl⟩:=h
     obtain ⟨a,h1,h2⟩:=B6.get hT e;obtain ⟨len,cells,rfl,h3⟩:=uE h2;refine ⟨len,cells,{ st with T:=st.T.set t (.d (.slice len cells)),o5:= .slot t::st.o5 },?_,h3,B6.set hT t (dO h3),hH,hL,M,hB⟩;simp_all [aJ,if_neg,if_pos]
    .cases h
   .cases h
 .split at h
  next id off hp=>
   split at h
   .cases h
   .split at h
    next p cs e=>
     split at h
     next z x' e2=>
      split at h
      .obtain ⟨rfl,rfl⟩:=h
       obtain ⟨o,h1,h2⟩:=M0.get hH e;obtain ⟨ds,rfl,h3,h4⟩:=h2;obtain ⟨a,h5,h6⟩:=B6.get h3 e2;obtain ⟨len,cells,rfl,h7⟩:=uE h6;refine ⟨len,cells,{ st with H:=st.H.set id (.cells (ds.set off (.d (.slice len cells)))),o5:= .cell id off::st.o5 },?_,h7,hT,M0.set hH id ⟨_,rfl,B6.set h3 off (dO h7),λk hk=>?_⟩,hL,M,hB⟩
       .simp [aJ,ZI hs' hp]
        simp_all
       simp_all [c7.F4,List.map_set,ay]
      .cases h
     .cases h
    .cases h
  .cases h
 .cases h
theorem vW (hB:Bg vs s.i4){x:SD}{d:Data}{q:Option Nat×Nat×Nat}(h:x.uA s.i4=J q)(hx:x.g C vs d):∃n cells,d= .slice n cells:=by
 grind [SD.Px]
def Qg (hs:s.g C vs st){l:H8}{j9:List o4}{sz:Nat}{y:z6}{x:SD}{s' :SS}(h:DB l j9 s sz y=J (x,s')):∃len cells st',Q7 l j9 st sz y=J (len,cells,st')/\x.g C vs (.slice len cells)/\s'.g C vs st' :=by
 have hs' :=hs;obtain ⟨hT,hH,hL,ht,hB⟩:=hs;unfold DB at h;split at h
 .split at h
  next hz=>
   have hz:=j4 hz
   grind [Q7,SD.g]
  .cases h
 next j=>
  split at h
  next z x' e=>
   split at h
   .obtain ⟨rfl,rfl⟩:=h
    obtain ⟨a,h1,h2⟩:=B6.get hL e;obtain ⟨len,cells,rfl,h3⟩:=uE h2;refine ⟨len,cells,{ st with L:=st.L.set j (.d (.slice len cells)) },?_,h3,hT,hH,B6.set hL j (dO h3),ht,hB⟩;simp_all [Q7,if_pos]
   .cases h
  all_goals grind [B6.get,bV,vW,Qh,Q7]
 .cases h
theorem VT (hs:s.g C vs st){l:H8}{op:s7}(h:JD l s op=W):gG l st op=W:=by
 have hs' :=hs;obtain ⟨hT,hH,hL,ht,hB⟩:=hs;unfold JD at h;split at h
 .simp [KY] at h
  grind [B6.get,SV.g,gG,Bool.and_self]
 .split at h
  .simp [c8] at h
   obtain ⟨h1,h2⟩:=h;split at h2
   next p cs e=>
    split at h2
    .obtain ⟨o,h3,h4⟩:=M0.get hH e
     obtain ⟨ds,rfl,h5,_⟩:=h4
     grind [B6.get,SV.g,gG,ZI,Bool.and_self]
    .cases h2
   .cases h2
  .cases h
 .cases h
def ZC (hs:s.g C vs st){l:H8}{j9:List o4}{y:z6}(h:PX l j9 s y=W):isNil l j9 st y=W:=by
 have hs' :=hs;obtain ⟨hT,hH,hL,ht,hB⟩:=hs;unfold PX at h;split at h
 .rfl
 .all_goals grind [B6.get,SV.g,isNil,bV,vW,VT]
 .cases h
theorem Rb {row:List SD}:∀{rows:List (List Data)},(∀r,r∈rows->L9.g C vs row r)->B6.g C vs (c9 (O rows) (row.map .d)).flatten (rows.flatten.map .d)
 |[],_=>by simp [B6.g]
 |r::rows,h=>by
  simp only [List.flatten_cons,List.map_append];exact B6.app (B6.Vm (h r U)) (Rb (λr hr=>h r (by simp [hr])))
def Mj (hs:s.g C vs st){sz m:Nat}{y:SV}{y' :c7}(hy:y.g C vs y'){l:List SV}(h:Ju s.i4 s.H sz y=J (m,l)):∃cs,C1 st.H sz y' =J (m,cs)/\B6.g C vs l cs:=by
 obtain ⟨hT,hH,hL,ht,hB⟩:=hs;cases y<;>simp only [Ju,reduceCtorEq] at h
 .split at h
  next v lo hi row hq=>
   split at h
   next he=>
    have he:=j4 he;simp [Option.some.injEq,Prod.mk.injEq] at h;obtain ⟨rfl,rfl⟩:=h;obtain ⟨d,rfl,h1⟩:=bV hy;obtain ⟨hw,rows,rfl,h2,h3,h4,h5⟩:=SD.gL hB hq h1;have hfl:O rows.flatten=O rows * sz:=ny (λr hr=>by grind [L9.len]);have hn:lo=O rows:=V
    subst hn;exact ⟨_,by simp_all [C1,if_true],Rb h5⟩
   .cases h
  .cases h
 .rw [oT hy]
  split at h
  .split at h
   next l' hl=>
    obtain ⟨rfl,rfl⟩:=h;obtain ⟨cs,h1,h2⟩:=GB hH hl;simp_all [B6.map,SV.th,C1,if_pos]
   .cases h
  .cases h
def JK {n m bytes:Nat}(h:Sd n bytes=W)(hm:m<=n):roomFor m bytes=W:=by
 have h:=l5 h;simp [roomFor,decide_eq_true_eq];exact A3 (K4 _ V) h
def JC (hs:s.g C vs st){y4:Option Nat}{o:SO}{o' :B4}(h:o.g C vs o'):(vX s y4 o).g C vs (E1 st y4 o')/\newId st y4=mR s y4:=by
 obtain ⟨hT,hH,hL,ht,hB⟩:=hs;have hlen:=M0.len hH;cases y4 with
 |none =>
  refine ⟨⟨hT,M0.app hH (by simp_all [M0.g]),hL,ht,hB⟩,?_⟩;simp [newId,mR,hlen]
 |some i=>exact ⟨⟨hT,M0.set hH i h,hL,ht,hB⟩,rfl⟩
def Gv (hs:s.g C vs st){E:Env}{j9:List o4}{y4:Option Nat}{k sz bytes:Nat}{ob:Bool}{x:z6}{y:SV}{y' :c7}(hy:y.g C vs y'){s' :SS}(h:sK E.lim j9 y4 k sz bytes ob s x y=J s'):∃st',K0 E j9 y4 k sz bytes ob st x y' =J st' /\s'.g C vs st' :=by
 unfold sK at h;split at h
 .split at h
  next m cs he=>
   obtain ⟨ds,h1,h2⟩:=Mj hs hy he;split at h
   next hc=>
    simp [c8] at hc;have c1:=ZC hs hc.1.1;have c2:=JK hc.1.2 (o6 _);split at h
    .cases h
     refine ⟨_,?_,dW hs k (v:= .H7) (a:= .H7) (by rfl)⟩;simp_all [K0,if_true,if_pos]
    .cases h
     obtain ⟨n1,n2⟩:=JC hs (y4:=y4) (o:= .cells K cs) (o' := .cells ds) ⟨ds,rfl,h2,λk h=>by cases h⟩;refine ⟨_,?_,dW n1 k (v:= .s5 (mR s y4) sz 0 m) (a:= .s5 (newId st y4) sz 0 m) (by grind [SV.g])⟩;simp_all [K0,if_true,if_pos,if_neg]
   .cases h
  .cases h
 .split at h
  next z hz=>
   obtain ⟨m,cs,new,h1,h2,h3⟩:=Zr hs hy hz;split at h
   next x0 s1 ht=>
    obtain ⟨len,cells,st1,h4,h5,h6⟩:=Qg hs ht;split at h
    next r hi aY7=>
     obtain ⟨h7,h8⟩:=aP5 hs.2.2.2.2 aY7 h5 h3;split at h
     next hc=>
      simp [c8] at hc;have c2:=JK hc.1 h8;cases h;refine ⟨_,?_,dW h6 k (v:= .own sz r) (a:= .own sz (len+m) (cells++new)) (by grind [SV.g])⟩;simp_all [K0,if_neg,if_pos]
     .cases h
    .cases h
   .cases h
  .cases h
def VK (hs:s.g C vs st){E:Env}{k sz bytes id lo len:Nat}{y:SV}{y' :c7}(hy:y.g C vs y'){s' :SS}(h:Bn E.lim E.entry k sz bytes s id lo len y=J s'):∃st',U8 E k sz bytes st id lo len y' =J st' /\s'.g C vs st' :=by
 unfold Bn at h;split at h
 next hc0=>
  simp [c8,Nat.ble_eq] at hc0;split at h
  next p l m cs XH he=>
   split at h
   .split at h
    next hc=>
     simp only [c8,Nat.ble_eq] at hc;obtain ⟨⟨⟨⟨⟨c1,c2⟩,c3⟩,c4⟩,c5⟩,c6⟩:=hc;cases h;obtain ⟨ds,h1,h2⟩:=Mj hs hy he;obtain ⟨hT,hH,hL,ht,hB⟩:=hs;obtain ⟨o,h3,h4⟩:=M0.get hH XH;obtain ⟨es,rfl,h5,_⟩:=h4;have e1:=B6.len h5;have c1:=j4 c1;have c2:=j4 c2;have hrf:=JK c3 (o6 _);refine ⟨_,?_,dW (s:={ s with T:=B6.kill id s.T,H:=(s.H.take E.lim.base++(s.H.drop E.lim.base).map (SO.kill id)).set id (.cells K (B6.kill id l++cs)),L:=B6.kill id s.L,o5:= .obj id::s.o5 }) (st:={ T:=K1 id st.T,H:=(st.H.take E.lim.base++(st.H.drop E.lim.base).map (B4.kill id)).set id (.cells (K1 id es++ds)),L:=K1 id st.L,o5:= .obj id::st.o5 }) ⟨B6.gC id hT,M0.set (M0.app (M0.take hH _) (M0.map (λ_ _=>SO.gC id) (M0.drop hH _))) id (a:= .cells K (B6.kill id l++cs)) (b:= .cells (K1 id es++ds)) ⟨_,rfl,B6.app (B6.gC id h5) h2,λk h=>by cases h⟩,B6.gC id hL,M,hB⟩ k (v:= .s5 id sz lo (len+m)) (a:= .s5 id sz lo (len+m)) (by rfl)⟩;simp only [U8,h3,h1];rw [if_pos ⟨hc0.1.1,hc0.1.2,hc0.2⟩,if_pos ⟨c1,V,hrf,by grind [B6.dZ],B6.Da h2 c5,l5 c6⟩]
    .cases h
   .cases h
  .cases h
 .cases h
end
abbrev Sem:=mG->FuncId->List SV->List SO->H8->Option (List (SV×List SO))
def jF (C:Ctx)(A:Prog)(sem:Sem):Prop:=∀i4 f args H l outs,sem i4 f args H l=J outs->∀vs,Bg vs i4->∀as Hc,B6.g C vs args as->M0.g C vs H Hc ->
 Pq A f as Hc l λv H1=>∃o,o∈outs/\o.1.g C vs v/\M0.g C vs o.2 H1
def kH {α β:Type}(f:α->Option (List β)):List α->Option (List β)
 |[]=>J []
 |a::r=>match f a,kH f r with
  |some x,J y=>J (x++y)
  |_,_=>K
theorem Z8 {α β:Type}{f:α->Option (List β)}:∀{l:List α} {r:List β},kH f l=J r->∀a,a∈l->∃x,f a=J x/\∀b,b∈x->b∈r
 |[],_,_,a,h=>by cases h
 |c::l,r,h,a,ha=>by
  simp [kH] at h;split at h
  next x y hx hy=>
   cases h
   rcases C4.1 ha with rfl|ha
   .simp_all
   .obtain ⟨z,h1,h2⟩:=Z8 hy a ha
    simp_all
  .cases h
section
variable (A:Prog) (sem:Sem)
def Zs (lim:H8)(k:Nat)(f:FuncId)(args:List SV)(s:SS):Option (List SS) :=
 if A.prom f then match sem s.i4 f args s.H lim with
  |some outs=>if outs.all (λo=>F0 (O s.H) (O o.2)) then J (outs.map λo=>rj { s with H:=o.2,o5:= .below (O o.2)::s.o5 } k o.1) else K
  |none=>K
 else match BQ s.H,B6.aa args with
  |some bs,J b0 =>
   if F0 (X3 bs lim.strict 8 b0) (O s.H)&&F0 (BN ((bs.take (X3 bs lim.strict 8 b0)).drop lim.strict)) (X3 bs lim.strict 8 b0) then
    match A.mode f with
    |0=>match sem s.i4 f args (s.H.take (X3 bs lim.strict 8 b0)) { lim with base:=X3 bs lim.strict 8 b0,strict:=sO bs lim.strict (X3 bs lim.strict 8 b0) } with
     |some outs=>if outs.all (λo=>y7 (O o.2) (X3 bs lim.strict 8 b0)) then J (outs.map λo=>rj { s with H:=o.2++s.H.drop (X3 bs lim.strict 8 b0),o5:= .below (X3 bs lim.strict 8 b0)::s.o5 } k o.1) else K
     |none=>K
    |1=>match sem s.i4 f args (s.H.take (X3 bs lim.strict 8 b0)) ⟨0,X3 bs lim.strict 8 b0,X3 bs lim.strict 8 b0,sO bs lim.strict (X3 bs lim.strict 8 b0)⟩ with
     |some outs=>if outs.all (λo=>y7 (O o.2) (X3 bs lim.strict 8 b0)) then J (outs.map λo=>rj s k o.1) else K
     |none=>K
    |_=>match (args.headD .any).aa with
     |some m=>match sem s.i4 f args (s.H.take (X3 bs lim.strict 8 b0)) (lim.qD m (X3 bs lim.strict 8 b0) (X3 bs lim.strict 8 b0) (sO bs lim.strict (X3 bs lim.strict 8 b0))) with
      |some outs=>if outs.all (λo=>y7 (O o.2) (X3 bs lim.strict 8 b0))&&F0 m (X3 bs lim.strict 8 b0) then J (outs.map λo=>rj { s with H:=o.2.take m++s.H.drop m,o5:= .below m::s.o5 } k o.1) else K
      |none=>K
     |none=>K
   else K
  |_,_=>K
def one {α:Type}:Option α->Option (List α)
 |some a=>J [a]
 |none=>K
def aP7 (lim:H8)(entry:Nat)(j9:List o4)(y4:Option Nat)(k:Nat)(s:SS):s7->Option (List SS)
 | .alloc zero=>J [rj (vX s y4 (.cells K (zero.map ofA))) k (.ptr (mR s y4) 0)]
 | .box x=>match (di s.T s.L x).cells? with
  |some l=>J [rj (vX s y4 (.cells (di s.T s.L x).tag l)) k (.ptr (mR s y4) 0)]
  |none=>K
 | .J3 sz len zero parts W=>match Dn (zero.map ofA) (parts.map λ(o,t,x)=>(o,t,di s.T s.L x)) with
  |some cs=>if Nat.blt 0 sz&&y7 (O cs) (len * sz) then J [rj (vX s y4 (.cells K cs)) k (.s5 (mR s y4) sz 0 len)] else K
  |none=>K
 | .store n a x=>one (JL lim k n s x (di s.T s.L a))
 | .append sz bytes ob x y=>match di s.T s.L x with
  | .s5 id z lo len=>if y7 z sz then one (Bn lim entry k sz bytes s id lo len (di s.T s.L y)) else K
  | .d _=>one (sK lim j9 y4 k sz bytes ob s x (di s.T s.L y))
  | .H7=>one (sK lim j9 y4 k sz bytes ob s x (di s.T s.L y))
  |_=>K
 | .call f xs=>Zs A sem lim k f (xs.map (di s.T s.L)) s
 |_=>K
end
section
variable {C:Ctx} {vs:List Nat} {s:SS} {st:G4} {A:Prog} {sem:Sem} (iG:jF C A sem)
theorem B6.aM1 {σ:z6->SV}{ρ:z6->c7}(h:∀x,(σ x).g C vs (ρ x)):∀xs:List z6,B6.g C vs (xs.map σ) (xs.map ρ)
 |[]=>by simp [B6.g]
 |x::xs=>by exact ⟨_,_,rfl,h x,B6.aM1 h xs⟩
def am8:∀{x:List SV} {v:List c7},B6.g C vs x v->(x.headD .any).g C vs (v.headD .any)
 |[],_,h=>by simp_all [B6.g,SV.g]
 |x::xs,_,h=>by grind [B6.g]
include iG
def at6 (hs:s.g C vs st){l:H8}{b k:Nat}{f:FuncId}{args:List SV}{as:List c7}(ha:B6.g C vs args as){outs:List SS}(h:Zs A sem l k f args s=J outs) :
  ∃st' N,(∃o,o∈outs/\o.g C vs st')/\∀n,N<=n->D7 (K3 A n l b) k f as st=J st' :=by
 have hs' :=hs;obtain ⟨hT,hH,hL,ht,hB⟩:=hs;have hlen:=M0.len hH;unfold Zs at h;split at h
 .split at h
  next os hos=>
   split at h
   next hall=>
    cases h;obtain ⟨v,H1,⟨o,o1,o2,o3⟩,N,hN⟩:=iG _ _ _ _ _ _ hos vs hB _ _ ha hH;have hl:=l5 (L4.1 hall o o1);have sC:=M0.len o3;refine ⟨_,N,⟨_,List.mem_map.2 ⟨o,o1,rfl⟩,dW (s:={ s with H:=o.2,o5:= .below (O o.2)::s.o5 }) (st:={ st with H:=H1,o5:= .below (O H1)::st.o5 }) ⟨hT,o3,hL,M,hB⟩ k o2⟩,λn hn=>?_⟩;simp_all [K3,D7,if_true,if_pos]
   .cases h
  .cases h
 .have mL:A.prom f=F:=M
  split at h
  next bs b0 Rf hb0=>
   have e1:=Ip Rf hH;have e2:=B6.dZ hb0 ha;have e3:I4 st.H l.strict 8 (C0 as)=X3 bs l.strict 8 b0:=by rw [xu,e1,e2]
   have e4:∀n,I7 st.H l.strict n=sO bs l.strict n:=λn=>by rw [Ql,e1]
   generalize hcn:X3 bs l.strict 8 b0=n0 at h;rw [hcn] at e3;split at h
   next hc=>
    simp only [c8,Nat.ble_eq] at hc;have AD:Q5 ((st.H.take n0).drop l.strict)<=n0:=by simp_all [sw]
    have hle:n0<=O st.H:=V
    have hHt:=M0.take hH n0;have hHd:=M0.drop hH n0;split at h
    next hm=>
     split at h
     next os hos=>
      split at h
      next hall=>
       cases h;obtain ⟨v,H1,⟨o,o1,o2,o3⟩,N,hN⟩:=iG _ _ _ _ _ _ hos vs hB _ _ ha hHt;have hl:=j4 (L4.1 hall o o1);have sC:=M0.len o3;refine ⟨_,N,⟨_,List.mem_map.2 ⟨o,o1,rfl⟩,dW (s:={ s with H:=o.2++s.H.drop n0,o5:= .below n0::s.o5 }) (st:={ st with H:=H1++st.H.drop n0,o5:= .below n0::st.o5 }) ⟨hT,M0.app o3 hHd,hL,M,hB⟩ k o2⟩,λn hn=>?_⟩;exact qo (E:=K3 A n l b) mL hm e3 hle AD rfl (by simp_all [K3]) V
      .cases h
     .cases h
    next hm=>
     split at h
     next os hos=>
      split at h
      next hall=>
       cases h;obtain ⟨v,H1,⟨o,o1,o2,o3⟩,N,hN⟩:=iG _ _ _ _ _ _ hos vs hB _ _ ha hHt;have hl:=j4 (L4.1 hall o o1);have sC:=M0.len o3;refine ⟨_,N,⟨_,List.mem_map.2 ⟨o,o1,rfl⟩,dW hs' k o2⟩,λn hn=>?_⟩;exact uY (E:=K3 A n l b) mL hm e3 hle AD rfl (by rw [show (K3 A n l b).lim=l from rfl,e4];exact hN n hn) V
      .cases h
     .cases h
    .split at h
     next m hmm=>
      split at h
      next os hos=>
       split at h
       next hall=>
        simp only [c8,Nat.ble_eq] at hall;cases h;obtain ⟨v,H1,⟨o,o1,o2,o3⟩,N,hN⟩:=iG _ _ _ _ _ _ hos vs hB _ _ ha hHt;have hl:=j4 (L4.1 hall.1 o o1);have sC:=M0.len o3;have hm2:=SV.dZ hmm (am8 ha);refine ⟨_,N,⟨_,List.mem_map.2 ⟨o,o1,rfl⟩,dW (s:={ s with H:=o.2.take m++s.H.drop m,o5:= .below m::s.o5 }) (st:={ st with H:=H1.take m++st.H.drop m,o5:= .below m::st.o5 }) ⟨hT,M0.app (M0.take o3 m) (M0.drop hH m),hL,M,hB⟩ k o2⟩,λn hn=>?_⟩;simp_all [K3,D7,e8,if_false,if_pos]
       .cases h
      .cases h
     .cases h
   .cases h
  .cases h
def aP8 (hs:s.g C vs st){l:H8}{b:Nat}{j9:List o4}{y4:Option Nat}{k:Nat}{op:s7}{outs:List SS}(h:aP7 A sem l b j9 y4 k s op=J outs) :
  ∃st' N,(∃o,o∈outs/\o.g C vs st')/\∀n,N<=n->D9 (K3 A n l b) j9 y4 k st op=J st' :=by
 have hr:=SS.G5 hs;cases op<;>simp only [aP7,reduceCtorEq] at h
 case alloc zero =>
  cases h;obtain ⟨n1,n2⟩:=JC hs (y4:=y4) (o:= .cells K (zero.map ofA)) (o' := .cells zero) ⟨zero,rfl,CY zero,λk h=>by cases h⟩;exact ⟨_,0,⟨_,y3.2 rfl,dW n1 k (v:= .ptr (mR s y4) 0) (a:= .ptr (newId st y4) 0) (by grind [SV.g])⟩,λn _=>rfl⟩
 case box x =>
  split at h
  next cl hl=>
   cases h;obtain ⟨cs,h1,h2,h3⟩:=SV.AX (hr x) hl;obtain ⟨n1,n2⟩:=JC hs (y4:=y4) (o:= .cells (di s.T s.L x).tag cl) (o' := .cells cs) ⟨cs,rfl,h2,h3⟩;exact ⟨_,0,⟨_,y3.2 rfl,dW n1 k (v:= .ptr (mR s y4) 0) (a:= .ptr (newId st y4) 0) (by grind [SV.g])⟩,λn _=>by grind [D9]⟩
  .cases h
 case J3 sz len zero parts ob =>
  cases ob<;>simp [reduceCtorEq] at h;split at h
  next cs hcs=>
   split at h
   .cases h
    obtain ⟨ds,h1,h2⟩:=Bu (vM hr parts) (CY zero) hcs;have hl:=B6.len h2;obtain ⟨n1,n2⟩:=JC hs (y4:=y4) (o:= .cells K cs) (o' := .cells ds) ⟨ds,rfl,h2,λk h=>by cases h⟩;refine ⟨_,0,⟨_,y3.2 rfl,dW n1 k (v:= .s5 (mR s y4) sz 0 len) (a:= .s5 (newId st y4) sz 0 len) (by grind [SV.g])⟩,λn _=>?_⟩;simp_all [D9,if_pos]
   .cases h
  .cases h
 case store n a x =>
  cases e:JL l k n s x (di s.T s.L a) with
  |none=>rw [e] at h;cases h
  |some s' =>
   rw [e] at h;cases h;obtain ⟨st',h1,h2⟩:=ZN (E:=K3 A 0 l b) hs (hr a) e;exact ⟨st',0,⟨_,y3.2 rfl,h2⟩,λn _=>h1⟩
 case append sz bytes ob x y =>
  have hx:=hr x;split at h
  next id z lo len e=>
   rw [e] at hx;split at h
   next hz=>
    have hz:=j4 hz;cases e2:Bn l b k sz bytes s id lo len (di s.T s.L y) with
    |none=>rw [e2] at h;cases h
    |some s' =>
     rw [e2] at h;cases h;obtain ⟨st',h1,h2⟩:=VK (E:=K3 A 0 l b) hs (hr y) e2;refine ⟨st',0,⟨_,y3.2 rfl,h2⟩,λn _=>?_⟩;simp only [D9,oT hx];rw [if_pos hz];exact h1
   .cases h
  next x' e=>
   rw [e] at hx;obtain ⟨d,e3,_⟩:=bV hx;cases e2:sK l j9 y4 k sz bytes ob s x (di s.T s.L y) with
   |none=>rw [e2] at h;cases h
   |some s' =>
    rw [e2] at h;cases h;obtain ⟨st',h1,h2⟩:=Gv (E:=K3 A 0 l b) hs (hr y) e2;refine ⟨st',0,⟨_,y3.2 rfl,h2⟩,λn _=>?_⟩;simp [D9,e3];exact h1
  next e=>
   rw [e] at hx;simp [SV.g] at hx;cases e2:sK l j9 y4 k sz bytes ob s x (di s.T s.L y) with
   |none=>rw [e2] at h;cases h
   |some s' =>
    rw [e2] at h;cases h;obtain ⟨st',h1,h2⟩:=Gv (E:=K3 A 0 l b) hs (hr y) e2;refine ⟨st',0,⟨_,y3.2 rfl,h2⟩,λn _=>?_⟩;simp [D9,hx];exact h1
  .cases h
 case call f xs =>
  obtain ⟨st',N,h1,h2⟩:=at6 iG (b:=b) hs (B6.aM1 hr xs) h;exact ⟨st',N,h1,λn hn=>by simp_all [D9]⟩
end
def vO (i4:mG)(c:SB)(t:Bool):Option mG:=match c with
 | .xb=>J i4
 | .cmp i n pol=>match i4[i]? with
  |some (lo,hi)=>if t==pol then (if F0 (max lo (n+1)) hi then J (i4.set i (max lo (n+1),hi)) else K)
    else (if F0 lo (min hi n) then J (i4.set i (lo,min hi n)) else K)
  |none=>J i4
def Gq {vs:List Nat}{i4:mG}(hB:Bg vs i4){c:SB}{t:Bool}(h:c.g vs t):∃B',vO i4 c t=J B' /\Bg vs B' :=by
 cases c with
 |xb=>exact ⟨i4,rfl,hB⟩
 |cmp i n pol =>
  obtain ⟨m,h1,h2⟩:=h;simp only [vO];split
  next lo hi hi0=>
   obtain ⟨m',e1,e2,e3⟩:=hB.2 _ _ _ hi0;rw [h1] at e1;have key:∀lo' hi',lo' <=m->m<=hi' ->Bg vs (i4.set i (lo',hi')):=by
    intro lo' hi' g1 g2;refine ⟨by simp [hB.1],λj a b hj=>?_⟩;rw [List.getElem?_set] at hj;split at hj
    .simp_all
    .exact hB.2 _ _ _ hj
   by_cases hp:(t==pol)=W
   .simp_all<;>grind
   simp_all<;>grind
  simp_all
def IK (s:SS)(j:Nat)(c:SB)(t:Bool):List SS:=match vO s.i4 c t with
 |some B' =>[{ s with L:=s.L.set j (.d (.lit (.bool t))),i4:=B' }]
 |none=>[]
def KS (s:SS)(j:Nat):List SS:=match s.L[j]? with
 |some (.d x)=>match x.bool? with
  |some (.u c)=>IK s j c W++IK s j c F
  |_=>[s]
 |_=>[s]
def qH (k:IntKind)(lo:Int):Nat->List SV
 |0=>[]
 |n+1=> .d (.lit (.int k lo))::qH k (lo+1) n
def Xy (s:SS)(j:Nat):List SS:=match s.L[j]? with
 |some (.d x)=>match x.int? s.i4 with
  |some (k,lo,hi,_)=>(qH k lo (hi - lo+1).toNat).map λv=>{ s with L:=s.L.set j v }
  |none=>[s]
 |_=>[s]
def IL (s:SS)(i lo:Nat):Nat->List SS
 |0=>[]
 |n+1=>{ s with i4:=s.i4.set i (lo,lo) }::IL s i (lo+1) n
def Xz (s:SS)(i:Nat):List SS:=match s.i4[i]? with
 |some (lo,hi)=>IL s i lo (hi+1 - lo)
 |none=>[s]
section
variable {C:Ctx} {vs:List Nat} {s:SS} {st:G4}
def Rc (hs:s.g C vs st)(j:Nat):∃s',s'∈KS s j/\s'.g C vs st:=by
 have hs' :=hs;obtain ⟨hT,hH,hL,ht,hB⟩:=hs;unfold KS;split
 next x e=>
  split
  next c hc=>
   obtain ⟨a,h1,h2⟩:=B6.get hL e;obtain ⟨d,rfl,h3⟩:=bV h2;obtain ⟨t,rfl,h4⟩:=SD.gn hc h3;obtain ⟨B',h5,h6⟩:=Gq hB h4;have key:(IK s j c t)=[{ s with L:=s.L.set j (.d (.lit (.bool t))),i4:=B' }]:=by grind [IK]
   have hL2:B6.g C vs (s.L.set j (.d (.lit (.bool t)))) st.L:=by
    have:=B6.set hL j (a:= .d (.lit (.bool t))) (b:= .d (.bool t)) (dO (by rfl));simp_all [ay]
   refine ⟨{ s with L:=s.L.set j (.d (.lit (.bool t))),i4:=B' },?_,hT,hH,hL2,ht,h6⟩;cases t with
   |true=>simp_all
   |false=>simp_all
  simp_all
 simp_all
theorem oI {k:IntKind}:∀(n:Nat) (lo m:Int),lo<=m->m<lo+n->SV.d (.lit (.int k m))∈qH k lo n
 |0,lo,m,h1,h2=>V
 |n+1,lo,m,h1,h2=>by
  simp [qH,C4]
  by_cases h:m=lo
  .simp_all
  .exact .inr (oI n (lo+1) m V V)
def al6 (hs:s.g C vs st)(j:Nat):∃s',s'∈Xy s j/\s'.g C vs st:=by
 have hs' :=hs;obtain ⟨hT,hH,hL,ht,hB⟩:=hs;unfold Xy;split
 next x e=>
  split
  next k lo hi r hc=>
   obtain ⟨a,h1,h2⟩:=B6.get hL e;obtain ⟨d,rfl,h3⟩:=bV h2;obtain ⟨m,rfl,h4,h5,_⟩:=SD.kP hB hc h3;refine ⟨_,List.mem_map.2 ⟨_,oI _ lo m h4 V,rfl⟩,hT,hH,?_,ht,hB⟩;have:=B6.set hL j (a:= .d (.lit (.int k m))) (b:= .d (.int k m)) (dO (by rfl));simp_all [ay]
  simp_all
 simp_all
theorem Ct {i:Nat}:∀(n lo m:Nat),lo<=m->m<lo+n->{ s with i4:=s.i4.set i (m,m) }∈IL s i lo n
 |0,lo,m,h1,h2=>V
 |n+1,lo,m,h1,h2=>by
  simp [IL,C4]
  by_cases h:m=lo
  .simp_all
  .exact .inr (Ct n (lo+1) m V V)
def al7 (hs:s.g C vs st)(i:Nat):∃s',s'∈Xz s i/\s'.g C vs st:=by
 have hs' :=hs;obtain ⟨hT,hH,hL,ht,hB⟩:=hs;unfold Xz;split
 next lo hi e=>
  obtain ⟨m,h1,h2,h3⟩:=hB.2 _ _ _ e;refine ⟨_,Ct _ lo m h2 V,hT,hH,hL,ht,by simp [hB.1],λj a b hj=>?_⟩;rw [List.getElem?_set] at hj;split at hj
  .grind
  .exact hB.2 _ _ _ hj
 simp_all
end
def nI (n:Nat):SD->Option (SD×(Nat×Nat))
 | .slice K lo hi row=>if Nat.blt lo hi then J (.slice (J n) lo hi row,(lo,hi)) else K
 | .pr k x=>match nI n x with
  |some (y,p)=>J (.pr k y,p)
  |none=>K
 |_=>K
theorem Bi {C:Ctx}{vs:List Nat}:∀{x y:SD} {p:Nat×Nat} {d:Data},nI (O vs) x=J (y,p)->x.g C vs d->∃m,p.1<=m/\m<=p.2/\y.g C (vs++[m]) d
 | .slice v lo hi row,y,p,d,h,hg=>by
  cases v<;>simp only [nI,reduceCtorEq] at h;split at h
  .obtain ⟨rfl,rfl⟩:=h
   obtain ⟨rows,rfl,h1,h2,h3,h4⟩:=hg;refine ⟨O rows,h1,h2,?_⟩
   grind [SD.g,L9.Q8,Le.app]
  .cases h
 | .pr k x,y,p,d,h,hg=>by
  simp [nI] at h;split at h
  next y' p' e=>
   obtain ⟨m,h1,h2,h3⟩:=Bi e hg.2
   grind [SD.g]
  .cases h
 | .top,_,_,_,h,_=>by simp [nI] at h
 | .lit _,_,_,_,h,_=>by simp [nI] at h
 | .bool _,_,_,_,h,_=>by simp [nI] at h
 | .int ..,_,_,_,h,_=>by simp [nI] at h
 | .anyI _,_,_,_,h,_=>by simp [nI] at h
 | .str _,_,_,_,h,_=>by simp [nI] at h
def LH (n:Nat):SV->Option (SV×(Nat×Nat))
 | .d x=>match nI n x with
  |some (y,p)=>J (.d y,p)
  |none=>K
 | .own z x=>match nI n x with
  |some (y,p)=>J (.own z y,p)
  |none=>K
 | .q x=>match nI n x with
  |some (y,p)=>J (.q y,p)
  |none=>K
 |_=>K
def IX {C:Ctx}{vs:List Nat}{x y:SV}{p:Nat×Nat}{v:c7}(h:LH (O vs) x=J (y,p))(hg:x.g C vs v):∃m,p.1<=m/\m<=p.2/\y.g C (vs++[m]) v:=by
 cases x<;>simp [LH,reduceCtorEq] at h
 .grind [Option.some.injEq,Prod.mk.injEq,bV,Bi,dO]
 .grind [Option.some.injEq,Prod.mk.injEq,uE,Bi,SV.g]
 grind [Option.some.injEq,Prod.mk.injEq,SV.g,Bi]
def Yt (s:SS)(k:Nat):SS:=match s.L[k]? with
 |some v=>match LH (O s.i4) v with
  |some (w,p)=>{ s with L:=s.L.set k w,i4:=s.i4++[p] }
  |none=>s
 |none=>s
def Ys (s:SS)(id off:Nat):SS:=match s.H[id]? with
 |some (.cells p l)=>match l[off]? with
  |some v=>match LH (O s.i4) v with
   |some (w,q)=>{ s with H:=s.H.set id (.cells p (l.set off w)),i4:=s.i4++[q] }
   |none=>s
  |none=>s
 |_=>s
section
variable {C:Ctx} {vs:List Nat} {s:SS} {st:G4}
theorem Bg.add {i4:mG}(hB:Bg vs i4){p:Nat×Nat}{m:Nat}(h1:p.1<=m)(h2:m<=p.2):Bg (vs++[m]) (i4++[p]):=by
 refine ⟨by simp [hB.1],λi a b h=>?_⟩
 rcases x9 i (O i4) with hi|hi
 .rw [s8 hi] at h
  obtain ⟨q,e1,e2⟩:=hB.2 _ _ _ h
  grind
 .rw [q9 hi] at h
  cases e:i - O i4 with
  |zero =>
   rw [e] at h;simp at h;have hb:=hB.1;simp_all [q9]
  |succ q=>simp_all
theorem SS.mono {ws:List Nat}(hl:Le vs ws)(hs:s.g C vs st):B6.g C ws s.T st.T/\M0.g C ws s.H st.H/\B6.g C ws s.L st.L :=
 ⟨B6.Q8 hl _ hs.1,M0.Q8 hl _ hs.2.1,B6.Q8 hl _ hs.2.2.1⟩
def ap5 (hs:s.g C vs st)(k:Nat):∃ws,Le vs ws/\(Yt s k).g C ws st:=by
 unfold Yt;split
 next v e=>
  split
  next w p hn=>
   rw [<- hs.2.2.2.2.1] at hn;obtain ⟨a,h1,h2⟩:=B6.get hs.2.2.1 e;obtain ⟨m,h3,h4,h5⟩:=IX hn h2;obtain ⟨g1,g2,g3⟩:=SS.mono (Le.app vs [m]) hs;refine ⟨vs++[m],Le.app _ _,g1,g2,?_,hs.2.2.2.1,hs.2.2.2.2.add h3 h4⟩;have:=B6.set g3 k h5;simp_all [ay]
  grind [Le.refl]
 grind [Le.refl]
def ap4 (hs:s.g C vs st)(id off:Nat):∃ws,Le vs ws/\(Ys s id off).g C ws st:=by
 unfold Ys;split
 next p l e=>
  split
  next v e2=>
   split
   next w q hn=>
    rw [<- hs.2.2.2.2.1] at hn;obtain ⟨o,h1,h2⟩:=M0.get hs.2.1 e;obtain ⟨cs,rfl,h3,h4⟩:=h2;obtain ⟨a,h5,h6⟩:=B6.get h3 e2;obtain ⟨m,h7,h8,h9⟩:=IX hn h6;obtain ⟨g1,g2,g3⟩:=SS.mono (Le.app vs [m]) hs;refine ⟨vs++[m],Le.app _ _,g1,?_,g3,hs.2.2.2.1,hs.2.2.2.2.add h7 h8⟩;have e3:SO.g C (vs++[m]) (.cells p (l.set off w)) (.cells cs):=by
     refine ⟨cs,rfl,?_,h4⟩;have:=B6.set (B6.Q8 (Le.app vs [m]) _ h3) off h9;simp_all [ay]
    have:=M0.set g2 id e3;simp_all [ay]
   grind [Le.refl]
  grind [Le.refl]
 grind [Le.refl]
end
inductive Fk where
 |no
 |b (j:Nat)
 |i (j:Nat)
 |l (i:Nat)
def aA9 (i4:mG):SV->Fk
 | .d z=>match z.uA i4 with
  |some (J i,lo,hi)=>if Nat.blt lo hi then .l i else .no
  |_=> .no
 |_=> .no
def bc8 (s:SS):s7->Fk
 | .pick (.loc j) _ _=> .b j
 | .J4 sz x (.loc j)=>match di s.T s.L x with
  | .s5 .. =>if y7 sz 7 then .no else .i j
  |_=> .no
 | .append _ _ ob x y=>if ob then aA9 s.i4 (di s.T s.L y) else match di s.T s.L x with
  | .s5 .. =>aA9 s.i4 (di s.T s.L y)
  |_=> .no
 |_=> .no
def XA (s:SS)(op:s7):List SS:=match bc8 s op with
 | .no=>[s]
 | .b j=>KS s j
 | .i j=>Xy s j
 | .l i=>Xz s i
def aN8 (s:SS):s7->SS
 | .load K x=>match di s.T s.L x with
  | .ptr id off=>Ys s id off
  |_=>s
 |_=>s
def JQ (L:List SV):Option (Nat×Bool)->Option Bool
 |none=>J W
 |some (j,want)=>match L[j]? with
  |some (.d x)=>match x.bool? with
   |some (.t b)=>J (b==want)
   |_=>K
  |some (.tuple [])=>J F
  |_=>K
def nO (y4:Option Nat)(s:SS)(k:Nat):Option Nat->Option SS
 |none=>J s
 |some t=>match y4 with
  |none=>if Nat.blt t (O s.T) then J { (cK s (.loc k)).2 with T:=s.T.set t (cK s (.loc k)).1,o5:= .slot t::s.o5 } else K
  |some _=>if Nat.blt t (O s.T)&&KY s.o5 t then J { (cK s (.loc k)).2 with T:=s.T.set t (cK s (.loc k)).1 } else K
section
variable (A:Prog) (sem:Sem) (lim:H8) (entry:Nat) (j9:List o4) (y4:Option Nat) (k:Nat)
def Qf (op:s7)(s:SS):Option (List (SS×List Nat)) :=
 if op.D4 then match aP7 A sem lim entry j9 y4 k s op with
  |some outs=>J (outs.map λo=>(o,[]))
  |none=>K
 else match op with
  | .S1 x=>J [(rj (cK s x).2 k (cK s x).1,[])]
  |op=>match Dx (di s.T s.L) s.H s.i4 op with
   |some (v,rs)=>J [(rj s k v,rs)]
   |none=>K
def bl7 (dst:Option Nat)(o:SS×List Nat):Option (List (SS×List Nat)):=match nO y4 (Yt o.1 k) k dst with
 |some s' =>J [(s',o.2)]
 |none=>K
def sdo (i:o4)(s:SS):Option (List (SS×List Nat)):=match Qf A sem lim entry j9 y4 k i.op (aN8 s i.op) with
 |some outs=>kH (bl7 y4 k i.dst) outs
 |none=>K
def ZL (i:o4)(s:SS):Option (List (SS×List Nat)):=match JQ s.L i.guard with
 |some W=>kH (sdo A sem lim entry j9 y4 k i) (XA s i.op)
 |some F=>match nO y4 (rj s k (.tuple [])) k i.dst with
  |some s' =>J [(s',[])]
  |none=>K
 |none=>K
def ZK (i:o4)(s:SS):Option (List (SS×List Nat)):=kH (ZL A sem lim entry j9 y4 k i) (match i.guard with
 |some (j,_)=>KS s j
 |none=>[s])
end
section
variable {C:Ctx} {vs:List Nat} {s:SS} {st:G4} {A:Prog} {sem:Sem}
def al8 (hs:s.g C vs st)(op:s7):∃s',s'∈XA s op/\s'.g C vs st:=by
 unfold XA;split
 all_goals simp_all [y3,Rc,al6,al7]
def aN9 (hs:s.g C vs st)(op:s7):∃ws,Le vs ws/\(aN8 s op).g C ws st:=by
 unfold aN8;split
 .split
  .exact ap4 hs _ _
  grind [Le.refl]
 grind [Le.refl]
def GH (hs:s.g C vs st){gd:Option (Nat×Bool)}{t:Bool}(h:JQ s.L gd=J t):A9 st.L gd=J t:=by
 cases gd with
 |none=>exact h
 |some p =>
  simp [JQ] at h;split at h
  next x e=>
   obtain ⟨a,h1,h2⟩:=B6.get hs.2.2.1 e
   grind [bV,SD.gn,A9]
  next e=>
   obtain ⟨a,h1,h2⟩:=B6.get hs.2.2.1 e;simp_all [SV.g,B6.g,A9]
  .cases h
def GG (hs:s.g C vs st){y4:Option Nat}{k:Nat}{dst:Option Nat}{s' :SS}(h:nO y4 s k dst=J s'):∃st',y8 y4 st k dst=J st' /\s'.g C vs st' :=by
 cases dst with
 |none=>simp [nO,Option.some.injEq] at h;subst h;exact ⟨st,by cases y4<;>rfl,hs⟩
 |some t =>
  have hlen:=B6.len hs.1;obtain ⟨hv,hT,hH,hL,ht,hB⟩:=Bz hs (.loc k);cases y4 with
  |none =>
   simp only [nO] at h;split at h
   .cases h
    refine ⟨{ (F1 st (.loc k)).2 with T:=st.T.set t (F1 st (.loc k)).1,o5:= .slot t::st.o5 },?_,B6.set hs.1 t hv,hH,hL,congrArg (Touch.slot t::·) hs.2.2.2.1,hB⟩;simp_all [y8,F2,if_pos]
   .cases h
  |some q =>
   simp only [nO] at h;split at h
   next hc=>
    simp [c8] at hc;have pG:=hc.2;unfold KY at pG;rw [<- hs.2.2.2.1] at pG;cases h;refine ⟨{ (F1 st (.loc k)).2 with T:=st.T.set t (F1 st (.loc k)).1 },?_,B6.set hs.1 t hv,hH,hL,ht,hB⟩;simp_all [y8,X2,if_pos,Bool.and_true,decide_eq_true_eq]
   .cases h
variable (iG:jF C A sem)
include iG
def ZM (hs:s.g C vs st){l:H8}{b:Nat}{j9:List o4}{y4:Option Nat}{k:Nat}{op:s7}{outs:List (SS×List Nat)}(h:Qf A sem l b j9 y4 k op s=J outs) :
  ∃st' rs N,(∃o,o∈outs/\o.2=rs/\o.1.g C vs st')/\∀n,N<=n->D3 (K3 A n l b) j9 y4 k op st=J (st',rs):=by
 unfold Qf at h;split at h
 .split at h
  next os hos=>
   cases h;obtain ⟨st',N,⟨o,h1,h2⟩,h3⟩:=aP8 iG (b:=b) hs hos;exact ⟨st',[],N,⟨_,List.mem_map.2 ⟨o,h1,rfl⟩,rfl,h2⟩,λn hn=>by simp_all [D3,if_true]⟩
  .cases h
 .have he:op.D4=F:=M
  split at h
  next x _=>
   cases h;obtain ⟨h1,h2⟩:=Bz hs x;exact ⟨_,[],0,⟨_,y3.2 rfl,rfl,dW h2 k h1⟩,λn _=>by rfl⟩
  .split at h
   next v rs hp=>
    cases h;obtain ⟨r,h1,h2⟩:=av2 hs.2.2.2.2 (SS.G5 hs) hs.2.1 hp;refine ⟨_,rs,0,⟨_,y3.2 rfl,rfl,dW hs k h2⟩,λn _=>?_⟩;simp_all [D3,e8,if_false,absurd]
   .cases h
def bl4 (hs:s.g C vs st){l:H8}{b:Nat}{j9:List o4}{y4:Option Nat}{k:Nat}{i:o4}{outs:List (SS×List Nat)}(hw:A9 st.L i.guard=J W)(h:sdo A sem l b j9 y4 k i s=J outs) :
  ∃st' rs N,(∃o,o∈outs/\o.2=rs/\∃ws,Le vs ws/\o.1.g C ws st')/\∀n,N<=n->A2 (K3 A n l b) j9 y4 k i st=J (st',rs):=by
 unfold sdo at h;split at h
 next os hos=>
  obtain ⟨ws,l1,h1⟩:=aN9 hs i.op;obtain ⟨st1,rs,N,⟨o,o1,o2,o3⟩,h2⟩:=ZM iG h1 hos;obtain ⟨x,hx,hm⟩:=Z8 h o o1;unfold bl7 at hx;split at hx
  next s' hs'=>
   cases hx;obtain ⟨ws2,l2,h3⟩:=ap5 o3 k;obtain ⟨st2,h4,h5⟩:=GG h3 hs';refine ⟨st2,rs,N,⟨_,hm _ (y3.2 rfl),o2,ws2,l1.trans l2,h5⟩,λn hn=>?_⟩;simp_all [A2]
  .cases hx
 .cases h
def Sf (hs:s.g C vs st){l:H8}{b:Nat}{j9:List o4}{y4:Option Nat}{k:Nat}{i:o4}{outs:List (SS×List Nat)}(h:ZK A sem l b j9 y4 k i s=J outs) :
  ∃st' rs N,(∃o,o∈outs/\o.2=rs/\∃ws,Le vs ws/\o.1.g C ws st')/\∀n,N<=n->A2 (K3 A n l b) j9 y4 k i st=J (st',rs):=by
 obtain ⟨s1,m1,g1⟩:∃s',s'∈(match i.guard with|some (j,_)=>KS s j|none=>[s])/\s'.g C vs st:=by
  split
  all_goals simp_all [Rc,y3]
 obtain ⟨x,hx,hm⟩:=Z8 h s1 m1;unfold ZL at hx;split at hx
 next hw=>
  have hw:=GH g1 hw;obtain ⟨s2,m2,g2⟩:=al8 g1 i.op;obtain ⟨y,hy,hm2⟩:=Z8 hx s2 m2;obtain ⟨st',rs,N,⟨o,o1,o2,o3⟩,h3⟩:=bl4 iG g2 hw hy;exact ⟨st',rs,N,⟨o,hm _ (hm2 _ o1),o2,o3⟩,h3⟩
 next hw=>
  have hw:=GH g1 hw;split at hx
  next s' hs'=>
   cases hx;obtain ⟨st2,h4,h5⟩:=GG (dW g1 k (v:= .tuple []) (a:= .tuple []) (by simp_all [SV.g,B6.g])) hs';exact ⟨st2,[],0,⟨_,hm _ (y3.2 rfl),rfl,vs,Le.refl _,h5⟩,λn _=>by simp_all [A2]⟩
  .cases hx
 .cases hx
end
section
variable (A:Prog) (sem:Sem) (lim:H8) (entry:Nat) (j9:List o4)
def we:List o4->Nat->SS->Option (List SS)
 |[],_,s=>J [s]
 |i::is,k,s=>match ZK A sem lim entry j9 K k i s with
  |some outs=>kH (λo=>we is (k+1) o.1) outs
  |none=>K
def ZJ (s:SS):s7->Option Nat
 | .call f xs=>if A.prom f then J (O s.H) else match BQ s.H,B6.aa (xs.map (di s.T s.L)) with
  |some bs,J b0=>J (X3 bs lim.strict 8 b0)
  |_,_=>K
 | .Y2 _ _=>K
 | .J9 .. =>K
 |_=>J 0
def Sb (s:SS):s7->Bool
 | .append _ _ _ x _=>match di s.T s.L x with
  | .d _=>F
  | .H7=>F
  |_=>W
 |_=>F
def RZ (s:SS)(op:s7)(a:o4):Bool:=match op,a.op with
 | .append _ _ _ x _,.S1 (.slot t)=>a.dst.isNone&&a.guard.isNone&&(match di s.T s.L x,s.T[t]? with
  | .s5 id _ _ _,J (.ptr j _)=> !y7 j id
  |_,_=>F)
 |_,_=>F
def Mp:List o4->Nat->Nat->SS->Option (List (SS×List jx))
 |[],_,_,s=>J [(s,[])]
 |i::is,k,na,s=>if Sb s i.op&&j9.any (λa=>a.dm.contains k&& !RZ s i.op a) then K else match ZJ A lim s i.op with
  |some Jv=>match ZK A sem lim entry j9 (if i.op.A6 then J na else K) k i s with
   |some outs=>kH (λo=>match Mp is (k+1) (if i.op.A6 then na+1 else na) o.1 with
    |some rs=>J (rs.map λr=>(r.1,⟨o.2,cD (if i.op.A6 then J na else K)++o.1.o5.take (O o.1.o5 - O s.o5),Jv,(if i.op.A6 then J na else K).getD 0⟩::r.2))
    |none=>K) outs
   |none=>K
  |none=>K
def Bx (draw:Bool)(T:List SV)(H:List SO)(i4:mG):Option (List SS) :=
 if draw then match Mp A sem lim entry j9 j9 0 (O H) ⟨T,H++(j9.filter (·.op.A6)).map (λ_=> .dead),c9 (O j9) .any,slotsOf j9,i4⟩ with
  |some outs=>if outs.all (λo=>fK j9 o.2) then J (outs.map (·.1)) else K
  |none=>K
 else we A sem lim entry j9 j9 0 ⟨T,H,c9 (O j9) .any,[],i4⟩
end
section
variable {C:Ctx} {A:Prog} {sem:Sem} (iG:jF C A sem)
theorem Im {vs:List Nat}:∀n,B6.g C vs (c9 n .any) (c9 n .any)
 |0=>by simp [B6.g]
 |n+1=>by exact ⟨_,_,rfl,rfl,Im n⟩
theorem QN {vs:List Nat}:∀l:List o4,M0.g C vs (l.map λ_=> .dead) (l.map λ_=> .dead)
 |[]=>by simp [M0.g]
 |_::l=>by exact ⟨_,_,rfl,rfl,QN l⟩
include iG
theorem GD {l:H8}{b:Nat}{j9:List o4}:∀(ops:List o4) (k:Nat) {vs:List Nat} {s:SS} {st:G4} {outs:List SS},s.g C vs st->we A sem l b j9 ops k s=J outs ->
  ∃r N,(∃o,o∈outs/\∃ws,Le vs ws/\o.g C ws r)/\∀n,N<=n->gI (K3 A n l b) j9 ops k st=J r
 |[],k,vs,s,st,outs,hs,h=>by
  simp [we,Option.some.injEq] at h;subst h;exact ⟨st,0,⟨s,y3.2 rfl,vs,Le.refl _,hs⟩,λ_ _=>rfl⟩
 |i::is,k,vs,s,st,outs,hs,h=>by
  simp [we] at h;split at h
  next os hos=>
   obtain ⟨st',rs,N,⟨o,o1,o2,ws,l1,o3⟩,h1⟩:=Sf iG hs hos;obtain ⟨x,hx,hm⟩:=Z8 h o o1;obtain ⟨r,N2,⟨o',p1,ws2,l2,p2⟩,h2⟩:=GD is (k+1) o3 hx;refine ⟨r,max N N2,⟨o',hm _ p1,ws2,l1.trans l2,p2⟩,λn hn=>?_⟩
   grind [gI]
  .cases h
omit iG in
def av4 {l:H8}{b n:Nat}{vs:List Nat}{s:SS}{st:G4}(hs:s.g C vs st){op:s7}{m:Nat}(h:ZJ A l s op=J m):I6 (K3 A n l b) st op=m:=by
 unfold ZJ at h;split at h
 next f xs=>
  have mL:(K3 A n l b).prom f=A.prom f:=rfl;have hlim:(K3 A n l b).lim=l:=rfl;split at h
  next hp=>
   cases h;simp only [I6,mL,hp,if_true];exact M0.len hs.2.1
  next hp=>
   split at h
   next bs b0 Rf hb0=>
    cases h;simp only [I6,mL];rw [if_neg hp,hlim,xu,Ip Rf hs.2.1,B6.dZ hb0 (B6.aM1 (SS.G5 hs) xs)]
   .cases h
 .cases h
 .cases h
 next h1 h2 h3=>
  cases h;cases op<;>first
   |rfl
   |exact absurd rfl (h1 _ _)
   |exact absurd rfl (h2 _ _)
   |exact absurd rfl (h3 _ _ _ _)
omit iG in
def au5 {vs:List Nat}{s:SS}{st:G4}(hs:s.g C vs st){op:s7}(h:¬ Sb s op=W):F9 st op=F:=by
 unfold Sb at h;split at h
 next sz bytes ob x y=>
  have hx:=SS.G5 hs x
  grind [bV,F9,SV.g,absurd]
 .cases op<;>first
   |rfl
   |grind
omit iG in
def at7 {vs:List Nat}{s:SS}{st:G4}(hs:s.g C vs st){op:s7}{a:o4}(h:RZ s op a=W):calm st op a=W:=by
 unfold RZ at h;unfold calm;split at h
 next sz Fx ob x y t ho=>
  simp only [c8] at h;simp only [ho,h.1.1,h.1.2,Bool.true_and];have h3:=h.2;split at h3
  next id z lo n j o e1 e2=>
   have hx:=SS.G5 hs x;rw [e1] at hx;simp only [SV.g] at hx;obtain ⟨v,g1,g2⟩:=B6.get hs.1 e2;rw [dc g2] at g1;simp only [hx,g1,h3]
  .cases h3
 .cases h
theorem Se {l:H8}{b:Nat}{j9:List o4}:∀(ops:List o4) (k na:Nat) {vs:List Nat} {s:SS} {st:G4} {outs:List (SS×List jx)},s.g C vs st->Mp A sem l b j9 ops k na s=J outs ->
  ∃r lg N,(∃o,o∈outs/\o.2=lg/\∃ws,Le vs ws/\o.1.g C ws r)/\∀n,N<=n->R9 (K3 A n l b) j9 ops k na st=J (r,lg)
 |[],k,na,vs,s,st,outs,hs,h=>by
  simp only [Mp,Option.some.injEq] at h;subst h;exact ⟨st,[],0,⟨_,y3.2 rfl,rfl,vs,Le.refl _,hs⟩,λ_ _=>rfl⟩
 |i::is,k,na,vs,s,st,outs,hs,h=>by
  simp only [Mp] at h;split at h
  .cases h
  next hk=>
   have hk:(F9 st i.op&&j9.any (λa=>a.dm.contains k&& !calm st i.op a))=F:=by
    cases hu:Sb s i.op with
    |false=>rw [au5 hs (by simp [hu])];rfl
    |true =>
     rw [hu,Bool.true_and] at hk;have h0:(j9.any λa=>a.dm.contains k&& !calm st i.op a)=F:=by
      rw [List.any_eq_false];intro a ha hc;simp only [c8,o8] at hc;refine hk (List.any_eq_true.2 ⟨a,ha,?_⟩);simp only [hc.1,Bool.true_and,o8];cases hs' :RZ s i.op a with
      |false=>rfl
      |true=>rw [at7 hs hs'] at hc;cases hc.2
     rw [h0,Bool.and_false]
   split at h
   next Jv XU=>
    split at h
    next os hos=>
     obtain ⟨st',rs,N,⟨o,o1,o2,ws,l1,o3⟩,h1⟩:=Sf iG hs hos;obtain ⟨x,hx,hm⟩:=Z8 h o o1;split at hx
     next rr hrr=>
      cases hx;obtain ⟨r,lg,N2,⟨o',p1,p2,ws2,l2,p3⟩,h2⟩:=Se is (k+1) _ o3 hrr;refine ⟨r,_,max N N2,⟨_,hm _ (List.mem_map.2 ⟨o',p1,rfl⟩),rfl,ws2,l1.trans l2,p3⟩,λn hn=>?_⟩;have hg3:=o3.2.2.2.1;simp only [R9,lu,hk,e8,if_false,h1 n V,h2 n V,aM,av4 hs XU,o2,p2,hg3,hs.2.2.2.1]
     .cases hx
    .cases h
   .cases h
def GC {l:H8}{b:Nat}{j9:List o4}{draw:Bool}{vs:List Nat}{T:List SV}{H:List SO}{i4:mG}{T' :List c7}{H' :n9}{outs:List SS}(hT:B6.g C vs T T')(hH:M0.g C vs H H')(hB:Bg vs i4)(h:Bx A sem l b j9 draw T H i4=J outs) :
  Rn A l b j9 draw T' H' λT2 H2 L2=>∃o,o∈outs/\∃ws,Le vs ws/\B6.g C ws o.T T2/\M0.g C ws o.H H2/\B6.g C ws o.L L2/\Bg ws o.i4:=by
 unfold Bx at h;split at h
 .split at h
  next os hos=>
   split at h
   .cases h
    have hlen:=M0.len hH;obtain ⟨r,lg,N,⟨o,o1,o2,ws,l1,o3⟩,h1⟩:=Se iG j9 0 (O H) (st:=⟨T',H' ++Z2 j9,c9 (O j9) .any,slotsOf j9⟩) ⟨hT,M0.app hH (QN _),Im _,rfl,hB⟩ hos;refine ⟨r,N,⟨o.1,List.mem_map.2 ⟨o,o1,rfl⟩,ws,l1,o3.1,o3.2.1,o3.2.2.1,o3.2.2.2.2⟩,λn hn=>?_⟩
    grind [S0]
   .cases h
  .cases h
 .obtain ⟨r,N,⟨o,o1,ws,l1,o3⟩,h1⟩:=GD iG j9 0 (st:=⟨T',H',c9 (O j9) .any,[]⟩) ⟨hT,hH,Im _,rfl,hB⟩ h
  refine ⟨r,N,⟨o,o1,ws,l1,o3.1,o3.2.1,o3.2.2.1,o3.2.2.2.2⟩,λn hn=>?_⟩;simp_all [S0,if_neg]
end
structure CS where
 T:List SV
 H:List SO
 i4:mG
def CS.g (C:Ctx)(vs:List Nat)(s:CS)(st:St):Prop:=B6.g C vs s.T st.T/\M0.g C vs s.H st.H/\Bg vs s.i4
def ZZ:Option Nat->Option Nat->Option Nat
 |some i,J j=>if y7 i j then J i else K
 |_,_=>K
def My:Option Nat->Option Nat->Bool
 |some i,J j=>y7 i j
 |none,K=>W
 |_,_=>F
def SD.mark:SD->Option Nat
 | .pr k _=>J k
 |_=>K
mutual
def SV.join:SV->SV->Option SV
 | .any,y=>match y with
  | .any=>J .any
  |_=>J .top
 | .top,_=>J .top
 | .d x,y=>match y with
  | .d y=>if My x.mark y.mark then J (.d (x.join y)) else K
  | .own _ y=>J (.q (x.join y))
  | .q y=>J (.q (x.join y))
  | .any=>J .top
  | .top=>J .top
  |_=>K
 | .own z x,y=>match y with
  | .own z' y=>if y7 z z' then J (.own z (x.join y)) else K
  | .d y=>J (.q (x.join y))
  | .q y=>J (.q (x.join y))
  | .any=>J .top
  | .top=>J .top
  |_=>K
 | .q x,y=>match y with
  | .own _ y=>J (.q (x.join y))
  | .d y=>J (.q (x.join y))
  | .q y=>J (.q (x.join y))
  | .any=>J .top
  | .top=>J .top
  |_=>K
 | .H7,y=>match y with
  | .H7=>J .H7
  | .any=>J .top
  | .top=>J .top
  |_=>K
 | .ptr i o,y=>match y with
  | .ptr i' o' =>if y7 i i' &&y7 o o' then J (.ptr i o) else K
  | .any=>J .top
  | .top=>J .top
  |_=>K
 | .U2 _,_=>J .top
 | .wp i l z c,y=>match y with
  | .wp i' l' z' c' =>if y7 i i' &&y7 l l' &&y7 z z' &&y7 c c' then J (.wp i l z c) else K
  | .any=>J .top
  | .top=>J .top
  |_=>K
 | .s5 i z l n,y=>match y with
  | .s5 i' z' l' n' =>if y7 i i' &&y7 z z' &&y7 l l' &&y7 n n' then J (.s5 i z l n) else K
  | .any=>J .top
  | .top=>J .top
  |_=>K
 | .agg p l,y=>match y with
  | .agg p' l' =>match B6.join l l' with
   |some r=>J (.agg (ZZ p p') r)
   |none=>K
  | .any=>J .top
  | .top=>J .top
  |_=>K
 | .tuple l,y=>match y with
  | .tuple l' =>match B6.join l l' with
   |some r=>J (.tuple r)
   |none=>K
  | .any=>J .top
  | .top=>J .top
  |_=>K
 | .bn k,y=>match y with
  | .bn k' =>if y7 k k' then J (.bn k) else K
  | .any=>J .top
  | .top=>J .top
  |_=>K
def B6.join:List SV->List SV->Option (List SV)
 |[],ys=>match ys with
  |[]=>J []
  |_=>K
 |x::xs,ys=>match ys with
  |y::ys=>match x.join y,B6.join xs ys with
   |some a,J r=>J (a::r)
   |_,_=>K
  |[]=>K
end
def SO.join:SO->SO->Option SO
 | .dead,.dead=>J .dead
 | .cells p l,.cells p' l' =>if My p p' then match B6.join l l' with
   |some r=>J (.cells p r)
   |none=>K
  else K
 | .pr k,.pr k' =>if y7 k k' then J (.pr k) else K
 | .bn k,.bn k' =>if y7 k k' then J (.bn k) else K
 | .VB k b,.VB k' b' =>if y7 k k' &&y7 b b' then J (.VB k b) else K
 |_,_=>K
def M0.join:List SO->List SO->Option (List SO)
 |[],[]=>J []
 |x::xs,y::ys=>match x.join y,M0.join xs ys with
  |some a,J r=>J (a::r)
  |_,_=>K
 |_,_=>K
def Pk (a b:Nat×Nat):Nat×Nat:=(min a.1 b.1,max a.2 b.2)
def Wy (B1 B2:mG):Option mG:=if (B1.drop (O B2)++B2.drop (O B1)).all (λp=>F0 p.1 p.2) then J (List.zipWith Pk B1 B2++(B1.drop (O B2)++B2.drop (O B1))) else K
def jJ (kp:List Nat)(s t:CS):Bool:=kp.all λj=>match s.T[j]?,t.T[j]? with
 |some (.d (.lit (.int _ a))),J (.d (.lit (.int _ b)))=>decide (a=b)
 |_,_=>W
def CS.join (kp:List Nat)(s t:CS):Option CS:=if jJ kp s t then match B6.join s.T t.T,M0.join s.H t.H,Wy s.i4 t.i4 with
 |some T,J H,J i4=>J ⟨T,H,i4⟩
 |_,_,_=>K
 else K
def XY (kp:List Nat)(s:CS):List CS->List CS
 |[]=>[s]
 |t::r=>match CS.join kp t s with
  |some u=>u::r
  |none=>t::XY kp s r
def qJ (kp:List Nat):List CS->List CS
 |[]=>[]
 |s::r=>XY kp s (qJ kp r)
section
variable {C:Ctx} {vs:List Nat}
def Jo {x:SV}{v:c7}(h:x.g C vs v){y:SD}(hx:x.data? =J y:=by rfl):∃d,v.F4= .d d/\y.g C vs d:=by
 cases x<;>simp [SV.data?,reduceCtorEq,Option.some.injEq] at hx<;>subst hx<;>simp [SV.g] at h
 .obtain ⟨d,rfl,h2⟩:=h;exact ⟨d,rfl,h2⟩
 .obtain ⟨a,b,rfl,h2⟩:=h;exact ⟨_,rfl,h2⟩
 .subst h;exact ⟨_,rfl,by simp [SD.g]⟩
 .exact h
def Jn {x:SD}{v:c7}{d:Data}(h0:v.F4= .d d)(h:x.g C vs d):(SV.q x).g C vs v:=by simp_all [SV.g]
def aQ9 {p q:Option Nat}{k:Nat}(h:ZZ p q=J k):p=J k:=by
 simp_all [ZZ]<;>grind
def aR0 {p q:Option Nat}{k:Nat}(h:ZZ p q=J k):q=J k:=by
 simp_all [ZZ]<;>grind
theorem Mz {p q:Option Nat}(h:My p q=W):p=q:=by
 unfold My at h
 grind [j4]
mutual
theorem SV.V3:∀(x y:SV) {z:SV} {v:c7},x.join y=J z->x.g C vs v->z.g C vs v
 | .any,y,z,_,h,hg=>by
  cases y<;>simp only [SV.join,Option.some.injEq] at h<;>subst h<;>first|exact hg|simp [SV.g]
 | .top,y,z,_,h,hg=>by simp only [SV.join,Option.some.injEq] at h;subst h;exact hg
 | .d x,y,z,_,h,hg=>by
  cases y<;>simp only [SV.join,Option.some.injEq,reduceCtorEq] at h<;>(try split at h)<;>first
   |(cases h;simp [SV.g];done)
   |(cases h;obtain ⟨d,rfl,h1⟩:=bV hg;exact dO (SD.V3 _ _ h1))
   |(cases h;obtain ⟨d,h0,h1⟩:=Jo hg;exact Jn h0 (SD.V3 _ _ h1))
   |(cases h;done)
 | .q x,y,z,_,h,hg=>by
  cases y<;>simp only [SV.join,Option.some.injEq,reduceCtorEq] at h<;>subst h<;>first
   |(simp [SV.g];done)
   |(obtain ⟨d,h0,h1⟩:=Jo hg;exact Jn h0 (SD.V3 _ _ h1))
 | .own w x,y,z,_,h,hg=>by
  cases y<;>simp only [SV.join,Option.some.injEq,reduceCtorEq] at h
  .subst h;simp [SV.g]
  .subst h;simp [SV.g]
  .subst h;obtain ⟨d,h0,h1⟩:=Jo hg;exact Jn h0 (SD.V3 _ _ h1)
  .split at h
   .cases h
    obtain ⟨len,cells,rfl,h1⟩:=uE hg;simp only [SV.g];exact ⟨_,_,rfl,SD.V3 _ _ h1⟩
   .cases h
  .subst h;obtain ⟨d,h0,h1⟩:=Jo hg;exact Jn h0 (SD.V3 _ _ h1)
 | .H7,y,z,_,h,hg=>by
  cases y<;>simp only [SV.join,Option.some.injEq,reduceCtorEq] at h<;>subst h<;>first|exact hg|simp [SV.g]
 | .ptr i o,y,z,_,h,hg=>by
  cases y<;>simp only [SV.join,Option.some.injEq,reduceCtorEq] at h
  .subst h;simp [SV.g]
  .subst h;simp [SV.g]
  .split at h
   .cases h;exact hg
   .cases h
 | .wp i l w c,y,z,_,h,hg=>by
  cases y<;>simp only [SV.join,Option.some.injEq,reduceCtorEq] at h
  .subst h;simp [SV.g]
  .subst h;simp [SV.g]
  .split at h
   .cases h;exact hg
   .cases h
 | .U2 _,y,z,_,h,hg=>by simp only [SV.join,Option.some.injEq] at h;subst h;simp [SV.g]
 | .s5 i w l n,y,z,_,h,hg=>by
  cases y<;>simp only [SV.join,Option.some.injEq,reduceCtorEq] at h
  .subst h;simp [SV.g]
  .subst h;simp [SV.g]
  .split at h
   .cases h;exact hg
   .cases h
 | .agg p l,y,z,_,h,hg=>by
  cases y<;>simp only [SV.join,Option.some.injEq,reduceCtorEq] at h
  .subst h;simp [SV.g]
  .subst h;simp [SV.g]
  .split at h
   next r hr=>
    cases h;simp only [SV.g] at hg ⊢;obtain ⟨cs,rfl,h1,h2⟩:=hg;exact ⟨cs,rfl,B6.V3 _ _ hr h1,λk hk=>h2 k (aQ9 hk)⟩
   .cases h
 | .tuple l,y,z,_,h,hg=>by
  cases y<;>simp only [SV.join,Option.some.injEq,reduceCtorEq] at h
  .subst h;simp [SV.g]
  .subst h;simp [SV.g]
  .split at h
   next r hr=>
    cases h;simp only [SV.g] at hg ⊢;obtain ⟨cs,rfl,h1⟩:=hg;exact ⟨cs,rfl,B6.V3 _ _ hr h1⟩
   .cases h
 | .bn k,y,z,_,h,hg=>by
  cases y<;>simp only [SV.join,Option.some.injEq,reduceCtorEq] at h
  .subst h;simp [SV.g]
  .subst h;simp [SV.g]
  .split at h
   next e=>
    have e:=j4 e;subst e;cases h;exact hg
   .cases h
theorem B6.V3:∀(x y:List SV) {z:List SV} {v:List c7},B6.join x y=J z->B6.g C vs x v->B6.g C vs z v
 |[],y,z,_,h,hg=>by cases y<;>simp only [B6.join,Option.some.injEq,reduceCtorEq] at h;subst h;exact hg
 |x::xs,y,z,_,h,hg=>by
  cases y<;>simp only [B6.join,reduceCtorEq] at h;split at h
  next a r ha hr=>
   cases h;simp only [B6.g] at hg ⊢;obtain ⟨d,ds,rfl,h1,h2⟩:=hg;exact ⟨d,ds,rfl,SV.V3 _ _ ha h1,B6.V3 _ _ hr h2⟩
  .cases h
end
mutual
theorem SV.V4:∀(x y:SV) {z:SV} {v:c7},x.join y=J z->y.g C vs v->z.g C vs v
 | .any,y,z,_,h,hg=>by
  cases y<;>simp only [SV.join,Option.some.injEq] at h<;>subst h<;>first|exact hg|simp [SV.g]
 | .top,y,z,_,h,hg=>by simp only [SV.join,Option.some.injEq] at h;subst h;simp [SV.g]
 | .d x,y,z,_,h,hg=>by
  cases y<;>simp only [SV.join,Option.some.injEq,reduceCtorEq] at h<;>(try split at h)<;>first
   |(cases h;simp [SV.g];done)
   |(cases h;obtain ⟨d,rfl,h1⟩:=bV hg;exact dO (SD.V4 _ _ h1))
   |(cases h;obtain ⟨d,h0,h1⟩:=Jo hg;exact Jn h0 (SD.V4 _ _ h1))
   |(cases h;done)
 | .q x,y,z,_,h,hg=>by
  cases y<;>simp only [SV.join,Option.some.injEq,reduceCtorEq] at h<;>subst h<;>first
   |(simp [SV.g];done)
   |(obtain ⟨d,h0,h1⟩:=Jo hg;exact Jn h0 (SD.V4 _ _ h1))
 | .own w x,y,z,_,h,hg=>by
  cases y<;>simp only [SV.join,Option.some.injEq,reduceCtorEq] at h
  .subst h;simp [SV.g]
  .subst h;simp [SV.g]
  .subst h;obtain ⟨d,h0,h1⟩:=Jo hg;exact Jn h0 (SD.V4 _ _ h1)
  .split at h
   next e=>
    have e:=j4 e;subst e;cases h;obtain ⟨len,cells,rfl,h1⟩:=uE hg;simp only [SV.g];exact ⟨_,_,rfl,SD.V4 _ _ h1⟩
   .cases h
  .subst h;obtain ⟨d,h0,h1⟩:=Jo hg;exact Jn h0 (SD.V4 _ _ h1)
 | .H7,y,z,_,h,hg=>by
  cases y<;>simp only [SV.join,Option.some.injEq,reduceCtorEq] at h<;>subst h<;>first|exact hg|simp [SV.g]
 | .ptr i o,y,z,_,h,hg=>by
  cases y<;>simp only [SV.join,Option.some.injEq,reduceCtorEq] at h
  .subst h;simp [SV.g]
  .subst h;simp [SV.g]
  .split at h
   next e=>
    simp only [c8] at e;have e1:=j4 e.1;have e2:=j4 e.2;subst e1 e2;cases h;exact hg
   .cases h
 | .wp i l w c,y,z,_,h,hg=>by
  cases y<;>simp only [SV.join,Option.some.injEq,reduceCtorEq] at h
  .subst h;simp [SV.g]
  .subst h;simp [SV.g]
  .split at h
   next e=>
    simp only [c8] at e;have e1:=j4 e.1.1.1;have e2:=j4 e.1.1.2;have e3:=j4 e.1.2;have e4:=j4 e.2;subst e1 e2 e3 e4;cases h;exact hg
   .cases h
 | .U2 _,y,z,_,h,hg=>by simp only [SV.join,Option.some.injEq] at h;subst h;simp [SV.g]
 | .s5 i w l n,y,z,_,h,hg=>by
  cases y<;>simp only [SV.join,Option.some.injEq,reduceCtorEq] at h
  .subst h;simp [SV.g]
  .subst h;simp [SV.g]
  .split at h
   next e=>
    simp only [c8] at e;have e1:=j4 e.1.1.1;have e2:=j4 e.1.1.2;have e3:=j4 e.1.2;have e4:=j4 e.2;subst e1 e2 e3 e4;cases h;exact hg
   .cases h
 | .agg p l,y,z,_,h,hg=>by
  cases y<;>simp only [SV.join,Option.some.injEq,reduceCtorEq] at h
  .subst h;simp [SV.g]
  .subst h;simp [SV.g]
  .split at h
   next r hr=>
    cases h;simp only [SV.g] at hg ⊢;obtain ⟨cs,rfl,h1,h2⟩:=hg;exact ⟨cs,rfl,B6.V4 _ _ hr h1,λk hk=>h2 k (aR0 hk)⟩
   .cases h
 | .tuple l,y,z,_,h,hg=>by
  cases y<;>simp only [SV.join,Option.some.injEq,reduceCtorEq] at h
  .subst h;simp [SV.g]
  .subst h;simp [SV.g]
  .split at h
   next r hr=>
    cases h;simp only [SV.g] at hg ⊢;obtain ⟨cs,rfl,h1⟩:=hg;exact ⟨cs,rfl,B6.V4 _ _ hr h1⟩
   .cases h
 | .bn k,y,z,_,h,hg=>by
  cases y<;>simp only [SV.join,Option.some.injEq,reduceCtorEq] at h
  .subst h;simp [SV.g]
  .subst h;simp [SV.g]
  .split at h
   next e=>
    have e:=j4 e;subst e;cases h;exact hg
   .cases h
theorem B6.V4:∀(x y:List SV) {z:List SV} {v:List c7},B6.join x y=J z->B6.g C vs y v->B6.g C vs z v
 |[],y,z,_,h,hg=>by cases y<;>simp only [B6.join,Option.some.injEq,reduceCtorEq] at h;subst h;exact hg
 |x::xs,y,z,_,h,hg=>by
  cases y<;>simp only [B6.join,reduceCtorEq] at h;split at h
  next a r ha hr=>
   cases h;simp only [B6.g] at hg ⊢;obtain ⟨d,ds,rfl,h1,h2⟩:=hg;exact ⟨d,ds,rfl,SV.V4 _ _ ha h1,B6.V4 _ _ hr h2⟩
  .cases h
end
def SO.mN {x y z:SO}{o:B4}(h:x.join y=J z):(x.g C vs o->z.g C vs o)/\(y.g C vs o->z.g C vs o):=by
 cases x<;>cases y<;>simp only [SO.join,Option.some.injEq,reduceCtorEq] at h
 .subst h;exact ⟨id,id⟩
 .split at h
  next hp=>
   have hp:=Mz hp;subst hp;split at h
   next r hr=>
    cases h;exact ⟨λ⟨cs,h1,h2,h3⟩=>⟨cs,h1,B6.V3 _ _ hr h2,h3⟩,λ⟨cs,h1,h2,h3⟩=>⟨cs,h1,B6.V4 _ _ hr h2,h3⟩⟩
   .cases h
  .cases h
 .split at h
  next e=>
   have e:=j4 e;subst e;cases h;exact ⟨id,id⟩
  .cases h
 .split at h
  next e=>
   have e:=j4 e;subst e;cases h;exact ⟨id,id⟩
  .cases h
 .split at h
  next e=>
   simp only [c8] at e;have e1:=j4 e.1;have e2:=j4 e.2;subst e1 e2;cases h;exact ⟨id,id⟩
  .cases h
theorem M0.mN:∀{x y z:List SO} {o:n9},M0.join x y=J z->(M0.g C vs x o->M0.g C vs z o)/\(M0.g C vs y o->M0.g C vs z o)
 |[],[],z,o,h=>by simp_all [M0.join,Option.some.injEq]
 |[],_::_,z,o,h=>by simp [M0.join] at h
 |_::_,[],z,o,h=>by simp [M0.join] at h
 |x::xs,y::ys,z,o,h=>by
  simp [M0.join] at h;split at h
  next a r ha hr=>
   cases h;refine ⟨λhg=>?_,λhg=>?_⟩
   .obtain ⟨d,ds,rfl,h1,h2⟩:=hg
    exact ⟨d,ds,rfl,(SO.mN ha).1 h1,(M0.mN hr).1 h2⟩
   .obtain ⟨d,ds,rfl,h1,h2⟩:=hg
    exact ⟨d,ds,rfl,(SO.mN ha).2 h1,(M0.mN hr).2 h2⟩
  .cases h
theorem Bg.aG2:∀(R:mG) {vs:List Nat} {i4:mG},Bg vs i4->R.all (λp=>F0 p.1 p.2)=W->∃ws,Le vs ws/\Bg ws (i4++R)
 |[],vs,i4,h,_=>⟨vs,Le.refl _,by simpa using h⟩
 |p::R,vs,i4,h,hr=>by
  simp only [List.all_cons,c8,Nat.ble_eq] at hr;obtain ⟨ws,h1,h2⟩:=Bg.aG2 R (h.add (p:=p) (m:=p.1) (o6 _) hr.1) hr.2;exact ⟨ws,(Le.app _ _).trans h1,M⟩
def aw9 {B1 B2:mG}{i lo hi:Nat}(h:(List.zipWith Pk B1 B2)[i]? =J (lo,hi)):∃a b,B1[i]? =J a/\B2[i]? =J b/\lo=min a.1 b.1/\hi=max a.2 b.2:=by
 grind [Option.some.injEq,Pk,Prod.mk.injEq]
theorem Bg.bn2 {B1 B2:mG}(hB:Bg vs B1):Bg vs (List.zipWith Pk B1 B2++B1.drop (O B2)):=by
 refine ⟨by simp [hB.1];omega,λi lo hi h=>?_⟩
 rcases x9 i (O (List.zipWith Pk B1 B2)) with hl|hl
 .rw [s8 hl] at h
  obtain ⟨a,b,h1,h2,h3,h4⟩:=aw9 h;obtain ⟨m,e1,e2,e3⟩:=hB.2 i a.1 a.2 h1
  grind
 .rw [q9 hl,List.getElem?_drop] at h
  simp [List.length_zipWith] at h hl
  rcases Nat.le_total (O B1) (O B2) with hc|hc
  .grind
  .rw [show O B2+(i - min (O B1) (O B2))=i by omega] at h
   exact hB.2 _ _ _ h
def Bg.bn3 {B1 B2:mG}(hB:Bg vs B2):Bg vs (List.zipWith Pk B1 B2++B2.drop (O B1)):=by
 grind [Bg.bn2,List.zipWith,Pk,List.zipWith_comm,Nat.min_comm,Nat.max_comm]
def Qw {B1 B2 i4:mG}(h:Wy B1 B2=J i4):(Bg vs B1->∃ws,Le vs ws/\Bg ws i4)/\(Bg vs B2->∃ws,Le vs ws/\Bg ws i4):=by
 unfold Wy at h;split at h
 next hall=>
  cases h;rw [List.all_append,c8] at hall;refine ⟨λhB=>?_,λhB=>?_⟩
  .rw [<- M3]
   exact Bg.aG2 _ hB.bn2 hall.2
  .rcases Nat.le_total (O B1) (O B2) with hc|hc
   .rw [show B1.drop (O B2)=[] from o7 hc,J7]
    exact ⟨vs,Le.refl _,hB.bn3⟩
   .have h2:B2.drop (O B1)=[]:=o7 hc
    have:=hB.bn3 (B1:=B1)
    grind [Bg.aG2]
 .cases h
theorem CS.mN {kp:List Nat}{s t u:CS}{st:St}(h:CS.join kp s t=J u):(s.g C vs st->∃ws,Le vs ws/\u.g C ws st)/\(t.g C vs st->∃ws,Le vs ws/\u.g C ws st):=by
 unfold CS.join at h;split at h
 .split at h
  next T H i4 hT hH hB=>
   cases h;refine ⟨λ⟨h1,h2,h3⟩=>?_,λ⟨h1,h2,h3⟩=>?_⟩
   .obtain ⟨ws,l1,h4⟩:=(Qw hB).1 h3
    exact ⟨ws,l1,B6.Q8 l1 _ (B6.V3 _ _ hT h1),M0.Q8 l1 _ ((M0.mN hH).1 h2),h4⟩
   .obtain ⟨ws,l1,h4⟩:=(Qw hB).2 h3
    exact ⟨ws,l1,B6.Q8 l1 _ (B6.V4 _ _ hT h1),M0.Q8 l1 _ ((M0.mN hH).2 h2),h4⟩
  .cases h
 .cases h
theorem Pt {kp:List Nat}{st:St}:∀(s:CS) (l:List CS),(s.g C vs st->∃t,t∈XY kp s l/\∃ws,Le vs ws/\t.g C ws st)/\∀t,t∈l->t.g C vs st->∃u,u∈XY kp s l/\∃ws,Le vs ws/\u.g C ws st
 |s,[]=>⟨λh=>⟨s,y3.2 rfl,vs,Le.refl _,h⟩,λt h=>by cases h⟩
 |s,q::r=>by
  simp only [XY];split
  next u hu=>
   refine ⟨λh=>?_,λt ht h=>?_⟩
   .obtain ⟨ws,l1,h1⟩:=(CS.mN hu).2 h
    grind
   .rcases C4.1 ht with rfl|ht
    .obtain ⟨ws,l1,h1⟩:=(CS.mN hu).1 h
     grind
    grind [List.mem_cons_of_mem,Le.refl]
  .obtain ⟨h1,h2⟩:=Pt s r
   refine ⟨λh=>?_,λt ht h=>?_⟩
   .obtain ⟨t,m,h3⟩:=h1 h
    exact ⟨t,List.mem_cons_of_mem _ m,h3⟩
   grind [List.mem_cons_self,Le.refl,List.mem_cons_of_mem]
theorem qK {kp:List Nat}{st:St}:∀(l:List CS) {vs:List Nat} {s:CS},s∈l->s.g C vs st->∃t,t∈qJ kp l/\∃ws,Le vs ws/\t.g C ws st
 |q::r,vs,s,hm,h=>by
  rcases C4.1 hm with rfl|hm
  .simp_all [Pt,qJ]
  .obtain ⟨t,m,ws,l1,h1⟩:=qK r hm h
   obtain ⟨u,m2,ws2,l2,h2⟩:=(Pt q (qJ kp r)).2 t m h1;exact ⟨u,m2,ws2,l1.trans l2,h2⟩
end
def zw:List Bool->List SV->List SV
 |true::m,v::vs=>v::zw m vs
 |false::m,_::vs=> .any::zw m vs
 |[],_::vs=> .any::zw [] vs
 |_,[]=>[]
def PT (mask:List Bool)(strict n:Nat)(s:CS):Option CS:=match B6.aa (zw mask s.T),BQ s.H with
 |some a,J bs=>if F0 a n&&F0 (BN ((bs.take n).drop strict)) n then J ⟨zw mask s.T,s.H.take n,s.i4⟩ else J ⟨zw mask s.T,s.H,s.i4⟩
 |_,_=>K
def Dy:List SV->Nat->Option (Nat×Nat×Nat×Nat×Nat)
 |[],_=>K
 | .s5 id sz lo len::_,i=>J (i,id,sz,lo,len)
 | .top::_,_=>K
 | .bn _::_,_=>K
 |_::r,i=>Dy r (i+1)
def sfz (lim:H8)(entry t:Nat)(s:CS):Option CS:=match s.T[t]? with
 |some (.ptr b o)=>if y7 o 0 then match s.H[b]? with
  |some (.cells _ cs)=>match Dy cs 0 with
   |some (i,id,sz,lo,len)=>match srd s.H id lo (len * sz) with
    |some l=>match lU l with
     |some xs=>if F0 lim.base id&&F0 entry id&&lim.may id&&F0 lim.base b&& !(y7 id b)&&y7 (O xs) (len * sz) then
       J ⟨B6.kill id s.T,((s.H.take lim.base++(s.H.drop lim.base).map (SO.kill id)).set id .dead).set b (.cells K ((B6.kill id cs).set i (.d (mkSlice sz len xs)))),s.i4⟩
      else K
     |none=>K
    |none=>K
   |none=>K
  |_=>K
  else K
 |_=>K
abbrev Oz:=List o4->Bool->z6->CS->Option (List CS×List CS)
def CX:List (E6×CS)->List CS
 |[]=>[]
 |(.normal,s)::r=>s::CX r
 |_::r=>CX r
def Co:List (E6×CS)->List (E6×CS)
 |[]=>[]
 |(.normal,_)::r=>Co r
 |x::r=>x::Co r
def unB (id:Nat):List (E6×CS)->List (E6×CS)
 |[]=>[]
 |(.exit i,s)::r=>(if y7 i id then .normal else .exit i,s)::unB id r
 |x::r=>x::unB id r
def Mm (kp:List Nat)(body:CS->Option (List (E6×CS)))(mask:List Bool)(strict n:Nat):Nat->List CS->Option (List (E6×CS))
 |0,l=>if l.isEmpty then J [] else K
 |k+1,l=>if l.isEmpty then J [] else
  match kH (λs=>match PT mask strict n s with
   |some s' =>body s'
   |none=>K) l with
  |some outs=>match Mm kp body mask strict n k (qJ kp (CX outs)) with
   |some r=>J (Co outs++r)
   |none=>K
  |none=>K
def branch (v:SV)(s:CS):Option (List CS×List CS):=match v with
 | .d x=>match x.bool? with
  |some (.t b)=>J (if b then ([s],[]) else ([],[s]))
  |some (.u c)=>J (match vO s.i4 c W with|some B' =>[{ s with i4:=B' }]|none=>[],match vO s.i4 c F with|some B' =>[{ s with i4:=B' }]|none=>[])
  |none=>K
 |_=>K
def uV:List SS->z6->Option (List CS×List CS)
 |[],_=>J ([],[])
 |o::r,c=>match branch (di o.T o.L c) ⟨o.T,o.H,o.i4⟩,uV r c with
  |some (p,q),J (p',q')=>J (p++p',q++q')
  |_,_=>K
section
variable (A:Prog) (sem:Sem) (hook:Oz) (kp:List Nat) (lim:H8) (entry fuel:Nat)
def dH:p6->CS->Option (List (E6×CS))
 | .skip,s=>J [(.normal,s)]
 | .region ops draw,s=>match Bx A sem lim entry ops draw s.T s.H s.i4 with
  |some outs=>J (outs.map λo=>(.normal,⟨o.T,o.H,o.i4⟩))
  |none=>K
 | .seq a b,s=>match dH a s with
  |some outs=>match kH (dH b) (qJ kp (CX outs)) with
   |some r=>J (Co outs++r)
   |none=>K
  |none=>K
 | .cond c a b,s=>match branch (di s.T [] c) s with
  |some (p,q)=>match kH (dH a) p,kH (dH b) q with
   |some x,J y=>J (x++y)
   |_,_=>K
  |none=>K
 | .test ops draw c a b,s=>match (match hook ops draw c s with
   |some pq=>J pq
   |none=>match Bx A sem lim entry ops draw s.T s.H s.i4 with
    |some outs=>uV outs c
    |none=>K) with
  |some (p,q)=>match kH (dH a) (qJ kp p),kH (dH b) (qJ kp q) with
   |some x,J y=>J (x++y)
   |_,_=>K
  |none=>K
 | .block id body,s=>match dH body s with
  |some outs=>J (unB id outs)
  |none=>K
 | .loop mask body,s=>Mm kp (dH body) mask lim.strict (O s.H) fuel [s]
 | .exit id,s=>J [(.exit id,s)]
 | .ret,s=>J [(.ret,s)]
 | .fz t,s=>match sfz lim entry t s with
  |some s' =>J [(.normal,s')]
  |none=>K
 | .bad,_=>K
end
def ExL (A:Prog)(l:H8)(b:Nat)(mask:List Bool)(body:p6)(n0:Nat)(st:St)(Q:E6->St->Prop):Prop :=
 ∃x s N,Q x s/\∀n,N<=n->∀j,N<=j->ji (exec (K3 A n l b) n body) mask l.strict n0 j st=J (x,s)
section
variable {A:Prog} {l:H8} {b:Nat}
def ExL.step {mask:List Bool}{body:p6}{n0:Nat}{st:St}{Q:E6->St->Prop}(h:Ex A l b body (clean mask l.strict n0 st) (xC Q λs' =>ExL A l b mask body n0 s' Q)):ExL A l b mask body n0 st Q:=by
 obtain ⟨x,s1,N,hq,h1⟩:=h;cases x with
 |normal =>
  obtain ⟨x,s2,N2,IP,h2⟩:=hq;refine ⟨x,s2,max N N2+1,IP,λn hn j hj=>?_⟩;obtain ⟨j,rfl⟩:∃j',j=j' +1:=⟨j - 1,V⟩
  grind [ji]
 |exit i =>
  refine ⟨_,_,N+1,hq,λn hn j hj=>?_⟩;obtain ⟨j,rfl⟩:∃j',j=j' +1:=⟨j - 1,V⟩
  grind [ji]
 |ret =>
  refine ⟨_,_,N+1,hq,λn hn j hj=>?_⟩;obtain ⟨j,rfl⟩:∃j',j=j' +1:=⟨j - 1,V⟩
  grind [ji]
def Ex.ofL {mask:List Bool}{body:p6}{st:St}{Q:E6->St->Prop}(h:ExL A l b mask body (O st.H) st Q):Ex A l b (.loop mask body) st Q:=by
 obtain ⟨x,s,N,hq,h⟩:=h;exact ⟨x,s,N,hq,λn hn=>by exact h n hn n hn⟩
theorem ExL.mono {mask:List Bool}{body:p6}{n0:Nat}{st:St}{Q R:E6->St->Prop}(h:ExL A l b mask body n0 st Q)(k:∀x s,Q x s->R x s):ExL A l b mask body n0 st R:=by
 obtain ⟨x,s,N,hq,h⟩:=h;exact ⟨x,s,N,k x s hq,h⟩
def Ig (C:Ctx)(A:Prog)(l:H8)(b:Nat)(hook:Oz):Prop:=∀ops dr c s p q,hook ops dr c s=J (p,q)->∀vs T H,CS.g C vs s ⟨T,H⟩ ->
 Rn A l b ops dr T H λT' H' L=>∃t,G5 T' L c= .d (.bool t)/\∃o,o∈(if t then p else q)/\∃ws,Le vs ws/\o.g C ws ⟨T',H'⟩
variable {C:Ctx}
def Post (C:Ctx)(vs:List Nat)(outs:List (E6×CS))(x:E6)(st:St):Prop:=∃o,o∈outs/\o.1=x/\∃ws,Le vs ws/\o.2.g C ws st
def Post.sub {vs ws:List Nat}{o1 o2:List (E6×CS)}{x:E6}{st:St}(h:Post C ws o1 x st)(hl:Le vs ws)(hs:∀o,o∈o1->o∈o2):Post C vs o2 x st:=by
 obtain ⟨o,h1,h2,us,l1,h3⟩:=h;exact ⟨o,hs o h1,h2,us,hl.trans l1,h3⟩
theorem xL:∀{l:List (E6×CS)} {o:E6×CS},o∈l->o.1= .normal->o.2∈CX l
 |(e,s)::r,o,hm,h=>by
  rcases C4.1 hm with rfl|hm
  .simp_all [CX]
  .have:=xL hm h
   cases e<;>simp [CX,this]
theorem nu:∀{l:List (E6×CS)} {o:E6×CS},o∈l->o.1≠ .normal->o∈Co l
 |(e,s)::r,o,hm,h=>by
  rcases C4.1 hm with rfl|hm
  .simp_all [Co]
  .have:=nu hm h
   cases e<;>simp [Co,this]
theorem Sr {id:Nat}:∀{l:List (E6×CS)} {o:E6×CS},o∈l->(match o.1 with| .exit i=>if i=id then (E6.normal,o.2) else (E6.exit i,o.2)|x=>(x,o.2))∈unB id l
 |(e,s)::r,o,hm=>by
  rcases C4.1 hm with rfl|hm
  .cases e with
   |exit i =>
    simp_all [unB]<;>grind
   |normal=>simp [unB]
   |ret=>simp [unB]
  .have:=Sr (id:=id) hm
   cases e<;>simp [unB,C4]<;>exact .inr this
theorem Bv {vs:List Nat}:∀(m:List Bool) {x:List SV} {v:List c7},B6.g C vs x v->B6.g C vs (zw m x) (U3 m v)
 |m,[],_,h=>by simp_all [B6.g,zw,U3]
 |[],x::xs,_,h=>by
  obtain ⟨d,ds,rfl,h1,h2⟩:=h;exact ⟨_,_,rfl,rfl,Bv [] h2⟩
 |true::m,x::xs,_,h=>by
  obtain ⟨d,ds,rfl,h1,h2⟩:=h;exact ⟨_,_,rfl,h1,Bv m h2⟩
 |false::m,x::xs,_,h=>by
  obtain ⟨d,ds,rfl,h1,h2⟩:=h;exact ⟨_,_,rfl,rfl,Bv m h2⟩
def Zt {vs:List Nat}{s s' :CS}{st:St}{mask:List Bool}{strict n:Nat}(hs:s.g C vs st)(h:PT mask strict n s=J s'):s'.g C vs (clean mask strict n st):=by
 obtain ⟨hT,hH,hB⟩:=hs;have hm:=Bv mask hT;unfold PT at h;split at h
 next a bs ha Rf=>
  have e1:=B6.dZ ha hm;have e2:=Ip Rf hH;split at h
  next hc=>
   simp [c8,Nat.ble_eq] at hc;cases h;unfold clean;rw [if_pos ⟨V,by simp_all [sw]⟩];exact ⟨hm,M0.take hH n,hB⟩
  .cases h
   unfold clean;rw [if_neg (by simp_all [sw])];exact ⟨hm,hH,hB⟩
 .cases h
theorem dg {vs:List Nat}:∀{x:List SV} {v:List c7} {k:Nat} {r:Nat×Nat×Nat×Nat×Nat},B6.g C vs x v->Dy x k=J r->gZ v k=J r
 |[],_,_,_,_,h=>by simp [Dy] at h
 |x::xs,_,k,r,hg,h=>by
  simp only [B6.g] at hg;obtain ⟨d,ds,rfl,h1,h2⟩:=hg;cases x<;>simp only [Dy,reduceCtorEq] at h<;>simp only [SV.g] at h1
  .subst h1;simp only [gZ];exact dg h2 h
  .obtain ⟨_,rfl,_⟩:=h1;simp only [gZ];exact dg h2 h
  .obtain ⟨_,_,rfl,_⟩:=h1;simp only [gZ];exact dg h2 h
  .subst h1;simp only [gZ];exact dg h2 h
  .subst h1;simp only [gZ];exact dg h2 h
  .obtain ⟨_,_,rfl,_⟩:=h1;simp only [gZ];exact dg h2 h
  .subst h1;simp only [gZ];exact h
  .obtain ⟨_,rfl,_⟩:=h1;simp only [gZ];exact dg h2 h
  .obtain ⟨_,rfl,_⟩:=h1;simp only [gZ];exact dg h2 h
  .obtain ⟨_,h0,_⟩:=h1;cases d<;>simp only [c7.F4,reduceCtorEq] at h0<;>simp only [gZ]<;>exact dg h2 h
  .obtain ⟨_,_,rfl⟩:=h1;simp only [gZ];exact dg h2 h
def bl8 {vs:List Nat}{s s' :CS}{st:St}{entry t:Nat}(hs:s.g C vs st)(h:sfz l entry t s=J s'):∃st',uv l entry t st=J st' /\s'.g C vs st' :=by
 obtain ⟨hT,hH,hB⟩:=hs;unfold sfz at h;split at h
 next b' o e=>
  obtain ⟨a,h1,h2⟩:=B6.get hT e;have h2:=dc h2;subst h2;split at h
  next ho=>
   have ho:=j4 ho;subst ho;split at h
   next p cs e2=>
    obtain ⟨o,h3,h4⟩:=M0.get hH e2;obtain ⟨ds,rfl,h5,_⟩:=h4;split at h
    next i id sz lo len hr=>
     have hr:=dg h5 hr;split at h
     next l' hl=>
      obtain ⟨us,h6,h7⟩:=GB hH hl;split at h
      next xs hxs=>
       obtain ⟨ys,h8,h9⟩:=qU h7 hxs;split at h
       next hc=>
        simp only [c8,Nat.ble_eq,o8] at hc;obtain ⟨⟨⟨⟨⟨c1,c2⟩,c3⟩,c4⟩,c5⟩,c6⟩:=hc;have c6:=j4 c6;have c5:id≠b' :=λe=>by rw [e] at c5;simp at c5
        cases h;refine ⟨⟨K1 id st.T,((st.H.take l.base++(st.H.drop l.base).map (B4.kill id)).set id .dead).set b' (.cells ((K1 id ds).set i (.d (.slice len ys))))⟩,?_,B6.gC id hT,M0.set (M0.set (M0.app (M0.take hH _) (M0.map (λ_ _=>SO.gC id) (M0.drop hH _))) id (a:= .dead) (b:= .dead) rfl) b' (a:= .cells K ((B6.kill id cs).set i (.d (mkSlice sz len xs)))) (b:= .cells ((K1 id ds).set i (.d (.slice len ys)))) ⟨_,rfl,B6.set (B6.gC id h5) i (dO (sG c6 h9)),λk h=>by cases h⟩,hB⟩;simp only [uv,Cv,h1,h3,hr,h6,h8];rw [if_pos ⟨c1,c2,c3,c4,c5⟩]
       .cases h
      .cases h
     .cases h
    .cases h
   .cases h
  .cases h
 .cases h
def Ku {vs:List Nat}{v:SV}{a:c7}{s:CS}{st:St}{p q:List CS}(hv:v.g C vs a)(hs:s.g C vs st)(h:branch v s=J (p,q)):∃t,a= .d (.bool t)/\∃o,o∈(if t then p else q)/\o.g C vs st:=by
 unfold branch at h;split at h
 .obtain ⟨d,rfl,h1⟩:=bV hv
  split at h
  .grind [SD.gn,Option.some.injEq]
  next c hc=>
   obtain ⟨t,rfl,h2⟩:=SD.gn hc h1;obtain ⟨B',h3,h4⟩:=Gq hs.2.2 h2;refine ⟨t,rfl,{ s with i4:=B' },?_,hs.1,hs.2.1,h4⟩
   grind
  .cases h
 .cases h
theorem uW:∀{outs:List SS} {c:z6} {p q:List CS},uV outs c=J (p,q)->∀o,o∈outs->∃p' q',branch (di o.T o.L c) ⟨o.T,o.H,o.i4⟩=J (p',q')/\(∀x,x∈p' ->x∈p)/\∀x,x∈q' ->x∈q
 |o::r,c,p,q,h,o',hm=>by
  simp [uV] at h;split at h
  next p1 q1 p2 q2 h1 h2=>
   rcases C4.1 hm with rfl|hm
   .grind
   .obtain ⟨p',q',h3,h4,h5⟩:=uW h2 o' hm
    grind
  .cases h
variable {sem:Sem} (iG:jF C A sem) {hook:Oz} (KX:Ig C A l b hook) {kp:List Nat} {fuel:Nat}
omit iG KX in
theorem Sc {body:p6}{sb:CS->Option (List (E6×CS))}(hb:∀{vs s st outs},CS.g C vs s st->sb s=J outs->Ex A l b body st (Post C vs outs)){mask:List Bool}{n0:Nat} :
  ∀(k:Nat) {L:List CS} {vs:List Nat} {s:CS} {st:St} {outs:List (E6×CS)},s∈L->s.g C vs st->Mm kp sb mask l.strict n0 k L=J outs->ExL A l b mask body n0 st (Post C vs outs)
 |0,L,vs,s,st,outs,hm,hs,h=>by
  simp_all [Mm]
 |k+1,L,vs,s,st,outs,hm,hs,h=>by
  have hne:L.isEmpty=F:=by grind
  simp [Mm,hne,e8,if_false] at h;split at h
  next os hos=>
   split at h
   next r hr=>
    cases h;obtain ⟨x,hx,hmx⟩:=Z8 hos s hm;split at hx
    next s' hs'=>
     refine ExL.step ((hb (Zt hs hs') hx).mono ?_);rintro e st' ⟨o,o1,rfl,ws,l1,o3⟩;cases he:o.1 with
     |normal =>
      obtain ⟨t,t1,us,l2,t2⟩:=qK _ (xL (hmx o o1) he) o3;exact (Sc hb k t1 t2 hr).mono λe ZO hp=>hp.sub (l1.trans l2) λo h=>List.mem_append_right _ h
     |exit i=>exact ⟨o,List.mem_append_left _ (nu (hmx o o1) (by rw [he];simp)),he,ws,l1,o3⟩
     |ret=>exact ⟨o,List.mem_append_left _ (nu (hmx o o1) (by rw [he];simp)),he,ws,l1,o3⟩
    .cases hx
   .cases h
  .cases h
include iG KX
theorem iZ:∀(c:p6) {vs:List Nat} {s:CS} {st:St} {outs:List (E6×CS)},s.g C vs st->dH A sem hook kp l b fuel c s=J outs->Ex A l b c st (Post C vs outs)
 | .skip,vs,s,st,outs,hs,h=>by
  simp only [dH,Option.some.injEq] at h;subst h;exact Ex.skip ⟨_,y3.2 rfl,rfl,vs,Le.refl _,hs⟩
 | .exit id,vs,s,st,outs,hs,h=>by
  simp only [dH,Option.some.injEq] at h;subst h;exact Ex.exit ⟨_,y3.2 rfl,rfl,vs,Le.refl _,hs⟩
 | .ret,vs,s,st,outs,hs,h=>by
  simp only [dH,Option.some.injEq] at h;subst h;exact Ex.ret ⟨_,y3.2 rfl,rfl,vs,Le.refl _,hs⟩
 | .bad,vs,s,st,outs,hs,h=>by simp [dH] at h
 | .region ops draw,vs,s,st,outs,hs,h=>by
  simp only [dH] at h;split at h
  next os hos=>
   cases h;obtain ⟨r,N,⟨o,o1,ws,l1,g1,g2,g3,g4⟩,hr⟩:=GC iG hs.1 hs.2.1 hs.2.2 hos;exact Ex.region ⟨r,N,⟨_,List.mem_map.2 ⟨o,o1,rfl⟩,rfl,ws,l1,g1,g2,g4⟩,hr⟩
  .cases h
 | .seq a c,vs,s,st,outs,hs,h=>by
  simp only [dH] at h;split at h
  next os hos=>
   split at h
   next r hr=>
    cases h;refine Ex.seq ((iZ a hs hos).mono ?_);rintro e st' ⟨o,o1,rfl,ws,l1,o3⟩;cases he:o.1 with
    |normal =>
     obtain ⟨t,t1,us,l2,t2⟩:=qK _ (xL o1 he) o3;obtain ⟨x,hx,hmx⟩:=Z8 hr t t1;exact (iZ c t2 hx).mono λe ZO hp=>hp.sub (l1.trans l2) λo h=>List.mem_append_right _ (hmx o h)
    |exit i=>exact ⟨o,List.mem_append_left _ (nu o1 (by rw [he];simp)),he,ws,l1,o3⟩
    |ret=>exact ⟨o,List.mem_append_left _ (nu o1 (by rw [he];simp)),he,ws,l1,o3⟩
   .cases h
  .cases h
 | .cond c a d,vs,s,st,outs,hs,h=>by
  simp only [dH] at h;split at h
  next p q hpq=>
   split at h
   next x y hx hy=>
    cases h;obtain ⟨t,h1,o,o1,o2⟩:=Ku (JJ (L:=[]) (L' :=[]) hs.1 (by simp [B6.g]) c) hs hpq;refine Ex.cond h1 (λht=>?_) (λht=>?_)
    .obtain ⟨z,hz,hm⟩:=Z8 hx o M
     exact (iZ a o2 hz).mono λe ZO hp=>hp.sub (Le.refl _) λo h=>List.mem_append_left _ (hm o h)
    .obtain ⟨z,hz,hm⟩:=Z8 hy o M
     exact (iZ d o2 hz).mono λe ZO hp=>hp.sub (Le.refl _) λo h=>List.mem_append_right _ (hm o h)
   .cases h
  .cases h
 | .test ops draw c a d,vs,s,⟨T,H⟩,outs,hs,h=>by
  simp only [dH] at h;split at h
  next p q hpq=>
   split at h
   next x y hx hy=>
    cases h;have hR:Rn A l b ops draw T H λT' H' L=>∃t,G5 T' L c= .d (.bool t)/\∃o,o∈(if t then p else q)/\∃ws,Le vs ws/\o.g C ws ⟨T',H'⟩:=by
     split at hpq
     next pq hh=>
      cases hpq;exact KX _ _ _ _ _ _ hh vs T H hs
     .split at hpq
      next os hos=>
       obtain ⟨r,N,⟨o,o1,ws,l1,g1,g2,g3,g4⟩,hr⟩:=GC iG hs.1 hs.2.1 hs.2.2 hos;obtain ⟨p',q',h1,h2,h3⟩:=uW hpq o o1;obtain ⟨t,h4,u,u1,u2⟩:=Ku (st:=⟨r.T,r.H⟩) (JJ g1 g3 c) ⟨g1,g2,g4⟩ h1;refine ⟨r,N,⟨t,h4,u,?_,ws,l1,u2⟩,hr⟩
       grind
      .cases hpq
    obtain ⟨r,N,⟨t,h4,u,u1,ws,l1,u2⟩,hr⟩:=hR;refine Ex.test ⟨r,N,⟨t,h4,λht=>?_,λht=>?_⟩,hr⟩
    .subst ht
     obtain ⟨m,m1,us,l2,m2⟩:=qK _ V u2;obtain ⟨z,hz,hm⟩:=Z8 hx m m1;exact (iZ a m2 hz).mono λe ZO hp=>hp.sub (l1.trans l2) λo h=>List.mem_append_left _ (hm o h)
    .subst ht
     obtain ⟨m,m1,us,l2,m2⟩:=qK _ V u2;obtain ⟨z,hz,hm⟩:=Z8 hy m m1;exact (iZ d m2 hz).mono λe ZO hp=>hp.sub (l1.trans l2) λo h=>List.mem_append_right _ (hm o h)
   .cases h
  .cases h
 | .block id body,vs,s,st,outs,hs,h=>by
  simp only [dH] at h;split at h
  next os hos=>
   cases h;refine Ex.block ((iZ body hs hos).mono ?_);rintro e st' ⟨o,o1,rfl,ws,l1,o3⟩;have hm:=Sr (id:=id) o1;cases he:o.1 with
   |normal=>rw [he] at hm;exact ⟨_,hm,rfl,ws,l1,o3⟩
   |ret=>rw [he] at hm;exact ⟨_,hm,rfl,ws,l1,o3⟩
   |exit i =>
    rw [he] at hm;simp only at hm;simp only [JT];split
    .rename_i hi;rw [if_pos hi] at hm;exact ⟨_,hm,rfl,ws,l1,o3⟩
    .rename_i hi;rw [if_neg hi] at hm;exact ⟨_,hm,rfl,ws,l1,o3⟩
  .cases h
 | .loop mask body,vs,s,st,outs,hs,h=>by
  refine Ex.ofL ?_;rw [M0.len hs.2.1];exact Sc (sb:=dH A sem hook kp l b fuel body) (λ{_ _ _ _} h1 h2=>iZ body h1 h2) fuel (y3.2 rfl) hs h
 | .fz t,vs,s,st,outs,hs,h=>by
  simp only [dH] at h;split at h
  next s' hs'=>
   cases h;obtain ⟨st',h1,h2⟩:=bl8 hs hs';exact ⟨_,_,0,⟨_,y3.2 rfl,rfl,vs,Le.refl _,h2⟩,λn _=>by
    simp_all [uv,K3,exec]⟩
  .cases h
end
def JI (T:List SV)(H:List SO):EE->Option SV
 | .slot t=>T[t]?
 | .cell t K=>match T[t]? with
  |some (.ptr id off)=>match srd H id off 1 with
   |some [v]=>J v.F4
   |_=>K
  |_=>K
 | .cell t (J n)=>match T[t]? with
  |some (.ptr id off)=>match H[id]? with
   |some (.cells p l)=>if F0 (off+n) (O l) then J (.agg (if y7 off 0&&y7 n (O l) then p else K) (((l.drop off).take n).map SV.F4)) else K
   |_=>K
  |_=>K
def ru (T:List SV)(H:List SO):List EE->Option (List SV)
 |[]=>J []
 |r::rs=>match JI T H r,ru T H rs with
  |some v,J vs=>J (v::vs)
  |_,_=>K
def JE:List SV->SV
 |[v]=>v
 |vs=> .tuple (vs.map SV.F4)
def Jz (H:List SO)(n:Nat):Nat->List SV->Option (List SV)
 |0,_=>K
 |fuel+1,l=>match l with
  |[]=>J []
  |v::vs=>match Jz H n fuel vs with
   |none=>K
   |some ws=>match v with
    | .s5 id sz lo len=>if Nat.blt id n then J (.s5 id sz lo len::ws) else match srd H id lo (len * sz) with
     |some us=>match Jz H n fuel us with
      |some us' =>match lU us' with
       |some xs=>if y7 (O xs) (len * sz) then J (.d (mkSlice sz len xs)::ws) else K
       |none=>K
      |none=>K
     |none=>K
    | .agg p l=>match Jz H n fuel l with
     |some l' =>J (.agg (match B6.aa l with|some 0=>p|_=>K) l' ::ws)
     |none=>K
    | .tuple l=>match Jz H n fuel l with
     |some l' =>J (.tuple l' ::ws)
     |none=>K
    | .top=>K
    | .bn k=>if y7 k 0 then J (.bn 0::ws) else K
    |v=>J (v::ws)
def Jy (cI:Bool)(n:Nat)(vs:List SV)(H:List SO):Option (SV×List SO) :=
 if cI then J (JE vs,H) else match Jz H n 1000000 [JE vs] with
  |some [v]=>match v.aa with
   |some b=>if F0 b n then J (v,H.take n) else K
   |none=>K
  |_=>K
section
variable {C:Ctx} {vs:List Nat}
theorem QF (cs:List c7):(cs.map c7.F4).map c7.F4=cs.map c7.F4:=by
 rw [List.map_map]
 congr 1
 funext v
 cases v<;>rfl
def Wa {T:List SV}{H:List SO}{T' :List c7}{H' :n9}(hT:B6.g C vs T T')(hH:M0.g C vs H H'){r:EE}{v:SV}(h:JI T H r=J v):∃a,mP T' H' r=J a/\v.g C vs a:=by
 unfold JI at h;split at h
 .exact B6.get hT h
 .split at h
  next id off e=>
   obtain ⟨a,h1,h2⟩:=B6.get hT e;rw [dc h2] at h1
   grind [GB,B6.g,mP,SV.th]
  .cases h
 next t n=>
  split at h
  next id off e=>
   obtain ⟨a,h1,h2⟩:=B6.get hT e;rw [dc h2] at h1;split at h
   next p l hl=>
    split at h
    .cases h
     obtain ⟨o,h3,h4⟩:=M0.get hH hl;obtain ⟨cs,rfl,h5,h6⟩:=h4;have hlen:=B6.len h5;refine ⟨.agg (((cs.drop off).take n).map c7.F4),?_,?_⟩
     .simp_all [mP,rd,if_pos]
     .refine ⟨_,rfl,B6.map (λ_ _=>SV.th) (B6.take (B6.drop h5 off) n),λk hk=>?_⟩
      split at hk
      .grind [j4,y6,QF]
      .cases hk
    .cases h
   .cases h
  .cases h
theorem Dz {T:List SV}{H:List SO}{T' :List c7}{H' :n9}(hT:B6.g C vs T T')(hH:M0.g C vs H H'):∀{rs:List EE} {l:List SV},ru T H rs=J l->∃as,bS T' H' rs=J as/\B6.g C vs l as
 |[],l,h=>by simp [ru,Option.some.injEq] at h;subst h;exact ⟨[],rfl,by simp [B6.g]⟩
 |r::rs,l,h=>by
  simp [ru] at h;split at h
  next v ws hv hws=>
   obtain ⟨a,h1,h2⟩:=Wa hT hH hv;obtain ⟨as,h3,h4⟩:=Dz hT hH hws
   grind [bS,B6.g]
  .cases h
def Mn {l:List SV}{as:List c7}(h:B6.g C vs l as):(JE l).g C vs (j5 as):=by
 have key:∀{l:List SV} {as:List c7},B6.g C vs l as->(SV.tuple (l.map SV.F4)).g C vs (.tuple (as.map c7.F4)):=λh=>by
  simp_all [SV.g,B6.map,SV.th]
 match l,h with
 |[],h=>have:=key h;subst h;exact this
 |[v],h=>obtain ⟨d,_,rfl,h1,rfl⟩:=h;exact h1
 |v::w::l,h=>have:=key h;obtain ⟨d,_,rfl,h1,e,es,rfl,h2,h3⟩:=h;exact this
theorem UR {H:n9}{n:Nat}:∀(fuel:Nat) {l ws:List c7},C0 l=0->X4 H n fuel l=J ws->ws=l
 |0,l,ws,_,h=>by simp [X4] at h
 |fuel+1,[],ws,_,h=>by simp_all [X4,Option.some.injEq]
 |fuel+1,v::l,ws,hb,h=>by
  simp [C0] at hb;simp [X4] at h;split at h
  .cases h
  next us hus=>
   have e1:=UR fuel V hus;split at h
   .simp [c7.K9] at hb
   next l0=>
    simp [c7.K9] at hb;split at h
    next l' hl'=>
     have e2:=UR fuel (l:=l0) V hl';simp_all
    .cases h
   next l0=>
    simp [c7.K9] at hb;split at h
    next l' hl'=>
     have e2:=UR fuel (l:=l0) V hl';simp_all
    .cases h
   simp_all
theorem Dp {H:List SO}{H' :n9}{n:Nat}(hH:M0.g C vs H H'):∀(fuel:Nat) {l ws:List SV} {as:List c7},B6.g C vs l as->Jz H n fuel l=J ws->∃bs,X4 H' n fuel as=J bs/\B6.g C vs ws bs
 |0,l,ws,as,_,h=>by simp [Jz] at h
 |fuel+1,[],ws,as,hg,h=>by
  simp only [B6.g] at hg;subst hg;simp only [Jz,Option.some.injEq] at h;subst h;exact ⟨[],by simp [X4],by simp [B6.g]⟩
 |fuel+1,v::l,ws,as,hg,h=>by
  simp only [B6.g] at hg;obtain ⟨a,as,rfl,ha,hl⟩:=hg;simp only [Jz] at h;split at h
  .cases h
  next us hus=>
   obtain ⟨bs,h1,h2⟩:=Dp hH fuel hl hus;have fin:∀{v:SV} {a:c7},v.g C vs a->B6.g C vs (v::us) (a::bs):=λh=>by simp only [B6.g];exact ⟨_,_,rfl,h,h2⟩
   split at h
   next id sz lo len=>
    rw [oT ha];split at h
    next hc=>
     have hc:id<n:=l5 hc;cases h;exact ⟨.s5 id sz lo len::bs,by simp only [X4,h1];rw [if_pos hc],fin (by simp only [SV.g])⟩
    next hc=>
     have hc:¬ id<n:=λe=>hc (by rw [Nat.blt_eq];exact e)
     split at h
     next q hq=>
      split at h
      next q' Rq=>
       split at h
       next xs hxs=>
        split at h
        next hlen=>
         have hlen:=j4 hlen;cases h;obtain ⟨cs,h3,h4⟩:=GB hH hq;obtain ⟨ds,h5,h6⟩:=Dp hH fuel h4 Rq;obtain ⟨es,h7,h8⟩:=qU h6 hxs;exact ⟨.d (.slice len es)::bs,by simp only [X4,h1];rw [if_neg hc];simp only [h3,h5,h7],fin (dO (sG hlen h8))⟩
        .cases h
       .cases h
      .cases h
     .cases h
   next p l'=>
    simp only [SV.g] at ha;obtain ⟨cs,rfl,h3,h4⟩:=ha;split at h
    next l2 sC=>
     cases h;obtain ⟨ds,h5,h6⟩:=Dp hH fuel h3 sC;refine ⟨.agg ds::bs,by simp only [X4,h1,h5],fin ?_⟩;simp only [SV.g];refine ⟨ds,rfl,h6,λk hk=>?_⟩;split at hk
     next hb=>
      rw [UR fuel (B6.dZ hb h3) h5];exact h4 k hk
     .cases hk
    .cases h
   next l'=>
    simp only [SV.g] at ha;obtain ⟨cs,rfl,h3⟩:=ha;split at h
    next l2 sC=>
     cases h;obtain ⟨ds,h5,h6⟩:=Dp hH fuel h3 sC;exact ⟨.tuple ds::bs,by simp only [X4,h1,h5],fin (by simp only [SV.g];exact ⟨_,rfl,h6⟩)⟩
    .cases h
   .cases h
   next k=>
    split at h
    next hk=>
     have hk:=j4 hk;subst hk;cases h;simp only [SV.g] at ha;refine ⟨a::bs,?_,fin (by simp only [SV.g];exact ha)⟩;obtain ⟨a1,a2⟩:=ha;cases a<;>simp only [c7.K9,c7.one,e8,reduceCtorEq] at a1 a2<;>first
      |(simp only [X4,h1];done)
      |omega
    .cases h
   next w1 w2 w3 w4 w5=>
    cases h;refine ⟨a::bs,?_,fin ha⟩;cases v<;>simp only [SV.g] at ha
    .exact absurd rfl w4
    .subst ha;simp only [X4,h1]
    .obtain ⟨_,rfl,_⟩:=ha;simp only [X4,h1]
    .obtain ⟨_,_,rfl,_⟩:=ha;simp only [X4,h1]
    .subst ha;simp only [X4,h1]
    .subst ha;simp only [X4,h1]
    .obtain ⟨_,_,rfl,_⟩:=ha;simp only [X4,h1]
    .exact absurd rfl (w1 _ _ _ _)
    .exact absurd rfl (w2 _ _)
    .exact absurd rfl (w3 _)
    .exact absurd rfl (w5 _)
    .obtain ⟨_,h0,_⟩:=ha;cases a<;>simp only [c7.F4,reduceCtorEq] at h0<;>simp only [X4,h1]
    .obtain ⟨_,_,rfl⟩:=ha;simp only [X4,h1]
def VQ {H H1:List SO}{H' :n9}{cI:Bool}{n:Nat}{l:List SV}{as:List c7}{v:SV}(hH:M0.g C vs H H')(hl:B6.g C vs l as)(h:Jy cI n l H=J (v,H1)) :
  ∃a H2,finish cI n as H' =J (a,H2)/\v.g C vs a/\M0.g C vs H1 H2:=by
 unfold Jy at h;split at h
 next hp=>
  cases h;exact ⟨_,_,by simp only [finish,hp,if_true],Mn hl,hH⟩
 next hp=>
  split at h
  next w hw=>
   split at h
   next b hb=>
    split at h
    next hc=>
     have hc:=l5 hc;cases h;obtain ⟨bs,h1,h2⟩:=Dp hH 1000000 (l:=[JE l]) (as:=[j5 as]) (by simp only [B6.g];exact ⟨_,_,rfl,Mn hl,rfl⟩) hw;simp only [B6.g] at h2;obtain ⟨a,_,rfl,h3,rfl⟩:=h2;have e:=SV.dZ hb h3;refine ⟨a,H'.take n,?_,h3,M0.take hH n⟩;simp only [finish];rw [if_neg hp,h1];simp only;rw [if_pos V]
    .cases h
   .cases h
  .cases h
end
def SB.cl:SB->Bool
 | .xb=>W
 |_=>F
def Rel.cl:Rel->Bool
 | .no=>W
 |_=>F
mutual
def SD.cl:SD->Bool
 | .bool c=>c.cl
 | .int _ _ _ r=>r.cl
 | .slice v _ _ row=>v.isNone&&L9.cl row
 | .pr _ x=>x.cl
 |_=>W
def L9.cl:List SD->Bool
 |[]=>W
 |x::xs=>x.cl&&L9.cl xs
end
mutual
def SV.cl:SV->Bool
 | .d x=>x.cl
 | .own _ x=>x.cl
 | .q x=>x.cl
 | .U2 r=>L9.cl r
 | .agg _ l=>B6.cl l
 | .tuple l=>B6.cl l
 |_=>W
def B6.cl:List SV->Bool
 |[]=>W
 |x::xs=>x.cl&&B6.cl xs
end
def SO.cl:SO->Bool
 | .cells _ l=>B6.cl l
 |_=>W
def M0.cl:List SO->Bool
 |[]=>W
 |x::xs=>x.cl&&M0.cl xs
section
variable {C:Ctx} {vs ws:List Nat}
mutual
theorem SD.eY:∀(x:SD) {d:Data},x.cl=W->x.g C vs d->x.g C ws d
 | .top,_,_,_=>by simp [SD.g]
 | .lit _,_,_,h=>by simp_all [SD.g]
 | .bool c,_,hc,h=>by
  cases c with
  |xb=>obtain ⟨b,h1,_⟩:=h;exact ⟨b,h1,trivial⟩
  |cmp=>simp [SD.cl,SB.cl] at hc
 | .int k lo hi r,_,hc,h=>by
  cases r with
  |no=>obtain ⟨b,h1,h2,h3,_⟩:=h;exact ⟨b,h1,h2,h3,trivial⟩
  |eq=>simp [SD.cl,Rel.cl] at hc
  |lt=>simp [SD.cl,Rel.cl] at hc
 | .anyI _,_,_,h=>by simp_all [SD.g]
 | .str _,_,_,h=>by simp_all [SD.g]
 | .slice v lo hi row,_,hc,h=>by
  cases v with
  |some i=>simp [SD.cl] at hc
  |none =>
   obtain ⟨rows,h1,h2,h3,_,h5⟩:=h;exact ⟨rows,h1,h2,h3,(λi e=>by cases e),λr hr=>L9.eY row hc (h5 r hr)⟩
 | .pr _ x,_,hc,h=>by exact ⟨h.1,SD.eY x hc h.2⟩
theorem L9.eY:∀(x:List SD) {d:List Data},L9.cl x=W->L9.g C vs x d->L9.g C ws x d
 |[],_,_,h=>by simp_all [L9.g]
 |x::xs,_,hc,h=>by
  simp [L9.cl,c8] at hc;obtain ⟨d,ds,h1,h2,h3⟩:=h;exact ⟨d,ds,h1,SD.eY x hc.1 h2,L9.eY xs hc.2 h3⟩
end
mutual
theorem SV.eY:∀(x:SV) {d:c7},x.cl=W->x.g C vs d->x.g C ws d
 | .top,_,_,_=>by simp [SV.g]
 | .any,_,_,h=>by simpa only [SV.g] using h
 | .d x,_,hc,h=>by simp only [SV.cl] at hc;simp only [SV.g] at h ⊢;obtain ⟨y,h1,h2⟩:=h;exact ⟨y,h1,SD.eY x hc h2⟩
 | .own _ x,_,hc,h=>by simp only [SV.cl] at hc;simp only [SV.g] at h ⊢;obtain ⟨a,b,h1,h2⟩:=h;exact ⟨a,b,h1,SD.eY x hc h2⟩
 | .H7,_,_,h=>by simpa only [SV.g] using h
 | .ptr ..,_,_,h=>by simpa only [SV.g] using h
 | .U2 row,_,hc,h=>by simp only [SV.cl] at hc;simp only [SV.g] at h ⊢;obtain ⟨a,b,h1,h2⟩:=h;exact ⟨a,b,h1,L9.eY row hc h2⟩
 | .s5 ..,_,_,h=>by simpa only [SV.g] using h
 | .wp ..,_,_,h=>by simpa only [SV.g] using h
 | .agg p l,_,hc,h=>by simp only [SV.cl] at hc;simp only [SV.g] at h ⊢;obtain ⟨cs,h1,h2,h3⟩:=h;exact ⟨cs,h1,B6.eY l hc h2,h3⟩
 | .tuple l,_,hc,h=>by simp only [SV.cl] at hc;simp only [SV.g] at h ⊢;obtain ⟨cs,h1,h2⟩:=h;exact ⟨cs,h1,B6.eY l hc h2⟩
 | .bn _,_,_,h=>by simpa only [SV.g] using h
 | .q x,_,hc,h=>by simp only [SV.cl] at hc;simp only [SV.g] at h ⊢;obtain ⟨y,h1,h2⟩:=h;exact ⟨y,h1,SD.eY x hc h2⟩
theorem B6.eY:∀(x:List SV) {d:List c7},B6.cl x=W->B6.g C vs x d->B6.g C ws x d
 |[],_,_,h=>by simpa only [B6.g] using h
 |x::xs,_,hc,h=>by
  simp only [B6.cl,c8] at hc;simp only [B6.g] at h ⊢;obtain ⟨d,ds,h1,h2,h3⟩:=h;exact ⟨d,ds,h1,SV.eY x hc.1 h2,B6.eY xs hc.2 h3⟩
end
theorem SO.eY (x:SO){o:B4}(hc:x.cl=W)(h:x.g C vs o):x.g C ws o:=by
 cases x with
 |dead=>exact h
 |cells p l=>obtain ⟨cs,h1,h2,h3⟩:=h;exact ⟨cs,h1,B6.eY l hc h2,h3⟩
 |pr k=>exact h
 |bn k=>exact h
 |top=>trivial
 |VB k b=>exact h
theorem M0.eY:∀(x:List SO) {o:n9},M0.cl x=W->M0.g C vs x o->M0.g C ws x o
 |[],_,_,h=>by simp_all [M0.g]
 |x::xs,_,hc,h=>by
  simp [M0.cl,c8] at hc;obtain ⟨d,ds,h1,h2,h3⟩:=h;exact ⟨d,ds,h1,SO.eY x hc.1 h2,M0.eY xs hc.2 h3⟩
end
def Lw:List SV->Option (List Data)
 |[]=>J []
 | .d (.lit x)::r=>match Lw r with
  |some xs=>J (x::xs)
  |none=>K
 |_=>K
abbrev Fact:=Nat->List Data->Bool
def BE (C:Ctx)(fact:Fact):Prop:=∀k ds,fact k ds=W->C.Θ k (ds.map .d)
def Sk (fact:Fact)(p:Option Nat)(l:List SV):Option Nat->Bool
 |none=>W
 |some k=>My p (J k)||(match Lw l with
  |some ds=>fact k ds
  |none=>F)
mutual
def SV.le (fact:Fact)(i4:mG)(x:SV):SV->Bool
 | .top=>W
 | .any=>match x with
  | .any=>W
  |_=>F
 | .d y=>match x with
  | .d x=>SD.le i4 x y
  |_=>F
 | .own z y=>match x with
  | .own z' x=>y7 z z' &&SD.le i4 x y
  |_=>F
 | .H7=>match x with
  | .H7=>W
  |_=>F
 | .ptr i o=>match x with
  | .ptr i' o' =>y7 i i' &&y7 o o'
  |_=>F
 | .U2 _=>F
 | .wp .. =>F
 | .s5 i z l n=>match x with
  | .s5 i' z' l' n' =>y7 i i' &&y7 z z' &&y7 l l' &&y7 n n'
  |_=>F
 | .agg p l=>match x with
  | .agg p' l' =>Sk fact p' l' p&&B6.le fact i4 l' l
  |_=>F
 | .tuple l=>match x with
  | .tuple l' =>B6.le fact i4 l' l
  |_=>F
 | .q y=>match x.data? with
  |some x=>SD.le i4 x y
  |none=>F
 | .bn k=>x.one&&(match x.aa with
  |some b=>y7 b k
  |none=>F)
def B6.le (fact:Fact)(i4:mG)(xs:List SV):List SV->Bool
 |[]=>xs.isEmpty
 |y::ys=>match xs with
  |x::xs=>SV.le fact i4 x y&&B6.le fact i4 xs ys
  |[]=>F
end
def SO.le (fact:Fact)(i4:mG):SO->SO->Bool
 | .dead,.dead=>W
 | .cells p l,.cells p' l' =>Sk fact p l p' &&B6.le fact i4 l l'
 | .pr k,.pr k' =>y7 k k'
 | .VB k b,.VB k' b' =>y7 k k' &&y7 b b'
 |x,.bn k=>(match x.aa with
  |some b=>y7 b k
  |none=>F)
 |_,.top=>W
 |_,_=>F
def M0.le (fact:Fact)(i4:mG):List SO->List SO->Bool
 |[],[]=>W
 |x::xs,y::ys=>x.le fact i4 y&&M0.le fact i4 xs ys
 |_,_=>F
section
variable {C:Ctx} {vs:List Nat} {i4:mG} {fact:Fact} (hB:Bg vs i4) (hf:BE C fact)
theorem RH:∀{l:List SV} {ds:List Data} {cs:List c7},Lw l=J ds->B6.g C vs l cs->cs=ds.map .d
 |[],_,_,h,hg=>by simp_all [Lw,Option.some.injEq,B6.g]
 |x::xs,_,_,h,hg=>by
  obtain ⟨d,ds',rfl,h1,h2⟩:=hg;unfold Lw at h;split at h
  .simp_all
  next y r e=>
   cases e;split at h
   next ys hys=>
    cases h;obtain ⟨q,rfl,h3⟩:=bV h1;subst h3;rw [RH hys h2];rfl
   .cases h
  .cases h
include hf in
def Sl {p q:Option Nat}{l:List SV}{cs:List c7}(h:Sk fact p l q=W)(hl:B6.g C vs l cs)(hp:∀k,p=J k->C.Θ k (cs.map c7.F4)):∀k,q=J k->C.Θ k (cs.map c7.F4):=by
 rintro k rfl;simp [Sk,Bool.or_eq_true] at h
 rcases h with h|h
 .grind [Mz]
 .split at h
  next ds hds=>
   rw [RH hds hl];have e:(ds.map c7.d).map c7.F4=ds.map c7.d:=by rw [List.map_map];rfl
   rw [e];exact hf k ds h
  .cases h
include hB hf
mutual
theorem SV.dD:∀(y:SV) {x:SV} {v:c7},SV.le fact i4 x y=W->x.g C vs v->y.g C vs v
 | .top,_,_,_,_=>by simp [SV.g]
 | .any,x,_,h,hg=>by cases x<;>simp only [SV.le,e8] at h;exact hg
 | .d y,x,_,h,hg=>by
  cases x<;>simp only [SV.le,e8] at h;obtain ⟨d,rfl,h1⟩:=bV hg;exact dO (SD.dD hB y h h1)
 | .own z y,x,_,h,hg=>by
  cases x<;>simp only [SV.le,e8,c8] at h;have e:=j4 h.1;subst e;obtain ⟨len,cells,rfl,h1⟩:=uE hg;simp only [SV.g];exact ⟨_,_,rfl,SD.dD hB y h.2 h1⟩
 | .H7,x,_,h,hg=>by cases x<;>simp only [SV.le,e8] at h;exact hg
 | .ptr i o,x,_,h,hg=>by
  cases x<;>simp only [SV.le,e8,c8] at h;have e:=j4 h.1;have e2:=j4 h.2;subst e e2;exact hg
 | .U2 _,x,_,h,hg=>by simp [SV.le] at h
 | .wp ..,x,_,h,hg=>by simp [SV.le] at h
 | .s5 i z l n,x,_,h,hg=>by
  cases x<;>simp only [SV.le,e8,c8] at h;have e1:=j4 h.1.1.1;have e2:=j4 h.1.1.2;have e3:=j4 h.1.2;have e4:=j4 h.2;subst e1 e2 e3 e4;exact hg
 | .agg p l,x,_,h,hg=>by
  cases x<;>simp only [SV.le,e8,c8] at h;simp only [SV.g] at hg ⊢;obtain ⟨cs,rfl,h1,h2⟩:=hg;exact ⟨cs,rfl,B6.dD l h.2 h1,Sl hf h.1 h1 h2⟩
 | .tuple l,x,_,h,hg=>by
  cases x<;>simp only [SV.le,e8] at h;simp only [SV.g] at hg ⊢;obtain ⟨cs,rfl,h1⟩:=hg;exact ⟨cs,rfl,B6.dD l h h1⟩
 | .q y,x,_,h,hg=>by
  simp only [SV.le] at h;split at h
  next z hz=>
   obtain ⟨d,h0,h1⟩:=Jo hg hz;exact Jn h0 (SD.dD hB y h h1)
  .cases h
 | .bn k,x,_,h,hg=>by
  simp only [SV.le,c8] at h;split at h
  next b hb=>
   have e:=j4 h.2;subst e;simp only [SV.g];exact ⟨SV.dZ hb hg,SV.Da hg h.1⟩
  .exact absurd h.2 U
theorem B6.dD:∀(y:List SV) {x:List SV} {v:List c7},B6.le fact i4 x y=W->B6.g C vs x v->B6.g C vs y v
 |[],x,_,h,hg=>by
  cases x with
  |nil=>exact hg
  |cons=>simp [B6.le] at h
 |y::ys,x,_,h,hg=>by
  cases x<;>simp only [B6.le,e8,c8] at h;simp only [B6.g] at hg ⊢;obtain ⟨d,ds,rfl,h1,h2⟩:=hg;exact ⟨d,ds,rfl,SV.dD y h.1 h1,B6.dD ys h.2 h2⟩
end
theorem SO.dD {x y:SO}{o:B4}(h:x.le fact i4 y=W)(hg:x.g C vs o):y.g C vs o:=by
 have key:∀k,(match x.aa with|some b=>y7 b k|none=>F)=W->o.K9=k:=λk hk=>by
  split at hk
  next b hb=>
   rw [SO.dZ hb hg];exact j4 hk
  .cases hk
 cases y
 case top=>trivial
 case bn k=>exact key k (by cases x<;>simpa only [SO.le] using h)
 all_goals cases x<;>simp only [SO.le,e8,c8] at h
 .exact hg
 .obtain ⟨cs,rfl,h1,h2⟩:=hg
  exact ⟨cs,rfl,B6.dD hB hf _ h.2 h1,Sl hf h.1 h1 h2⟩
 .have e:=j4 h
  subst e;exact hg
 .have e1:=j4 h.1
  have e2:=j4 h.2;subst e1 e2;exact hg
theorem M0.dD:∀{x y:List SO} {o:n9},M0.le fact i4 x y=W->M0.g C vs x o->M0.g C vs y o
 |[],[],_,_,hg=>hg
 |[],_::_,_,h,_=>by simp [M0.le] at h
 |_::_,[],_,h,_=>by simp [M0.le] at h
 |x::xs,y::ys,_,h,hg=>by
  simp [M0.le,c8] at h;obtain ⟨d,ds,rfl,h1,h2⟩:=hg;exact ⟨d,ds,rfl,SO.dD hB hf h.1 h1,M0.dD h.2 h2⟩
end
structure Spec where
 f:FuncId
 args:List SV
 H:List SO
 lim:H8
 outs:List (SV×List SO)
def Spec.cl (s:Spec):Bool:=B6.cl s.args&&M0.cl s.H&&s.outs.all λo=>o.1.cl&&M0.cl o.2
def Spec.ok (C:Ctx)(A:Prog)(s:Spec):Prop:=s.cl=W/\∀as Hc,B6.g C [] s.args as->M0.g C [] s.H Hc->Pq A s.f as Hc s.lim λv H1=>∃o,o∈s.outs/\o.1.g C [] v/\M0.g C [] o.2 H1
def vF (a b:H8):Bool:=y7 a.Xw b.Xw&&y7 a.Xo b.Xo&&y7 a.base b.base&&y7 a.strict b.strict
def Zw (fact:Fact)(specs:List Spec):Sem:=λi4 f args H l=>match specs.find? (λs=>y7 s.f f&&B6.le fact i4 args s.args&&M0.le fact i4 H s.H&&vF s.lim l) with
 |some s=>J s.outs
 |none=>K
def Zx {C:Ctx}{A:Prog}{fact:Fact}(hf:BE C fact){specs:List Spec}(hs:∀s,s∈specs->s.ok C A):jF C A (Zw fact specs):=by
 intro i4 f args H l outs h vs hB as Hc ha hH;unfold Zw at h;split at h
 next s hfind=>
  cases h;have hm:=List.mem_of_find?_eq_some hfind;have hc:=List.find?_some hfind;simp only [c8,vF] at hc;obtain ⟨⟨⟨c1,c2⟩,c3⟩,c4⟩:=hc;obtain ⟨k1,k2⟩:=hs s hm;have e:s.f=f:=j4 c1;have el:s.lim=l:=by
   cases ED:s.lim;simp_all
  simp only [Spec.cl,c8] at k1;obtain ⟨v,H1,⟨o,o1,o2,o3⟩,h1⟩:=k2 as Hc (B6.eY _ k1.1.1 (B6.dD hB hf _ c2 ha)) (M0.eY _ k1.1.2 (M0.dD hB hf c3 hH));rw [e,el] at h1;have k3:=L4.1 k1.2 o o1;simp [c8] at k3;exact ⟨v,H1,⟨o,o1,SV.eY _ k3.1 o2,M0.eY _ k3.2 o3⟩,h1⟩
 .cases h
def Dk (a b:Sem):Sem:=λi4 f args H l=>match a i4 f args H l with
 |some r=>J r
 |none=>b i4 f args H l
def qV {C:Ctx}{A:Prog}{a b:Sem}(ha:jF C A a)(hb:jF C A b):jF C A (Dk a b):=by
 intro i4 f args H l outs h;unfold Dk at h;split at h
 .rename_i r hr;cases h;exact ha _ _ _ _ _ _ hr
 .exact hb _ _ _ _ _ _ h
def Yu (s:CS)(k:Nat):CS:=match s.T[k]? with
 |some v=>match LH (O s.i4) v with
  |some (w,p)=>{ s with T:=s.T.set k w,i4:=s.i4++[p] }
  |none=>s
 |none=>s
def PE (s:CS):Nat->CS
 |0=>s
 |n+1=>PE (Yu s n) n
def ap6 {C:Ctx}{vs:List Nat}{s:CS}{st:St}(hs:s.g C vs st)(k:Nat):∃ws,Le vs ws/\(Yu s k).g C ws st:=by
 unfold Yu;split
 next v e=>
  split
  next w p hn=>
   rw [<- hs.2.2.1] at hn;obtain ⟨a,h1,h2⟩:=B6.get hs.1 e;obtain ⟨m,h3,h4,h5⟩:=IX hn h2;refine ⟨vs++[m],Le.app _ _,?_,M0.Q8 (Le.app _ _) _ hs.2.1,hs.2.2.add h3 h4⟩;have:=B6.set (B6.Q8 (Le.app vs [m]) _ hs.1) k h5;simp_all [ay]
  grind [Le.refl]
 grind [Le.refl]
theorem LG {C:Ctx}:∀(n:Nat) {vs:List Nat} {s:CS} {st:St},s.g C vs st->∃ws,Le vs ws/\(PE s n).g C ws st
 |0,vs,s,st,hs=>⟨vs,Le.refl _,hs⟩
 |n+1,vs,s,st,hs=>by
  obtain ⟨ws,l1,h1⟩:=ap6 hs n;obtain ⟨us,l2,h2⟩:=LG n h1;exact ⟨us,l1.trans l2,h2⟩
def Qe (s:CS)(j:Nat):List CS:=match s.T[j]? with
 |some (.d x)=>match x.int? s.i4 with
  |some (k,lo,hi,_)=>(qH k lo (hi - lo+1).toNat).map λv=>{ s with T:=s.T.set j v }
  |none=>[s]
 |_=>[s]
def JG:List Nat->List CS->List CS
 |[],l=>l
 |j::r,l=>JG r (l.flatMap λs=>Qe s j)
def ZH {C:Ctx}{vs:List Nat}{s:CS}{st:St}(hs:s.g C vs st)(j:Nat):∃s',s'∈Qe s j/\s'.g C vs st:=by
 have hs' :=hs;obtain ⟨hT,hH,hB⟩:=hs;unfold Qe;split
 next x e=>
  split
  next k lo hi r hc=>
   obtain ⟨a,h1,h2⟩:=B6.get hT e;obtain ⟨d,rfl,h3⟩:=bV h2;obtain ⟨m,rfl,h4,h5,_⟩:=SD.kP hB hc h3;refine ⟨_,List.mem_map.2 ⟨_,oI _ lo m h4 V,rfl⟩,?_,hH,hB⟩;have:=B6.set hT j (a:= .d (.lit (.int k m))) (b:= .d (.int k m)) (dO (by rfl));simp_all [ay]
  simp_all
 simp_all
theorem GA {C:Ctx}{vs:List Nat}{st:St}:∀(js:List Nat) {l:List CS} {s:CS},s∈l->s.g C vs st->∃s',s'∈JG js l/\s'.g C vs st
 |[],l,s,hm,hs=>⟨s,hm,hs⟩
 |j::js,l,s,hm,hs=>by
  obtain ⟨s1,h1,h2⟩:=ZH hs j;exact GA js (List.mem_flatMap.2 ⟨s,hm,h1⟩) h2
def bc3:E6->Bool
 | .exit _=>F
 |_=>W
def aP6 (A:Prog)(sem:Sem)(hook:Oz)(fact:Fact)(kp js:List Nat)(fuel:Nat)(af:q6)(s:Spec):Bool :=
 s.cl&&y7 (O s.args) af.nparams&&match kH (dH A sem hook kp s.lim (O s.H) fuel af.body) (JG js [PE ⟨s.args++c9 (O af.names - O s.args) .any,s.H,[]⟩ (O s.args)]) with
  |some outs=>outs.all λo=>bc3 o.1&&match ru o.2.T o.2.H af.results with
   |some l=>match Jy af.cI (O s.H) l o.2.H with
    |some (v,H1)=>s.outs.any λp=>SV.le fact o.2.i4 v p.1&&M0.le fact o.2.i4 H1 p.2
    |none=>F
   |none=>F
  |none=>F
def Bo {C:Ctx}{A:Prog}{sem:Sem}{hook:Oz}{fact:Fact}{kp js:List Nat}{fuel:Nat}{s:Spec}{af:q6}(iG:jF C A sem)(hf:BE C fact)(KX:Ig C A s.lim (O s.H) hook)(hp:A.gQ s.f=K)(ha:A.fn s.f=J af)
  (h:aP6 A sem hook fact kp js fuel af s=W):s.ok C A:=by
 unfold aP6 at h;simp only [c8] at h;obtain ⟨⟨c1,c2⟩,c3⟩:=h;have c2:=j4 c2;refine ⟨c1,λas Hc hA hH=>?_⟩;split at c3
 next outs hx=>
  have Ka:=B6.len hA;have hHl:=M0.len hH;obtain ⟨ws,_,h0⟩:=LG (O s.args) (C:=C) (vs:=[]) (s:=⟨s.args++c9 (O af.names - O s.args) .any,s.H,[]⟩) (st:=⟨as++c9 (O af.names - O as) .any,Hc⟩) ⟨by simp_all [B6.app,Im],hH,rfl,λi lo hi h=>by simp at h⟩;obtain ⟨s0,m0,h0⟩:=GA js (y3.2 rfl) h0;obtain ⟨z,hz,hmz⟩:=Z8 hx s0 m0;have h1:=iZ iG KX af.body h0 hz;refine Pq.run (b:=O s.H) _ hp ha V hHl rfl (h1.mono ?_);rintro x st' ⟨o,o1,rfl,us,l1,g1,g2,g3⟩;have c4:=L4.1 c3 o (hmz o o1);simp [c8] at c4;obtain ⟨c5,c6⟩:=c4;split at c6
  next l hl=>
   obtain ⟨bs,h2,h3⟩:=Dz g1 g2 hl;split at c6
   next v H1 xF=>
    obtain ⟨a,H2,h4,h5,h6⟩:=VQ g2 h3 xF;obtain ⟨p,p1,p2⟩:=List.any_eq_true.1 c6;simp [c8] at p2;refine ⟨a,H2,?_,p,p1,?_,?_⟩
    .cases he:o.1 with
     |exit i=>rw [he] at c5;cases c5
     |normal=>simp_all [aZ]
     |ret=>simp_all [aZ]
    .simp only [Spec.cl,c8] at c1
     have k3:=L4.1 c1.2 p p1;simp [c8] at k3;exact SV.eY _ k3.1 (SV.dD g3 hf _ p2.1 h5)
    .simp only [Spec.cl,c8] at c1
     have k3:=L4.1 c1.2 p p1;simp [c8] at k3;exact M0.eY _ k3.2 (M0.dD g3 hf p2.2 h6)
   .cases c6
  .cases c6
 .cases c3
end Go.B3.Sh

