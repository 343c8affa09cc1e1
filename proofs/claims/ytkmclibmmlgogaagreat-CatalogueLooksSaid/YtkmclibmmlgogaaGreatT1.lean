/- The builder of tables, by shapes. (made short by a program) -/
import Derived.Test.YtkmclibmmlgogaaGreatT0
set_option linter.unusedVariables false
set_option linter.unusedSimpArgs false
open Bool renaming and_eq_true → b5
open List renaming mem_cons → x9, replicate → c9
open Nat renaming beq → y7, eq_of_beq_eq_true → b8
namespace Go.Proofs.YtkmclibmmlgogaaGreat
open Go.z7 Go.z7.S Go.z7.Sh
attribute [local irreducible] Rx Ry Rn Ex Pf
def gU (C:Ctx)(l:List Sh.Spec):Prop:=∀ s,s ∈ l->s.ok C A
theorem gU.nil {C:Ctx}:gU C []:=fun s h=>by cases h
theorem gU.cons {C:Ctx}{s:Sh.Spec}{l:List Sh.Spec}(h:s.ok C A)(hl:gU C l):gU C (s::l):=fun t ht=>by
 rcases x9.1 ht with rfl|ht
 ·exact h
 ·exact hl t ht
theorem gU.app {C:Ctx}{k l:List Sh.Spec}(h:gU C k)(hl:gU C l):gU C (k++l):=fun t ht=>(List.mem_append.1 ht).elim (h t) (hl t)
def Wu (l:List Sh.Spec):Sh.Sem:=xu uX (Ox nZ l)
theorem qV {xs:List Int}(hx:xs.length<=35184372088832){g:n5}{l:List Sh.Spec}(h:gU (cN xs g) l):eN (cN xs g) A (Wu l):=jD (xq xs hx g) (Oy bG h)
theorem dW {xs:List Int}(hx:xs.length<=35184372088832){g:n5}{l:List Sh.Spec}(h:gU (cN xs g) l){kp js:List Nat}{af:q6}{s:Sh.Spec}(hp:A.gB s.f=none)(ha:A.fn s.f=some af)(hc:Wq A (Wu l) Tj nZ kp js 40 af s=true):s.ok (cN xs g) A :=
 qU (qV hx h) bG wq hp ha hc
def l0:H7:=⟨0,0,0,0⟩
def l1:H7:=⟨0,0,1,1⟩
def iR (a b:Int):SD:= .int .i64 a b .no
def s35:Sh.Spec:=⟨35,[.d (.str 1),.d (iR 0 1000000)],[],l0,[(.d (.str 2),[])]⟩
def vV:SV:= .agg none [.d (iR 0 2),.d sI,.d (.str 100)]
def ac9:Sh.Spec:=⟨187,[vV],[],l0,[(.d (.bool .sr),[])]⟩
def Wl:Sh.Spec:=⟨186,[vV],[],l0,[(vV,[])]⟩
def ac7:Sh.Spec:=⟨176,[.d sI],[],l0,[(vV,[])]⟩
def ac8:Sh.Spec:=⟨177,[.d (.str 100)],[],l0,[(vV,[])]⟩
def RW:Sh.Spec:=⟨159,[.ptr 0 0],[.pr 0],l1,[(vV,[.pr 0])]⟩
def RX:Sh.Spec:=⟨160,[.ptr 0 0],[.pr 0],l1,[(vV,[.pr 0])]⟩
def Wk:Sh.Spec:=⟨141,[.d (iR 3 18)],[],l0,[(.d (iR 1 3),[])]⟩
def Xj:List SD:=[iR 0 18,iR 0 2,sI,.str 100,iR 0 100]
def tyS:SV:= .d (.slice none 1 24 [iR 1 2])
def LK (d:Nat)(hi:Nat):Sh.Spec:=⟨124,[.ptr 0 0,.d (iR 1 d),tyS,.d (iR 1 2)],[.pr 0],l1,[(.own 5 (.slice none 1 hi Xj),[.pr 0]),(.d (.slice none 1 hi Xj),[.pr 0])]⟩
def rC4:List SD:=[.str 2,iR 1 2,.str 6,.str 2,.slice none 0 12 [iR 0 3],iR 0 1,iR 0 20]
def RM:List SD:=[.str 2,.slice none 2 4 rC4,iR 0 1,iR 0 40]
def aD2:Sh.Spec:=⟨125,[.ptr 0 0,tyS,.d (iR 1 3),.d (iR 0 3)],[.pr 0],l1,[(.d (.slice none 1 3 [.str 2,.slice none 1 4 Xj]),[.pr 0])]⟩
def RV (n:Nat):Sh.Spec:=⟨127,[.d (.slice none 0 n [iR 0 3]),.d (iR 0 3)],[],l0,[(.d (.slice none 0 (n+1) [iR 0 3]),[]),(.own 1 (.slice none 0 (n+1) [iR 0 3]),[])]⟩
def e0 (n:Nat):SV:= .d (.slice none 0 0 (c9 n .top))
def Uz:SV:= .agg none [.d (.slice none 0 3 RM),e0 9,e0 3,e0 6,e0 4,e0 3,e0 2,e0 3]
def lC (n:Nat):H7:=⟨1,n,n,1⟩
def rCn:List SD:=[.str 2,iR 1 2,.str 6,.str 2,.slice none 0 0 [iR 0 3],.lit (.int .i64 0),.lit (.int .i64 0)]
def Yo:SV:= .agg none (rCn.map .d)
def aD9:SV:= .agg none [.d (.str 2),.d (.slice none 0 0 (c9 7 .top)),.d (iR 0 1),.d (iR 0 40)]
def zY (n:Nat):SV:= .own n (.lit (.slice 0 []))
def zC:SO:= .cells none [zY 4,zY 9,zY 3,zY 6,zY 4,zY 3,zY 2,zY 3]
def vC (m:Nat):SO:= .cells (some 0) [.d (.slice none 1 m RM),e0 9,e0 3,e0 6,e0 4,e0 3,e0 2,e0 3]
def Sv (n:Nat):SV:= .agg none [.d (.str 2),.E3 4 7 0 n,.d (iR 0 1),.d (iR 0 40)]
def tB (n:Nat):SO:= .cells none [.d (.str 2),.E3 4 7 0 n,.d (iR 0 1),.d (iR 0 40)]
def MA (n:Nat):List SV:=(c9 n (rCn.map .d)).flatten
def ar2 (n:Nat):List SV:=(c9 n (rC4.map fun x=>match x with| .slice v lo hi r=>SV.q (.slice v lo hi r)|x=>SV.d x)).flatten
def hN (c:SO)(n:Nat)(m9:List SV):List SO:=[.pr 0,zC,c,tB n,.cells none m9]
def ad1:Sh.Spec:=⟨77,[.ptr 0 0,Uz,aD9,.d (iR 0 3)],[.pr 0],lC 1,[(Yo,[.pr 0])]⟩
def RY (c:SO)(n:Nat):Sh.Spec:=⟨77,[.ptr 0 0,Uz,Sv n,.d (iR 0 3)],hN c n (MA n),lC 5,[(Yo,hN c n (MA n))]⟩
def ac6 (c:SO)(n:Nat):Sh.Spec:=⟨126,[Sv n],hN c n (MA n),⟨0,5,5,1⟩,[(.d (.slice none 0 n [iR 0 3]),hN c n (MA n))]⟩
def s78 (c:SO)(n:Nat):Sh.Spec:=⟨78,[.ptr 0 0,Uz,Sv n],hN c n (MA n),⟨0,0,5,1⟩,[(Sv n,hN c n (ar2 n))]⟩
def Mv:SV:= .agg (some 0) [.d (.slice none 1 3 RM),e0 9,e0 3,e0 6,e0 4,e0 3,e0 2,e0 3]
def s33 (n:Nat):Sh.Spec:=⟨33,[.ptr 0 0,.d (.lit (.int .i64 n))],[.pr 0],l1,[(Mv,[.pr 0])]⟩
def lB:n5:=⟨[⟨[116,48],[⟨[99,48],1,[112,101,114,115,111,110],[],[],0,0⟩,⟨[99,49],2,[],[],[0],0,0⟩],0,0⟩],[],[],[],[],[],[],[]⟩
theorem Vg:K7 lB=true:=by kernel_rfl
theorem Vf:C0 lB:=by
 refine ⟨⟨by simp [n5.fq,lB],?_,?_⟩,?_,?_,?_,?_,?_,?_,?_⟩
 ·intro n hn
  have:n=0:=by simp [lB] at hn;omega
  subst this;simp [lB,nth]
 ·intro n i hn hi
  have:n=0:=by simp [lB] at hn;omega
  subst this;have hi:i<2:=by simpa [lB,nth] using hi
  match i,hi with
  |0,_=>simp [lB,nth]
  |1,_=>simp [lB,nth]
 ·intro k hk;simp [lB] at hk
 ·intro k hk;simp [lB] at hk
 ·intro k hk;simp [lB] at hk
 ·intro k hk;simp [lB] at hk
 ·intro k i hk;simp [lB] at hk
 ·intro k i hk;simp [lB] at hk
 ·intro k hk;simp [lB] at hk
def SU:Fact:=fun k ds=>y7 k 0&&Sh.Lb ds lB.enc
theorem MI (xs:List Int)(g:n5):vk (cN xs g) SU:=fun k ds h=>by
 simp only [SU,b5] at h;have h1:=b8 h.1;have h2:=Sh.BA _ _ h.2;subst h1 h2;exact ⟨lB,rfl,Vg,Vf⟩
section
variable {xs:List Int} (hx:xs.length<=35184372088832) (g:n5)
include hx
theorem Xc:s35.ok (cN xs g) A:=dW hx (l:=[]) (kp:=[]) (js:=[]) .nil rfl rfl (by kernel_rfl)
theorem az9:ac9.ok (cN xs g) A:=dW hx (l:=[]) (kp:=[]) (js:=[]) .nil rfl rfl (by kernel_rfl)
theorem Zu:Wl.ok (cN xs g) A:=dW hx (l:=[ac9]) (kp:=[]) (js:=[]) (.cons (az9 hx g) .nil) rfl rfl (by kernel_rfl)
theorem az7:ac7.ok (cN xs g) A:=dW hx (l:=[Wl]) (kp:=[]) (js:=[]) (.cons (Zu hx g) .nil) rfl rfl (by kernel_rfl)
theorem az8:ac8.ok (cN xs g) A:=dW hx (l:=[Wl]) (kp:=[]) (js:=[]) (.cons (Zu hx g) .nil) rfl rfl (by kernel_rfl)
theorem Vm:RW.ok (cN xs g) A:=dW hx (l:=[ac7]) (kp:=[]) (js:=[]) (.cons (az7 hx g) .nil) rfl rfl (by kernel_rfl)
theorem Vn:RX.ok (cN xs g) A:=dW hx (l:=[ac8]) (kp:=[]) (js:=[]) (.cons (az8 hx g) .nil) rfl rfl (by kernel_rfl)
theorem Zt:Wk.ok (cN xs g) A:=dW hx (l:=[]) (kp:=[]) (js:=[]) .nil rfl rfl (by kernel_rfl)
theorem Zr:(LK 1 1).ok (cN xs g) A:=dW hx (l:=[RW,RX]) (kp:=[]) (js:=[]) (.cons (Vm hx g) (.cons (Vn hx g) .nil)) rfl rfl (by kernel_rfl)
theorem Nz:(LK 2 4).ok (cN xs g) A:=dW hx (l:=[RW,RX,Wk,LK 1 1]) (kp:=[]) (js:=[1]) (.cons (Vm hx g) (.cons (Vn hx g) (.cons (Zt hx g) (.cons (Zr hx g) .nil)))) rfl rfl (by kernel_rfl)
theorem Zs:(LK 3 13).ok (cN xs g) A:=dW hx (l:=[RW,RX,Wk,LK 2 4]) (kp:=[]) (js:=[1]) (.cons (Vm hx g) (.cons (Vn hx g) (.cons (Zt hx g) (.cons (Nz hx g) .nil)))) rfl rfl (by kernel_rfl)
theorem az5:aD2.ok (cN xs g) A:=dW hx (l:=[s35,LK 2 4]) (kp:=[]) (js:=[]) (.cons (Xc hx g) (.cons (Nz hx g) .nil)) rfl rfl (by kernel_rfl)
theorem Vl (n:Nat)(h:n=2\/n=3\/n=4):(RV n).ok (cN xs g) A:=by
 rcases h with rfl|rfl|rfl<;>exact dW hx (l:=[]) (kp:=[3]) (js:=[]) .nil rfl rfl (by kernel_rfl)
theorem aA0:ad1.ok (cN xs g) A:=dW hx (l:=[s35]) (kp:=[]) (js:=[]) (.cons (Xc hx g) .nil) rfl rfl (by kernel_rfl)
theorem Vo (c:SO)(n:Nat)(h:n=1\/n=2\/n=3)(hc:c=zC\/c=vC 1\/c=vC 2):(RY c n).ok (cN xs g) A:=by
 rcases h with rfl|rfl|rfl<;>rcases hc with rfl|rfl|rfl<;>exact dW hx (l:=[s35]) (kp:=[]) (js:=[]) (.cons (Xc hx g) .nil) rfl rfl (by kernel_rfl)
theorem az6 (c:SO)(n:Nat)(h:n=2\/n=3\/n=4)(hc:c=zC\/c=vC 1\/c=vC 2):(ac6 c n).ok (cN xs g) A:=by
 rcases h with rfl|rfl|rfl<;>rcases hc with rfl|rfl|rfl<;>exact dW hx (l:=[]) (kp:=[]) (js:=[]) .nil rfl rfl (by kernel_rfl)
theorem o78 (c:SO)(n:Nat)(h:n=2\/n=3\/n=4)(hc:c=zC\/c=vC 1\/c=vC 2):(s78 c n).ok (cN xs g) A:=by
 have hl:gU (cN xs g) [ac6 c n,RV 2,RV 3,RV 4]:= .cons (az6 hx g c n h hc) (.cons (Vl hx g 2 (by simp)) (.cons (Vl hx g 3 (by simp)) (.cons (Vl hx g 4 (by simp)) .nil)))
 rcases h with rfl|rfl|rfl<;>rcases hc with rfl|rfl|rfl<;>exact dW hx (kp:=[]) (js:=[]) hl rfl rfl (by kernel_rfl)
def Wy:List Sh.Spec:=[s35,ad1]++[zC,vC 1,vC 2].flatMap fun c=>[RY c 1,RY c 2,RY c 3,s78 c 2,s78 c 3,s78 c 4]
theorem LS:gU (cN xs g) Wy:=by
 refine .cons (Xc hx g) (.cons (aA0 hx g) ?_);intro s hs;obtain ⟨c,hc,h⟩:=List.mem_flatMap.1 hs;have hc:c=zC\/c=vC 1\/c=vC 2:=by simpa using hc
 simp only [x9,List.not_mem_nil,or_false] at h
 rcases h with rfl|rfl|rfl|rfl|rfl|rfl
 ·exact Vo hx g c 1 (by simp) hc
 ·exact Vo hx g c 2 (by simp) hc
 ·exact Vo hx g c 3 (by simp) hc
 ·exact o78 hx g c 2 (by simp) hc
 ·exact o78 hx g c 3 (by simp) hc
 ·exact o78 hx g c 4 (by simp) hc
theorem o33:(s33 3).ok (cN xs g) A:=qU (kp:=[]) (js:=[]) (fuel:=40) (qV hx (LS hx g)) (MI xs g) (wu xs g _ _) rfl rfl (by kernel_rfl)
end
end Go.Proofs.YtkmclibmmlgogaaGreat

