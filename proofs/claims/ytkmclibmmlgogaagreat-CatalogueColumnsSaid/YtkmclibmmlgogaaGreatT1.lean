/- The builder of tables, by shapes. (made short by a program) -/
import Derived.Test.YtkmclibmmlgogaaGreatT0
set_option linter.unusedVariables false
set_option linter.unusedSimpArgs false
open Bool renaming and_eq_true → b5
open List renaming mem_cons → B8, replicate → c9
open Nat renaming beq → y4, eq_of_beq_eq_true → b8
namespace Go.Proofs.YtkmclibmmlgogaaGreat
open Go.u7 Go.u7.S Go.u7.Sh
attribute [local irreducible] Rx Ry Rn Ex Pf
def gC (C:Ctx)(l:List Sh.Spec):Prop:=∀ s,s ∈ l->s.ok C A
theorem gC.nil {C:Ctx}:gC C []:=fun s h=>by cases h
theorem gC.cons {C:Ctx}{s:Sh.Spec}{l:List Sh.Spec}(h:s.ok C A)(hl:gC C l):gC C (s::l):=fun t ht=>by
 rcases B8.1 ht with rfl|ht
 ·exact h
 ·exact hl t ht
theorem gC.app {C:Ctx}{k l:List Sh.Spec}(h:gC C k)(hl:gC C l):gC C (k++l):=fun t ht=>(List.mem_append.1 ht).elim (h t) (hl t)
def Vh (l:List Sh.Spec):Sh.Sem:=wE uv (NM nE l)
theorem uu {xs:List Int}(hx:xs.length<=35184372088832){g:m9}{l:List Sh.Spec}(h:gC (dn xs g) l):fe (dn xs g) A (Vh l):=lS (wD xs hx g) (NN cL h)
theorem dF {xs:List Int}(hx:xs.length<=35184372088832){g:m9}{l:List Sh.Spec}(h:gC (dn xs g) l){kp js:List Nat}{af:q5}{s:Sh.Spec}(hp:A.ga s.f=none)(ha:A.fn s.f=some af)(hc:Vd A (Vh l) Sc nE kp js 40 af s=true):s.ok (dn xs g) A :=
 ur (uu hx h) cL CZ hp ha hc
def l0:F9:=⟨0,0,0,0⟩
def l1:F9:=⟨0,0,1,1⟩
def iR (a b:Int):SD:= .int .i64 a b .no
def Zi:Sh.Spec:=⟨35,[.d (.str 1),.d (iR 0 1000000)],[],l0,[(.d (.str 2),[])]⟩
def vV:SV:= .agg none [.d (iR 0 2),.d sI,.d (.str 100)]
def Zh:Sh.Spec:=⟨187,[vV],[],l0,[(.d (.bool .qU),[])]⟩
def UY:Sh.Spec:=⟨186,[vV],[],l0,[(vV,[])]⟩
def Zf:Sh.Spec:=⟨176,[.d sI],[],l0,[(vV,[])]⟩
def Zg:Sh.Spec:=⟨177,[.d (.str 100)],[],l0,[(vV,[])]⟩
def QX:Sh.Spec:=⟨159,[.ptr 0 0],[.pr 0],l1,[(vV,[.pr 0])]⟩
def QY:Sh.Spec:=⟨160,[.ptr 0 0],[.pr 0],l1,[(vV,[.pr 0])]⟩
def UX:Sh.Spec:=⟨141,[.d (iR 3 18)],[],l0,[(.d (iR 1 3),[])]⟩
def VS:List SD:=[iR 0 18,iR 0 2,sI,.str 100,iR 0 100]
def tyS:SV:= .d (.slice none 1 24 [iR 1 2])
def KX (d:Nat)(hi:Nat):Sh.Spec:=⟨124,[.ptr 0 0,.d (iR 1 d),tyS,.d (iR 1 2)],[.pr 0],l1,[(.own 5 (.slice none 1 hi VS),[.pr 0]),(.d (.slice none 1 hi VS),[.pr 0])]⟩
def YV:List SD:=[.str 2,iR 1 2,.str 6,.str 2,.slice none 0 12 [iR 0 3],iR 0 1,iR 0 20]
def QK:List SD:=[.str 2,.slice none 2 4 YV,iR 0 1,iR 0 40]
def av2:Sh.Spec:=⟨125,[.ptr 0 0,tyS,.d (iR 1 3),.d (iR 0 3)],[.pr 0],l1,[(.d (.slice none 1 3 [.str 2,.slice none 1 4 VS]),[.pr 0])]⟩
def QW (n:Nat):Sh.Spec:=⟨127,[.d (.slice none 0 n [iR 0 3]),.d (iR 0 3)],[],l0,[(.d (.slice none 0 (n+1) [iR 0 3]),[]),(.own 1 (.slice none 0 (n+1) [iR 0 3]),[])]⟩
def e0 (n:Nat):SV:= .d (.slice none 0 0 (c9 n .top))
def Tt:SV:= .agg none [.d (.slice none 0 3 QK),e0 9,e0 3,e0 6,e0 4,e0 3,e0 2,e0 3]
def lC (n:Nat):F9:=⟨1,n,n,1⟩
def rCn:List SD:=[.str 2,iR 1 2,.str 6,.str 2,.slice none 0 0 [iR 0 3],.lit (.int .i64 0),.lit (.int .i64 0)]
def WX:SV:= .agg none (rCn.map .d)
def av9:SV:= .agg none [.d (.str 2),.d (.slice none 0 0 (c9 7 .top)),.d (iR 0 1),.d (iR 0 40)]
def zi (n:Nat):SV:= .own n (.lit (.slice 0 []))
def zC:SO:= .cells none [zi 4,zi 9,zi 3,zi 6,zi 4,zi 3,zi 2,zi 3]
def vC (m:Nat):SO:= .cells (some 0) [.d (.slice none 1 m QK),e0 9,e0 3,e0 6,e0 4,e0 3,e0 2,e0 3]
def Rv (n:Nat):SV:= .agg none [.d (.str 2),.D0 4 7 0 n,.d (iR 0 1),.d (iR 0 40)]
def tBo (n:Nat):SO:= .cells none [.d (.str 2),.D0 4 7 0 n,.d (iR 0 1),.d (iR 0 40)]
def LW (n:Nat):List SV:=(c9 n (rCn.map .d)).flatten
def aj1 (n:Nat):List SV:=(c9 n (YV.map fun x=>match x with| .slice v lo hi r=>SV.q (.slice v lo hi r)|x=>SV.d x)).flatten
def hN (c:SO)(n:Nat)(m8:List SV):List SO:=[.pr 0,zC,c,tBo n,.cells none m8]
def Zj:Sh.Spec:=⟨77,[.ptr 0 0,Tt,av9,.d (iR 0 3)],[.pr 0],lC 1,[(WX,[.pr 0])]⟩
def QZ (c:SO)(n:Nat):Sh.Spec:=⟨77,[.ptr 0 0,Tt,Rv n,.d (iR 0 3)],hN c n (LW n),lC 5,[(WX,hN c n (LW n))]⟩
def Ze (c:SO)(n:Nat):Sh.Spec:=⟨126,[Rv n],hN c n (LW n),⟨0,5,5,1⟩,[(.d (.slice none 0 n [iR 0 3]),hN c n (LW n))]⟩
def s78 (c:SO)(n:Nat):Sh.Spec:=⟨78,[.ptr 0 0,Tt,Rv n],hN c n (LW n),⟨0,0,5,1⟩,[(Rv n,hN c n (aj1 n))]⟩
def LQ:SV:= .agg (some 0) [.d (.slice none 1 3 QK),e0 9,e0 3,e0 6,e0 4,e0 3,e0 2,e0 3]
def s33 (n:Nat):Sh.Spec:=⟨33,[.ptr 0 0,.d (.lit (.int .i64 n))],[.pr 0],l1,[(LQ,[.pr 0])]⟩
def kF:m9:=⟨[⟨[116,48],[⟨[99,48],1,[112,101,114,115,111,110],[],[],0,0⟩,⟨[99,49],2,[],[],[0],0,0⟩],0,0⟩],[],[],[],[],[],[],[]⟩
theorem TY:M7 kF=true:=by kernel_rfl
theorem TX:E8 kF:=by
 refine ⟨⟨by simp [m9.fI,kF],?_,?_⟩,?_,?_,?_,?_,?_,?_,?_⟩
 ·intro n hn
  have:n=0:=by simp [kF] at hn;omega
  subst this;simp [kF,nth]
 ·intro n i hn hi
  have:n=0:=by simp [kF] at hn;omega
  subst this;have hi:i<2:=by simpa [kF,nth] using hi
  match i,hi with
  |0,_=>simp [kF,nth]
  |1,_=>simp [kF,nth]
 ·intro k hk;simp [kF] at hk
 ·intro k hk;simp [kF] at hk
 ·intro k hk;simp [kF] at hk
 ·intro k hk;simp [kF] at hk
 ·intro k i hk;simp [kF] at hk
 ·intro k i hk;simp [kF] at hk
 ·intro k hk;simp [kF] at hk
def RQ:Fact:=fun k ds=>y4 k 0&&Sh.Ks ds kF.enc
theorem Mf (xs:List Int)(g:m9):uE (dn xs g) RQ:=fun k ds h=>by
 simp only [RQ,b5] at h;have h1:=b8 h.1;have h2:=Sh.AS _ _ h.2;subst h1 h2;exact ⟨kF,rfl,TY,TX⟩
section
variable {xs:List Int} (hx:xs.length<=35184372088832) (g:m9)
include hx
theorem VP:Zi.ok (dn xs g) A:=dF hx (l:=[]) (kp:=[]) (js:=[]) .nil rfl rfl (by kernel_rfl)
theorem as0:Zh.ok (dn xs g) A:=dF hx (l:=[]) (kp:=[]) (js:=[]) .nil rfl rfl (by kernel_rfl)
theorem Yg:UY.ok (dn xs g) A:=dF hx (l:=[Zh]) (kp:=[]) (js:=[]) (.cons (as0 hx g) .nil) rfl rfl (by kernel_rfl)
theorem ar8:Zf.ok (dn xs g) A:=dF hx (l:=[UY]) (kp:=[]) (js:=[]) (.cons (Yg hx g) .nil) rfl rfl (by kernel_rfl)
theorem ar9:Zg.ok (dn xs g) A:=dF hx (l:=[UY]) (kp:=[]) (js:=[]) (.cons (Yg hx g) .nil) rfl rfl (by kernel_rfl)
theorem Ud:QX.ok (dn xs g) A:=dF hx (l:=[Zf]) (kp:=[]) (js:=[]) (.cons (ar8 hx g) .nil) rfl rfl (by kernel_rfl)
theorem Ue:QY.ok (dn xs g) A:=dF hx (l:=[Zg]) (kp:=[]) (js:=[]) (.cons (ar9 hx g) .nil) rfl rfl (by kernel_rfl)
theorem Yf:UX.ok (dn xs g) A:=dF hx (l:=[]) (kp:=[]) (js:=[]) .nil rfl rfl (by kernel_rfl)
theorem Yd:(KX 1 1).ok (dn xs g) A:=dF hx (l:=[QX,QY]) (kp:=[]) (js:=[]) (.cons (Ud hx g) (.cons (Ue hx g) .nil)) rfl rfl (by kernel_rfl)
theorem MT:(KX 2 4).ok (dn xs g) A:=dF hx (l:=[QX,QY,UX,KX 1 1]) (kp:=[]) (js:=[1]) (.cons (Ud hx g) (.cons (Ue hx g) (.cons (Yf hx g) (.cons (Yd hx g) .nil)))) rfl rfl (by kernel_rfl)
theorem Ye:(KX 3 13).ok (dn xs g) A:=dF hx (l:=[QX,QY,UX,KX 2 4]) (kp:=[]) (js:=[1]) (.cons (Ud hx g) (.cons (Ue hx g) (.cons (Yf hx g) (.cons (MT hx g) .nil)))) rfl rfl (by kernel_rfl)
theorem ar6:av2.ok (dn xs g) A:=dF hx (l:=[Zi,KX 2 4]) (kp:=[]) (js:=[]) (.cons (VP hx g) (.cons (MT hx g) .nil)) rfl rfl (by kernel_rfl)
theorem Uc (n:Nat)(h:n=2\/n=3\/n=4):(QW n).ok (dn xs g) A:=by
 rcases h with rfl|rfl|rfl<;>exact dF hx (l:=[]) (kp:=[3]) (js:=[]) .nil rfl rfl (by kernel_rfl)
theorem as1:Zj.ok (dn xs g) A:=dF hx (l:=[Zi]) (kp:=[]) (js:=[]) (.cons (VP hx g) .nil) rfl rfl (by kernel_rfl)
theorem Uf (c:SO)(n:Nat)(h:n=1\/n=2\/n=3)(hc:c=zC\/c=vC 1\/c=vC 2):(QZ c n).ok (dn xs g) A:=by
 rcases h with rfl|rfl|rfl<;>rcases hc with rfl|rfl|rfl<;>exact dF hx (l:=[Zi]) (kp:=[]) (js:=[]) (.cons (VP hx g) .nil) rfl rfl (by kernel_rfl)
theorem ar7 (c:SO)(n:Nat)(h:n=2\/n=3\/n=4)(hc:c=zC\/c=vC 1\/c=vC 2):(Ze c n).ok (dn xs g) A:=by
 rcases h with rfl|rfl|rfl<;>rcases hc with rfl|rfl|rfl<;>exact dF hx (l:=[]) (kp:=[]) (js:=[]) .nil rfl rfl (by kernel_rfl)
theorem o78 (c:SO)(n:Nat)(h:n=2\/n=3\/n=4)(hc:c=zC\/c=vC 1\/c=vC 2):(s78 c n).ok (dn xs g) A:=by
 have hl:gC (dn xs g) [Ze c n,QW 2,QW 3,QW 4]:= .cons (ar7 hx g c n h hc) (.cons (Uc hx g 2 (by simp)) (.cons (Uc hx g 3 (by simp)) (.cons (Uc hx g 4 (by simp)) .nil)))
 rcases h with rfl|rfl|rfl<;>rcases hc with rfl|rfl|rfl<;>exact dF hx (kp:=[]) (js:=[]) hl rfl rfl (by kernel_rfl)
def Vk:List Sh.Spec:=[Zi,Zj]++[zC,vC 1,vC 2].flatMap fun c=>[QZ c 1,QZ c 2,QZ c 3,s78 c 2,s78 c 3,s78 c 4]
theorem Lg:gC (dn xs g) Vk:=by
 refine .cons (VP hx g) (.cons (as1 hx g) ?_);intro s hs;obtain ⟨c,hc,h⟩:=List.mem_flatMap.1 hs;have hc:c=zC\/c=vC 1\/c=vC 2:=by simpa using hc
 simp only [B8,List.not_mem_nil,or_false] at h
 rcases h with rfl|rfl|rfl|rfl|rfl|rfl
 ·exact Uf hx g c 1 (by simp) hc
 ·exact Uf hx g c 2 (by simp) hc
 ·exact Uf hx g c 3 (by simp) hc
 ·exact o78 hx g c 2 (by simp) hc
 ·exact o78 hx g c 3 (by simp) hc
 ·exact o78 hx g c 4 (by simp) hc
theorem o33:(s33 3).ok (dn xs g) A:=ur (kp:=[]) (js:=[]) (fuel:=40) (uu hx (Lg hx g)) (Mf xs g) (vu xs g _ _) rfl rfl (by kernel_rfl)
end
end Go.Proofs.YtkmclibmmlgogaaGreat

