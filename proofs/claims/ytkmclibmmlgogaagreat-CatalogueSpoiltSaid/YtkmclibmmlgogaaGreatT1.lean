/- The builder of tables, by shapes. (made short by a program) -/
import Derived.Test.YtkmclibmmlgogaaGreatT0
set_option linter.unusedVariables false
set_option linter.unusedSimpArgs false
open Bool renaming and_eq_true → b5
open List renaming mem_cons → C6, replicate → c9
open Nat renaming beq → r9, eq_of_beq_eq_true → b9
namespace Go.Proofs.YtkmclibmmlgogaaGreat
open Go.y3 Go.y3.S Go.y3.Sh
attribute [local irreducible] Rx Ry Rn Ex Pf
variable [Inhabited NM]
def iB (C:Ctx)(l:List Sh.Spec):Prop:=∀ s,s ∈ l->s.ok C A
theorem iB.nil {C:Ctx}:iB C []:=fun s h=>by have _:Inhabited NM:=inferInstance;cases h
theorem iB.cons {C:Ctx}{s:Sh.Spec}{l:List Sh.Spec}(h:s.ok C A)(hl:iB C l):iB C (s::l):=fun t ht=>by
 have _:Inhabited NM:=inferInstance
 rcases C6.1 ht with rfl|ht
 ·exact h
 ·exact hl t ht
theorem iB.app {C:Ctx}{k l:List Sh.Spec}(h:iB C k)(hl:iB C l):iB C (k++l):=fun t ht=>have _:Inhabited NM:=inferInstance;(List.mem_append.1 ht).elim (h t) (hl t)
def gl (l:List Sh.Spec):Sh.Sem:=cT vW (QI W7 l)
theorem rN {xs:List Int}(hx:xs.length<=35184372088832){g:m8}{l:List Sh.Spec}(h:iB (aD xs g) l):ee (aD xs g) A (gl l):=jQ (ym xs hx g) (QJ aT h)
theorem aY {xs:List Int}(hx:xs.length<=35184372088832){g:m8}{l:List Sh.Spec}(h:iB (aD xs g) l){kp js:List Nat}{af:p7}{s:Sh.Spec}(hp:A.gS s.f=none)(ha:A.fn s.f=some af)(hc:gU A (gl l) bE W7 kp js 40 af s=true):s.ok (aD xs g) A :=
 oq (rN hx h) aT qR hp ha hc
def l0:G9:=⟨0,0,0,0⟩
def l1:G9:=⟨0,0,1,1⟩
def iR (a b:Int):SD:= .int .i64 a b .no
def ZC:Sh.Spec:=⟨35,[.d (.str 1),.d (iR 0 1000000)],[],l0,[(.d (.str 2),[])]⟩
def vV:SV:= .agg none [.d (iR 0 2),.d sI,.d (.str 100)]
def ap4:Sh.Spec:=⟨187,[vV],[],l0,[(.d (.bool .qo),[])]⟩
def YG:Sh.Spec:=⟨186,[vV],[],l0,[(vV,[])]⟩
def ap2:Sh.Spec:=⟨176,[.d sI],[],l0,[(vV,[])]⟩
def ap3:Sh.Spec:=⟨177,[.d (.str 100)],[],l0,[(vV,[])]⟩
def Np:Sh.Spec:=⟨159,[.ptr 0 0],[.pr 0],l1,[(vV,[.pr 0])]⟩
def Nq:Sh.Spec:=⟨160,[.ptr 0 0],[.pr 0],l1,[(vV,[.pr 0])]⟩
def Ub:Sh.Spec:=⟨141,[.d (iR 3 18)],[],l0,[(.d (iR 1 3),[])]⟩
def Qt:List SD:=[iR 0 18,iR 0 2,sI,.str 100,iR 0 100]
def tyS:SV:= .d (.slice none 1 24 [iR 1 2])
def No (d:Nat)(hi:Nat):Sh.Spec:=⟨124,[.ptr 0 0,.d (iR 1 d),tyS,.d (iR 1 2)],[.pr 0],l1,[(.own 5 (.slice none 1 hi Qt),[.pr 0]),(.d (.slice none 1 hi Qt),[.pr 0])]⟩
def rC4:List SD:=[.str 2,iR 1 2,.str 6,.str 2,.slice none 0 12 [iR 0 3],iR 0 1,iR 0 20]
def SC:List SD:=[.str 2,.slice none 2 4 rC4,iR 0 1,iR 0 40]
def aP8:Sh.Spec:=⟨125,[.ptr 0 0,tyS,.d (iR 1 3),.d (iR 0 3)],[.pr 0],l1,[(.d (.slice none 1 3 [.str 2,.slice none 1 4 Qt]),[.pr 0])]⟩
def Ua (n:Nat):Sh.Spec:=⟨127,[.d (.slice none 0 n [iR 0 3]),.d (iR 0 3)],[],l0,[(.d (.slice none 0 (n+1) [iR 0 3]),[]),(.own 1 (.slice none 0 (n+1) [iR 0 3]),[])]⟩
def e0 (n:Nat):SV:= .d (.slice none 0 0 (c9 n .top))
def Wz:SV:= .agg none [.d (.slice none 0 3 SC),e0 9,e0 3,e0 6,e0 4,e0 3,e0 2,e0 3]
def lC (n:Nat):G9:=⟨1,n,n,1⟩
def rCn:List SD:=[.str 2,iR 1 2,.str 6,.str 2,.slice none 0 0 [iR 0 3],.lit (.int .i64 0),.lit (.int .i64 0)]
def ad5:SV:= .agg none (rCn.map .d)
def aQ6:SV:= .agg none [.d (.str 2),.d (.slice none 0 0 (c9 7 .top)),.d (iR 0 1),.d (iR 0 40)]
def AV (n:Nat):SV:= .own n (.lit (.slice 0 []))
def zC:SO:= .cells none [AV 4,AV 9,AV 3,AV 6,AV 4,AV 3,AV 2,AV 3]
def vC (m:Nat):SO:= .cells (some 0) [.d (.slice none 1 m SC),e0 9,e0 3,e0 6,e0 4,e0 3,e0 2,e0 3]
def Uv (n:Nat):SV:= .agg none [.d (.str 2),.D4 4 7 0 n,.d (iR 0 1),.d (iR 0 40)]
def tBo (n:Nat):SO:= .cells none [.d (.str 2),.D4 4 7 0 n,.d (iR 0 1),.d (iR 0 40)]
def Ot (n:Nat):List SV:=(c9 n (rCn.map .d)).flatten
def aE3 (n:Nat):List SV:=(c9 n (rC4.map fun x=>match x with| .slice v lo hi r=>SV.q (.slice v lo hi r)|x=>SV.d x)).flatten
def hN (c:SO)(n:Nat)(m7:List SV):List SO:=[.pr 0,zC,c,tBo n,.cells none m7]
def ap5:Sh.Spec:=⟨77,[.ptr 0 0,Wz,aQ6,.d (iR 0 3)],[.pr 0],lC 1,[(ad5,[.pr 0])]⟩
def Uc (c:SO)(n:Nat):Sh.Spec:=⟨77,[.ptr 0 0,Wz,Uv n,.d (iR 0 3)],hN c n (Ot n),lC 5,[(ad5,hN c n (Ot n))]⟩
def ap0 (c:SO)(n:Nat):Sh.Spec:=⟨126,[Uv n],hN c n (Ot n),⟨0,5,5,1⟩,[(.d (.slice none 0 n [iR 0 3]),hN c n (Ot n))]⟩
def s78 (c:SO)(n:Nat):Sh.Spec:=⟨78,[.ptr 0 0,Wz,Uv n],hN c n (Ot n),⟨0,0,5,1⟩,[(Uv n,hN c n (aE3 n))]⟩
def Oj:SV:= .agg (some 0) [.d (.slice none 1 3 SC),e0 9,e0 3,e0 6,e0 4,e0 3,e0 2,e0 3]
def s33 (n:Nat):Sh.Spec:=⟨33,[.ptr 0 0,.d (.lit (.int .i64 n))],[.pr 0],l1,[(Oj,[.pr 0])]⟩
def gh:m8:=⟨[⟨[116,48],[⟨[99,48],1,[112,101,114,115,111,110],[],[],0,0⟩,⟨[99,49],2,[],[],[0],0,0⟩],0,0⟩],[],[],[],[],[],[],[]⟩
theorem XA:J3 gh=true:=have _:Inhabited NM:=inferInstance;by kernel_rfl
theorem Xz:B6 gh:=by
 have _:Inhabited NM:=inferInstance
 refine ⟨⟨by simp [m8.fI,gh],?_,?_⟩,?_,?_,?_,?_,?_,?_,?_⟩
 ·intro n hn
  have:n=0:=by simp [gh] at hn;omega
  subst this;simp [gh,nth]
 ·intro n i hn hi
  have:n=0:=by simp [gh] at hn;omega
  subst this;have hi:i<2:=by simpa [gh,nth] using hi
  match i,hi with
  |0,_=>simp [gh,nth]
  |1,_=>simp [gh,nth]
 ·intro k hk;simp [gh] at hk
 ·intro k hk;simp [gh] at hk
 ·intro k hk;simp [gh] at hk
 ·intro k hk;simp [gh] at hk
 ·intro k i hk;simp [gh] at hk
 ·intro k i hk;simp [gh] at hk
 ·intro k hk;simp [gh] at hk
def US:Fact:=fun k ds=>r9 k 0&&Sh.MH ds gh.enc
theorem OC (xs:List Int)(g:m8):wv (aD xs g) US:=fun k ds h=>by
 simp only [US,b5] at h;have h1:=b9 h.1;have h2:=Sh.CA _ _ h.2;subst h1 h2;exact ⟨gh,rfl,XA,Xz⟩
section
variable {xs:List Int} (hx:xs.length<=35184372088832) (g:m8)
include hx
theorem XJ:ZC.ok (aD xs g) A:=aY hx (l:=[]) (kp:=[]) (js:=[]) .nil rfl rfl (by kernel_rfl)
theorem aM4:ap4.ok (aD xs g) A:=aY hx (l:=[]) (kp:=[]) (js:=[]) .nil rfl rfl (by kernel_rfl)
theorem aj0:YG.ok (aD xs g) A:=aY hx (l:=[ap4]) (kp:=[]) (js:=[]) (.cons (aM4 hx g) .nil) rfl rfl (by kernel_rfl)
theorem aM2:ap2.ok (aD xs g) A:=aY hx (l:=[YG]) (kp:=[]) (js:=[]) (.cons (aj0 hx g) .nil) rfl rfl (by kernel_rfl)
theorem aM3:ap3.ok (aD xs g) A:=aY hx (l:=[YG]) (kp:=[]) (js:=[]) (.cons (aj0 hx g) .nil) rfl rfl (by kernel_rfl)
theorem PG:Np.ok (aD xs g) A:=aY hx (l:=[ap2]) (kp:=[]) (js:=[]) (.cons (aM2 hx g) .nil) rfl rfl (by kernel_rfl)
theorem PI:Nq.ok (aD xs g) A:=aY hx (l:=[ap3]) (kp:=[]) (js:=[]) (.cons (aM3 hx g) .nil) rfl rfl (by kernel_rfl)
theorem XI:Ub.ok (aD xs g) A:=aY hx (l:=[]) (kp:=[]) (js:=[]) .nil rfl rfl (by kernel_rfl)
theorem ai6:(No 1 1).ok (aD xs g) A:=aY hx (l:=[Np,Nq]) (kp:=[]) (js:=[]) (.cons (PG hx g) (.cons (PI hx g) .nil)) rfl rfl (by kernel_rfl)
theorem PF:(No 2 4).ok (aD xs g) A:=aY hx (l:=[Np,Nq,Ub,No 1 1]) (kp:=[]) (js:=[1]) (.cons (PG hx g) (.cons (PI hx g) (.cons (XI hx g) (.cons (ai6 hx g) .nil)))) rfl rfl (by kernel_rfl)
theorem ai7:(No 3 13).ok (aD xs g) A:=aY hx (l:=[Np,Nq,Ub,No 2 4]) (kp:=[]) (js:=[1]) (.cons (PG hx g) (.cons (PI hx g) (.cons (XI hx g) (.cons (PF hx g) .nil)))) rfl rfl (by kernel_rfl)
theorem aM0:aP8.ok (aD xs g) A:=aY hx (l:=[ZC,No 2 4]) (kp:=[]) (js:=[]) (.cons (XJ hx g) (.cons (PF hx g) .nil)) rfl rfl (by kernel_rfl)
theorem XH (n:Nat)(h:n=2\/n=3\/n=4):(Ua n).ok (aD xs g) A:=by
 rcases h with rfl|rfl|rfl<;>exact aY hx (l:=[]) (kp:=[3]) (js:=[]) .nil rfl rfl (by kernel_rfl)
theorem aM5:ap5.ok (aD xs g) A:=aY hx (l:=[ZC]) (kp:=[]) (js:=[]) (.cons (XJ hx g) .nil) rfl rfl (by kernel_rfl)
theorem XK (c:SO)(n:Nat)(h:n=1\/n=2\/n=3)(hc:c=zC\/c=vC 1\/c=vC 2):(Uc c n).ok (aD xs g) A:=by
 rcases h with rfl|rfl|rfl<;>rcases hc with rfl|rfl|rfl<;>exact aY hx (l:=[ZC]) (kp:=[]) (js:=[]) (.cons (XJ hx g) .nil) rfl rfl (by kernel_rfl)
theorem aM1 (c:SO)(n:Nat)(h:n=2\/n=3\/n=4)(hc:c=zC\/c=vC 1\/c=vC 2):(ap0 c n).ok (aD xs g) A:=by
 rcases h with rfl|rfl|rfl<;>rcases hc with rfl|rfl|rfl<;>exact aY hx (l:=[]) (kp:=[]) (js:=[]) .nil rfl rfl (by kernel_rfl)
theorem o78 (c:SO)(n:Nat)(h:n=2\/n=3\/n=4)(hc:c=zC\/c=vC 1\/c=vC 2):(s78 c n).ok (aD xs g) A:=by
 have hl:iB (aD xs g) [ap0 c n,Ua 2,Ua 3,Ua 4]:= .cons (aM1 hx g c n h hc) (.cons (XH hx g 2 (by simp)) (.cons (XH hx g 3 (by simp)) (.cons (XH hx g 4 (by simp)) .nil)))
 rcases h with rfl|rfl|rfl<;>rcases hc with rfl|rfl|rfl<;>exact aY hx (kp:=[]) (js:=[]) hl rfl rfl (by kernel_rfl)
def YS:List Sh.Spec:=[ZC,ap5]++[zC,vC 1,vC 2].flatMap fun c=>[Uc c 1,Uc c 2,Uc c 3,s78 c 2,s78 c 3,s78 c 4]
theorem Nz:iB (aD xs g) YS:=by
 refine .cons (XJ hx g) (.cons (aM5 hx g) ?_);intro s hs;obtain ⟨c,hc,h⟩:=List.mem_flatMap.1 hs;have hc:c=zC\/c=vC 1\/c=vC 2:=by simpa using hc
 simp only [C6,List.not_mem_nil,or_false] at h
 rcases h with rfl|rfl|rfl|rfl|rfl|rfl
 ·exact XK hx g c 1 (by simp) hc
 ·exact XK hx g c 2 (by simp) hc
 ·exact XK hx g c 3 (by simp) hc
 ·exact o78 hx g c 2 (by simp) hc
 ·exact o78 hx g c 3 (by simp) hc
 ·exact o78 hx g c 4 (by simp) hc
theorem o33:(s33 3).ok (aD xs g) A:=oq (kp:=[]) (js:=[]) (fuel:=40) (rN hx (Nz hx g)) (OC xs g) (xx xs g _ _) rfl rfl (by kernel_rfl)
end
end Go.Proofs.YtkmclibmmlgogaaGreat

