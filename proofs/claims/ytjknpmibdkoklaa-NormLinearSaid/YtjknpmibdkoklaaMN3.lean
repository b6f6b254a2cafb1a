/- Functions of the given program as Lean functions, each with its contract, and what they answer; words for it. No condition but those of each. -/
import Derived.Test.YtjknpmibdkoklaaMNS
import Derived.Test.YtjknpmibdkoklaaMN1
import Derived.Laws.Slices
import Derived.Test.YtjknpmibdkoklaaProg
import Derived.Below
import Derived.Deep.Draws
import Derived.Deep.AppendLies
import Derived.Maps.AppendAt
import Derived.OwnWalk
import Derived.Laws.BytesArg
import Derived.Laws.MakeOwn
import Derived.Laws.OwnMore
import Derived.Deep.OwnRows
import Derived.Tactics
import Derived.Lib.ConvBytes
import Derived.WalkKit
import Derived.KernelRfl
import Derived.RowKit3
import Derived.Deep.LoopGhost
import Derived.Deep.QuietTactic
import Derived.BigQuiet
import Derived.WideLaws
import Derived.Deep.DeepCutAuto
import Derived.Deep.CutBlock
import Derived.Deep.RegionHeld3
import Derived.Laws.Rows
import Derived.Lib.AppendStr
import Derived.ArgAppend
import Derived.Laws.IdiomCopy
import Derived.OrdersHeld
import Derived.Laws.BitsLemmas
import Derived.RowKit
import Derived.Test.YtjknpmibdkoklaaMN0
import Derived.Laws.StructEq
set_option linter.unusedVariables false
set_option linter.unusedSimpArgs false
namespace Go.Proofs.Ytjknpmibdkoklaa
open Go.RowKit
theorem zfr {P:Program} (t e:TypeId) (kh:IntKind) {i:TypeInfo} (ht:P.underlying t=some (.slice e)) (hi:P.info? e=some i) (A:Option Addr) (n c:Nat) (j:Int) (h0:0≤j) (hm:j≤n) (hc:n≤c) :
 ∀W:World,(Instr.slice t (.slice A n c) none (some (.int kh j)) (some (.int kh j))).run P W= .ok (.slice A j.toNat j.toNat) W:=by
 intro W
 have hel:P.elem t=e:=by simp [Program.elem,ht]
 have hu:P.underlying t=some (.slice (P.elem t)):=by rw[hel];exact ht
 have ha:(A.map fun x=>x.add 0)=A:=by cases A<;>simp [Addr.add]
 rw[run_slice_hm W t A n c hu kh kh j j h0 (Int.le_refl _) kq1,hel]
 simp [sizeOf,typeInfo,hi,sliced,Result.andThen,ha]
theorem zd8:∀a b:List UInt8,(Op.bytesLess a b||a==b)= !(Op.bytesLess b a)
 | [],[]=>rfl
 | [],_::_=>rfl
 |_::_,[]=>rfl
 |x::a,y::b=>by
  have ih:=zd8 a b
  have e:((x::a)==(y::b))=((x==y)&&(a==b)):=rfl
  rw[e]
  simp only[Op.bytesLess]
  have hx:∀p q:UInt8,(p==q)=decide (p.toNat=q.toNat):=fun p q=>by
   by_cases h:p=q
   ·subst h;simp
   ·rw[beq_eq_false_iff_ne.2 h,decide_eq_false (fun e=>h (UInt8.toNat_inj.1 e))]
  have hl:∀p q:UInt8,decide (p<q)=decide (p.toNat<q.toNat):=fun p q=>by simp [UInt8.lt_iff_toNat_lt]
  rw[hx x y,hx y x,hl x y,hl y x]
  rcases Nat.lt_trichotomy x.toNat y.toNat with h|h|h
  ·simp [h,Nat.lt_asymm h,Nat.ne_of_gt h,Nat.ne_of_lt h]
  ·simp [h]
   exact ih
  ·simp [h,Nat.lt_asymm h,Nat.ne_of_gt h,Nat.ne_of_lt h]
@[go_sem] theorem str_leq (t:TypeId) (a b:ByteArray):binOp .leq t (.string a) (.string b)=pure (.bool !(Op.bytesLess b.toList a.toList)):=by rw[←zd8];simp [binOp,Op.stringOp]
@[go_sem] theorem str_gtr (t:TypeId) (a b:ByteArray):binOp .gtr t (.string a) (.string b)=pure (.bool (Op.bytesLess b.toList a.toList)):=by
 rw[←Bool.not_not (Op.bytesLess b.toList a.toList),←zd8];simp [binOp,Op.stringOp]
@[go_sem] theorem str_geq (t:TypeId) (a b:ByteArray):binOp .geq t (.string a) (.string b)=pure (.bool !(Op.bytesLess a.toList b.toList)):=by simp [binOp,Op.stringOp]
end Go.Proofs.Ytjknpmibdkoklaa
namespace Go.Proofs.Ytjknpmibdkoklaa.Q
open Go.RowKit Go.Proofs.YtjknpmibdkoklaaW.PrintWords Go.Proofs.YtjknpmibdkoklaaW.PrintLast Go.Proofs.YtjknpmibdkoklaaW.PrintMore
open Aside0 (mk)
open List (setIfInBounds_toArray set_cons_zero set_cons_succ)
abbrev bA_:=@zaS
abbrev bN_:=@zbb
abbrev b1_:=@zaP
attribute [local go_sem] zbw zbz zbP zbQ zbm zbn zbA zbB
set_option linter.unusedVariables false
set_option linter.unusedSimpArgs false
def errW:Option Int→Value
 |none=>.nilIface
 |some c=>.iface 0 (.int .i64 c)
theorem zb8:errW none= .nilIface:=rfl
theorem zb9 (c:Int):errW (some c)= .iface 0 (.int .i64 c):=rfl
theorem zbS (x0 x1 x2:Value) (W:World):(Instr.field 99 (.agg #[x0,x1,x2]) 2).run Try.prog W= .ok x2 W:=by kernel_rfl
theorem zbD (x0 x1 x2:Value) (W:World):(Instr.field 103 (.agg #[x0,x1,x2]) 2).run Try.prog W= .ok x2 W:=by kernel_rfl
theorem zbE (x0 x1:Value) (W:World):(Instr.field 160 (.agg #[x0,x1]) 0).run Try.prog W= .ok x0 W:=by kernel_rfl
theorem zbF (x0 x1:Value) (W:World):(Instr.field 160 (.agg #[x0,x1]) 1).run Try.prog W= .ok x1 W:=by kernel_rfl
theorem zgq:(Try.prog.info? 2).map (fun i=>(i.zero,i.size,i.bytes))=some (some (.int .i64 0),1,8):=by kernel_rfl
theorem zcW:(Try.prog.info? 9).map (fun i=>(i.zero,i.size,i.bytes))=some (some (.string ⟨#[]⟩),1,16):=by kernel_rfl
theorem zjz:(Try.prog.info? 74).map (fun i=>(i.zero,i.size,i.bytes))=some (some (.agg #[(.slice none 0 0),(.slice none 0 0),(.int .i64 0),(.int .i64 0)]),4,64):=by kernel_rfl
theorem zdA:(Try.prog.info? 187).map (fun i=>(i.zero,i.size,i.bytes))=some (some (.int .u64 0),1,8):=by kernel_rfl
structure S66 where
 f0:Int
 f1:Int
 f2:ByteArray
 f3:(List S66)
def z66:S66:=⟨(0:Int),(0:Int),(⟨#[]⟩:ByteArray),([]:List S66)⟩
def F66 (d:Kd S66):Kd S66:=Kd.iso (Kd.pair (Kd.int .i64) (Kd.pair (Kd.int .i64) (Kd.pair Kd.string (Kd.slice 66 d)))) (fun x:S66=>(x.f0,x.f1,x.f2,x.f3))
theorem zgS:Kd.Mono F66:=Kd.mono_iso _ (Kd.mono_pair (Kd.mono_const _) (Kd.mono_pair (Kd.mono_const _) (Kd.mono_pair (Kd.mono_const _) (Kd.mono_slice 66 Kd.mono_id))))
theorem zjR:Kd.Sub F66 [66]:=Kd.sub_iso _ (Kd.sub_pair (Kd.sub_const _ kq2) (Kd.sub_pair (Kd.sub_const _ kq2) (Kd.sub_pair (Kd.sub_const _ kq2) (Kd.sub_slice 66 kq2 Kd.sub_id))))
theorem sz66:∀n,(Kd.upto F66 4 [66] n).sz=4:=Kd.upto_sz (fun _=>rfl)
def k66:Kd S66:=Kd.fix F66 4 [66] sz66 (Kd.upto_E zjR)
theorem zgT {w:World} {x:S66} {cs:List Value} (h:k66.K w x cs):∃f r,cs=[.int .i64 x.f0,.int .i64 x.f1,.string x.f2,.slice f x.f3.length r]∧x.f3.length≤r∧k66.C w f x.f3.length x.f3:=by
 obtain⟨n,h⟩:=h
 cases n with
 |zero=>exact h.elim
 |succ n=>
  obtain⟨_,_,rfl,rfl,⟨_,_,rfl,rfl,⟨_,_,rfl,rfl,⟨f,r,rfl,D,G⟩⟩⟩⟩:=h
  exact⟨f,r,rfl,D,Kd.fix_C G⟩
theorem zjA (w:World) (x:S66) {f:Option Addr} {r:Nat} (G:x.f3.length≤r) (I:k66.C w f x.f3.length x.f3):k66.K w x [.int .i64 x.f0,.int .i64 x.f1,.string x.f2,.slice f x.f3.length r]:=by
 obtain⟨D,J⟩:=Kd.fix_C_back zgS I
 have L:=Kd.upto_C_le zgS sz66 (show D≤D by omega) J
 exact⟨D+1,⟨[.int .i64 x.f0],[.int .i64 x.f1,.string x.f2,.slice f x.f3.length r],rfl,rfl,⟨[.int .i64 x.f1],[.string x.f2,.slice f x.f3.length r],rfl,rfl,⟨[.string x.f2],[.slice f x.f3.length r],rfl,rfl,⟨f,r,rfl,G,L⟩⟩⟩⟩⟩
theorem zh5 (w:World) (base:Nat) (ok:Nat→Prop) (x:S66) {v3:Value} (r:k66.R 66 w base ok v3 x.f3):k66.M w base ok x [.int .i64 x.f0,.int .i64 x.f1,.string x.f2,v3]:=by
 obtain⟨f,D⟩:=Kd.fix_R_back zgS r
 have G:=Kd.upto_R_le zgS sz66 (show f≤f by omega) D
 exact⟨f+1,⟨[.int .i64 x.f0],[.int .i64 x.f1,.string x.f2,v3],rfl,rfl,⟨[.int .i64 x.f1],[.string x.f2,v3],rfl,rfl,⟨[.string x.f2],[v3],rfl,rfl,⟨v3,rfl,G⟩⟩⟩⟩⟩
def zaN (xs:List S66) (i:Int):S66:=xs.getD i.toNat z66
theorem zdr {w:World} {A:Option Addr} {n:Nat} {xs:List S66} (h:Kd.C k66 w A n xs) (i:Int) (h0:0≤i) (h1:i<n):∃ad f r,A=some ad∧w.cell? (ad.add (i.toNat*4))=some (.int .i64 (zaN xs i).f0)∧w.cell? ⟨(ad.add (i.toNat*4)).block,(ad.add (i.toNat*4)).off+1,none⟩=some (.int .i64 (zaN xs i).f1)∧w.cell? ⟨(ad.add (i.toNat*4)).block,(ad.add (i.toNat*4)).off+2,none⟩=some (.string (zaN xs i).f2)∧w.cell? ⟨(ad.add (i.toNat*4)).block,(ad.add (i.toNat*4)).off+3,none⟩=some (.slice f (zaN xs i).f3.length r)∧(zaN xs i).f3.length≤r∧k66.C w f (zaN xs i).f3.length (zaN xs i).f3:=by
 obtain⟨ad,c,e,_,hK,hc0⟩:=Kd.C_get h z66 i h0 h1
 have hc:∀j u,c[j]?=some u→w.cell? (ad.add (i.toNat*4+j))=some u:=hc0
 obtain⟨f,r,rfl,D,G⟩:=zgT hK
 exact⟨ad,f,r,e,hc 0 _ rfl,by rw[←zbr _ _ 1 kq1];exact hc 1 _ rfl,by rw[←zbr _ _ 2 kq1];exact hc 2 _ rfl,by rw[←zbr _ _ 3 kq1];exact hc 3 _ rfl,D,G⟩
structure S39 where
 f0:Int
 f1:ByteArray
 f2:Int
 f3:(List S66)
 f4:(List S39)
def z39:S39:=⟨(0:Int),(⟨#[]⟩:ByteArray),(0:Int),([]:List S66),([]:List S39)⟩
def F39 (d:Kd S39):Kd S39:=Kd.iso (Kd.pair (Kd.int .i64) (Kd.pair Kd.string (Kd.pair (Kd.int .i64) (Kd.pair (Kd.slice 66 k66) (Kd.slice 39 d))))) (fun x:S39=>(x.f0,x.f1,x.f2,x.f3,x.f4))
theorem zjS:Kd.Sub F39 [39,66]:=Kd.sub_iso _ (Kd.sub_pair (Kd.sub_const _ kq2) (Kd.sub_pair (Kd.sub_const _ kq2) (Kd.sub_pair (Kd.sub_const _ kq2) (Kd.sub_pair (Kd.sub_const _ kq2) (Kd.sub_slice 39 kq2 Kd.sub_id)))))
theorem sz39:∀n,(Kd.upto F39 5 [39,66] n).sz=5:=Kd.upto_sz (fun _=>rfl)
def k39:Kd S39:=Kd.fix F39 5 [39,66] sz39 (Kd.upto_E zjS)
theorem ziz {w:World} {x:S39} {cs:List Value} (h:k39.K w x cs):∃f r D G,cs=[.int .i64 x.f0,.string x.f1,.int .i64 x.f2,.slice f x.f3.length r,.slice D x.f4.length G]∧x.f3.length≤r∧k66.C w f x.f3.length x.f3∧x.f4.length≤G∧k39.C w D x.f4.length x.f4:=by
 obtain⟨n,h⟩:=h
 cases n with
 |zero=>exact h.elim
 |succ n=>
  obtain⟨_,_,rfl,rfl,⟨_,_,rfl,rfl,⟨_,_,rfl,rfl,⟨_,_,rfl,⟨f,r,rfl,I,J⟩,⟨D,G,rfl,L,M⟩⟩⟩⟩⟩:=h
  exact⟨f,r,D,G,rfl,I,J,L,Kd.fix_C M⟩
def zcX (xs:List S39) (i:Int):S39:=xs.getD i.toNat z39
theorem zjB {w:World} {A:Option Addr} {n:Nat} {xs:List S39} (h:Kd.C k39 w A n xs) (i:Int) (h0:0≤i) (h1:i<n):∃ad f r D G,A=some ad∧w.cell? (ad.add (i.toNat*5))=some (.int .i64 (zcX xs i).f0)∧w.cell? ⟨(ad.add (i.toNat*5)).block,(ad.add (i.toNat*5)).off+1,none⟩=some (.string (zcX xs i).f1)∧w.cell? ⟨(ad.add (i.toNat*5)).block,(ad.add (i.toNat*5)).off+2,none⟩=some (.int .i64 (zcX xs i).f2)∧w.cell? ⟨(ad.add (i.toNat*5)).block,(ad.add (i.toNat*5)).off+3,none⟩=some (.slice f (zcX xs i).f3.length r)∧w.cell? ⟨(ad.add (i.toNat*5)).block,(ad.add (i.toNat*5)).off+4,none⟩=some (.slice D (zcX xs i).f4.length G)∧(zcX xs i).f3.length≤r∧k66.C w f (zcX xs i).f3.length (zcX xs i).f3∧(zcX xs i).f4.length≤G∧k39.C w D (zcX xs i).f4.length (zcX xs i).f4:=by
 obtain⟨ad,c,e,_,hK,hc0⟩:=Kd.C_get h z39 i h0 h1
 have hc:∀j u,c[j]?=some u→w.cell? (ad.add (i.toNat*5+j))=some u:=hc0
 obtain⟨f,r,D,G,rfl,I,J,L,M⟩:=ziz hK
 exact⟨ad,f,r,D,G,e,hc 0 _ rfl,by rw[←zbr _ _ 1 kq1];exact hc 1 _ rfl,by rw[←zbr _ _ 2 kq1];exact hc 2 _ rfl,by rw[←zbr _ _ 3 kq1];exact hc 3 _ rfl,by rw[←zbr _ _ 4 kq1];exact hc 4 _ rfl,I,J,L,M⟩
structure S74 where
 f0:(List ByteArray)
 f1:(List Int)
 f2:Int
 f3:Int
def z74:S74:=⟨([]:List ByteArray),([]:List Int),(0:Int),(0:Int)⟩
def k74:Kd S74:=Kd.iso (Kd.pair (Kd.slice 9 Kd.string) (Kd.pair (Kd.slice 2 (Kd.int .i64)) (Kd.pair (Kd.int .i64) (Kd.int .i64)))) (fun x:S74=>(x.f0,x.f1,x.f2,x.f3))
theorem zes {w:World} {x:S74} {cs:List Value} (h:k74.K w x cs):∃f r D G,cs=[.slice f x.f0.length r,.slice D x.f1.length G,.int .i64 x.f2,.int .i64 x.f3]∧x.f0.length≤r∧Kd.string.C w f x.f0.length x.f0∧x.f1.length≤G∧(Kd.int .i64).C w D x.f1.length x.f1:=by
 obtain⟨_,_,rfl,⟨f,r,rfl,I,J⟩,⟨_,_,rfl,⟨D,G,rfl,L,M⟩,⟨_,_,rfl,rfl,rfl⟩⟩⟩:=h
 exact⟨f,r,D,G,rfl,I,J,L,M⟩
theorem zjC (w:World) (x:S74) {D:Option Addr} {G:Nat} (I:x.f0.length≤G) (J:Kd.string.C w D x.f0.length x.f0) {f:Option Addr} {r:Nat} (L:x.f1.length≤r) (M:(Kd.int .i64).C w f x.f1.length x.f1):k74.K w x [.slice D x.f0.length G,.slice f x.f1.length r,.int .i64 x.f2,.int .i64 x.f3]:=⟨[.slice D x.f0.length G],[.slice f x.f1.length r,.int .i64 x.f2,.int .i64 x.f3],rfl,⟨D,G,rfl,I,J⟩,⟨[.slice f x.f1.length r],[.int .i64 x.f2,.int .i64 x.f3],rfl,⟨f,r,rfl,L,M⟩,⟨[.int .i64 x.f2],[.int .i64 x.f3],rfl,rfl,rfl⟩⟩⟩
theorem zbY {W:World} {ok:Nat→Prop} {x:S74} {cs:List Value} (h:Kd.FK k74 W ok x cs):∃f r D G,cs=[.slice f x.f0.length r,.slice D x.f1.length G,.int .i64 x.f2,.int .i64 x.f3]∧x.f0.length≤r∧Kd.F Kd.string W ok f x.f0.length x.f0∧x.f1.length≤G∧Kd.F (Kd.int .i64) W ok D x.f1.length x.f1:=by
 obtain⟨f,r,D,G,rfl,l0,_,l1,_⟩:=zes (Kd.FK_now h)
 exact⟨f,r,D,G,rfl,l0,(fun W' hW=>by obtain⟨I,J,L,M,he,Y,U,Z,X⟩:=zes (h W' hW);injection (Option.some.inj (show some (Value.slice f x.f0.length r)=some (Value.slice I x.f0.length J)from congrArg (fun l=>l[0]?) he))with ha_ _ _;rw[ha_];exact U),l1,(fun W' hW=>by obtain⟨I,J,L,M,he,Y,U,Z,X⟩:=zes (h W' hW);injection (Option.some.inj (show some (Value.slice D x.f1.length G)=some (Value.slice L x.f1.length M)from congrArg (fun l=>l[1]?) he))with ha_ _ _;rw[ha_];exact X)⟩
theorem zjd (W:World) (ok:Nat→Prop) (x:S74) {f:Option Addr} {r:Nat} (I:x.f0.length≤r) (J:Kd.F Kd.string W ok f x.f0.length x.f0) {D:Option Addr} {G:Nat} (L:x.f1.length≤G) (M:Kd.F (Kd.int .i64) W ok D x.f1.length x.f1):Kd.FK k74 W ok x [.slice f x.f0.length r,.slice D x.f1.length G,.int .i64 x.f2,.int .i64 x.f3]:=fun W2 hW=>zjC W2 x I (J W2 hW) L (M W2 hW)
def zaK (xs:List S74) (i:Int):S74:=xs.getD i.toNat z74
theorem zcN {w:World} {A:Option Addr} {n:Nat} {xs:List S74} (h:Kd.C k74 w A n xs) (i:Int) (h0:0≤i) (h1:i<n):∃ad f r D G,A=some ad∧w.cell? (ad.add (i.toNat*4))=some (.slice f (zaK xs i).f0.length r)∧w.cell? ⟨(ad.add (i.toNat*4)).block,(ad.add (i.toNat*4)).off+1,none⟩=some (.slice D (zaK xs i).f1.length G)∧w.cell? ⟨(ad.add (i.toNat*4)).block,(ad.add (i.toNat*4)).off+2,none⟩=some (.int .i64 (zaK xs i).f2)∧w.cell? ⟨(ad.add (i.toNat*4)).block,(ad.add (i.toNat*4)).off+3,none⟩=some (.int .i64 (zaK xs i).f3)∧(zaK xs i).f0.length≤r∧Kd.string.C w f (zaK xs i).f0.length (zaK xs i).f0∧(zaK xs i).f1.length≤G∧(Kd.int .i64).C w D (zaK xs i).f1.length (zaK xs i).f1:=by
 obtain⟨ad,c,e,_,hK,hc0⟩:=Kd.C_get h z74 i h0 h1
 have hc:∀j u,c[j]?=some u→w.cell? (ad.add (i.toNat*4+j))=some u:=hc0
 obtain⟨f,r,D,G,rfl,I,J,L,M⟩:=zes hK
 exact⟨ad,f,r,D,G,e,hc 0 _ rfl,by rw[←zbr _ _ 1 kq1];exact hc 1 _ rfl,by rw[←zbr _ _ 2 kq1];exact hc 2 _ rfl,by rw[←zbr _ _ 3 kq1];exact hc 3 _ rfl,I,J,L,M⟩
end Go.Proofs.Ytjknpmibdkoklaa.Q
namespace Go.Proofs.Ytjknpmibdkoklaa.Q
open Go.RowKit Go.Proofs.YtjknpmibdkoklaaW.PrintWords Go.Proofs.YtjknpmibdkoklaaW.PrintLast Go.Proofs.YtjknpmibdkoklaaW.PrintMore
open Aside0 (mk)
open List (setIfInBounds_toArray set_cons_zero set_cons_succ)
attribute [local go_sem] zbw zbz zbP zbQ zbm zbn zbA zbB
set_option linter.unusedVariables false
set_option linter.unusedSimpArgs false
attribute [local go_sem] zbS zbD zbE zbF
mutual
def zaz.j0:Nat→Int→Bool→Option (Bool)
 |0,_,_=>none
 |k+1,x0,x3=>if x3=true then(zaz.j1 k x0 x3)else(if x0≥97 then(if x0≤122 then(zaz.j1 k x0 (decide (x0≤122)))else(zaz.j1 k x0 (x0==95)))else(zaz.j1 k x0 (x0==95)))
def zaz.j1:Nat→Int→Bool→Option (Bool)
 |0,_,_=>none
 |k+1,x0,x3=>if x3=true then(some true)else(if x0≥913 then(zaz.j2 k x0 (decide (x0≤929)))else(zaz.j2 k x0 false))
def zaz.j2:Nat→Int→Bool→Option (Bool)
 |0,_,_=>none
 |k+1,x0,x18=>if x18=true then(some true)else(if x0≥931 then(zaz.j3 k x0 (decide (x0≤937)))else(zaz.j3 k x0 false))
def zaz.j3:Nat→Int→Bool→Option (Bool)
 |0,_,_=>none
 |k+1,x0,x18=>if x18=true then(some true)else(if x0≥945 then(if x0≤969 then(some true)else(some false))else(some false))
end
def zaz.f (k:Nat) (a0:Int):Option (Bool):=if a0≥65 then(zaz.j0 k a0 (decide (a0≤90)))else(zaz.j0 k a0 false)
theorem zaz.mono_l:∀k,(∀f D,LeO (zaz.j0 k f D) (zaz.j0 (k+1) f D))∧(∀f D,LeO (zaz.j1 k f D) (zaz.j1 (k+1) f D))∧(∀f D,LeO (zaz.j2 k f D) (zaz.j2 (k+1) f D))∧(∀f D,LeO (zaz.j3 k f D) (zaz.j3 (k+1) f D))
 |0=>⟨fun _ _ r h=>by simp [zaz.j0]at h,fun _ _ r h=>by simp [zaz.j1]at h,fun _ _ r h=>by simp [zaz.j2]at h,fun _ _ r h=>by simp [zaz.j3]at h⟩
 |k+1=>by
  obtain⟨ih0,ih1,ih2,ih3⟩:=zaz.mono_l k
  refine⟨?_,?_,?_,?_⟩<;>intros<;>(first|unfold zaz.j0|unfold zaz.j1|unfold zaz.j2|unfold zaz.j3)<;>repeat' first|(with_reducible first|exact ih0 _ _|exact ih1 _ _|exact ih2 _ _|exact ih3 _ _|exact LeO.refl _|exact LeO.none _|refine LeO.ite ?_ ?_|refine LeO.bind ?_ (fun _=>?_))|exact ih0 _ _|exact ih1 _ _|exact ih2 _ _|exact ih3 _ _|exact LeO.none _|refine LeO.ite ?_ ?_|refine LeO.bind ?_ (fun _=>?_)
theorem zaz.mono:∀a0 k,LeO (zaz.f k a0) (zaz.f (k+1) a0):=by
 intro a0 k
 obtain⟨ih0,ih1,ih2,ih3⟩:=zaz.mono_l k
 unfold zaz.f
 repeat' first
  |(with_reducible exact ih0 _ _)
  |(with_reducible exact ih1 _ _)
  |(with_reducible exact ih2 _ _)
  |(with_reducible exact ih3 _ _)
  |(with_reducible exact LeO.refl _)
  |(with_reducible exact LeO.none _)
  |(with_reducible refine LeO.ite ?_ ?_)
  |(with_reducible refine LeO.bind ?_ (fun _=>?_))
  |exact ih0 _ _
  |exact ih1 _ _
  |exact ih2 _ _
  |exact ih3 _ _
  |exact LeO.none _
  |refine LeO.ite ?_ ?_
  |refine LeO.bind ?_ (fun _=>?_)
set_option maxHeartbeats 8000000 in
set_option maxRecDepth 100000 in
theorem zaz.calls (k:Nat) (a0:Int) (r:Bool) (w:World) (h:zaz.f k a0=some r) :
 Calls Try.prog 77 #[.int .i32 a0] w fun e w'=>e= .returned (.bool r)∧Drawn0 w w':=by
 have H:(if a0≥65 then(zaz.j0 k a0 (decide (a0≤90)))else(zaz.j0 k a0 false))=some r:=h
 clear h
 have aj:=mk H
 clear H
 go_enter Try.func77,Try.ntmps77
 go_upto_region 1 with(fail)
 go_cut [3] (fun v3 wc=>∃(kq:Nat) (X:Bool),v3= .bool X∧Aside0 (zaz.j0 kq a0 X=some r)∧Aside0 (kq≤k)∧Drawn0 w wc)
 case first=>
  have H:=aj.out
  clear aj
  replace H:=ic_ H;obtain⟨c3,H⟩|⟨c3,H⟩:=H
  ·have M:decide (65≤a0)=true:=decide_eq_true c3;clear c3;((first|rw[M]|(simp only[zbi,zbq];rw[M])|skip));have H':=mk H;clear H;go_wp2;(go_meet)
   case rel=>exact⟨_,(decide (a0≤90)),kq3,H',⟨kq4⟩,kq5⟩
  ·have M:decide (65≤a0)=false:=decide_eq_false c3;clear c3;((first|rw[M]|(simp only[zbi,zbq];rw[M])|skip));have H':=mk H;clear H;go_wp2;(go_meet)
   case rel=>exact⟨_,(false),kq3,H',⟨kq4⟩,kq5⟩
 case rest=>
  clear aj
  obtain⟨kq,X,rfl,HA,HJ1,⟨mc1,rfl⟩⟩:=hcut
  cases kq with
  |zero=>exact absurd HA.out (by simp [zaz.j0])
  |succ Z=>
   have H:=HA.out;clear HA;simp only[zaz.j0]at H;have ak:=mk H;clear H;(go_upto_if 3 with(fail));(go_cut [3] (fun v3 wc=>∃(kq:Nat) (Y:Bool),v3= .bool Y∧Aside0 (zaz.j1 kq a0 Y=some r)∧Aside0 (kq≤Z)∧Drawn0 w wc))
   case first=>
    have H:=ak.out;clear ak;(by_cases c5:X=true)
    ·subst c5;(have G:(zaz.j1 Z a0 true)=some r:=by rw[if_pos rfl]at H;exact H);clear H;have H:=G;clear G;have H':=mk H;clear H;go_wp2;(go_meet)
     case rel=>exact⟨_,(true),kq3,H',⟨kq6⟩,kq5⟩
    ·replace c5:=Bool.eq_false_iff.mpr c5;subst c5;(have G:(if a0≥97 then(if a0≤122 then(zaz.j1 Z a0 (decide (a0≤122)))else(zaz.j1 Z a0 (a0==95)))else(zaz.j1 Z a0 (a0==95)))=some r:=by rw[if_neg (show ¬(false=true) by decide)]at H;exact H);clear H;have H:=G;clear G;replace H:=ic_ H;obtain⟨c6,H⟩|⟨c6,H⟩:=H
     ·have U:decide (97≤a0)=true:=decide_eq_true c6;clear c6;((first|rw[U]|(simp only[zbi,zbq];rw[U])|skip));replace H:=ic_ H;obtain⟨c7,H⟩|⟨c7,H⟩:=H
      ·have ar:=decide_eq_true c7;clear c7;have H':=mk H;clear H;go_wp2;(go_meet)
       case rel=>exact⟨_,(decide (a0≤122)),kq3,H',⟨kq6⟩,kq5⟩
      ·have ar:=decide_eq_false c7;clear c7;have H':=mk H;clear H;go_wp2;(go_meet)
       case rel=>exact⟨_,((a0==95)),kq3,H',⟨kq6⟩,kq5⟩
     ·have U:decide (97≤a0)=false:=decide_eq_false c6;clear c6;((first|rw[U]|(simp only[zbi,zbq];rw[U])|skip));have H':=mk H;clear H;go_wp2;(go_meet)
      case rel=>exact⟨_,((a0==95)),kq3,H',⟨kq6⟩,kq5⟩
   case rest=>
    clear ak;obtain⟨kq,Y,rfl,HA,ag,⟨mc3,rfl⟩⟩:=hcut
    cases kq with
    |zero=>exact absurd HA.out (by simp [zaz.j1])
    |succ al=>
     have H:=HA.out;clear HA;simp only[zaz.j1]at H;(by_cases c8:Y=true)
     ·subst c8;(have G:(some true)=some r:=by rw[if_pos rfl]at H;exact H);clear H;have H:=G;clear G;obtain rfl:=Option.some.inj H;go_wp2;go_ret;exact⟨kq3,kq5⟩
     ·replace c8:=Bool.eq_false_iff.mpr c8;subst c8;(have G:(if a0≥913 then(zaz.j2 al a0 (decide (a0≤929)))else(zaz.j2 al a0 false))=some r:=by rw[if_neg (show ¬(false=true) by decide)]at H;exact H);clear H;have H:=G;clear G;have am:=mk H;clear H;(go_upto_region 5 with(fail));(go_cut [18] (fun an wc=>∃(kq:Nat) (L:Bool),an= .bool L∧Aside0 (zaz.j2 kq a0 L=some r)∧Aside0 (kq≤al)∧Drawn0 w wc))
      case first=>
       have H:=am.out;clear am;replace H:=ic_ H;obtain⟨aa,H⟩|⟨aa,H⟩:=H
       ·have I:decide (913≤a0)=true:=decide_eq_true aa;clear aa;((first|rw[I]|(simp only[zbi,zbq];rw[I])|skip));have H':=mk H;clear H;go_wp2;(go_meet)
        case rel=>exact⟨_,(decide (a0≤929)),kq3,H',⟨by have:=HJ1.out;have:=ag.out;first|omega|exact Nat.le_refl _⟩,kq5⟩
       ·have I:decide (913≤a0)=false:=decide_eq_false aa;clear aa;((first|rw[I]|(simp only[zbi,zbq];rw[I])|skip));have H':=mk H;clear H;go_wp2;(go_meet)
        case rel=>exact⟨_,(false),kq3,H',⟨by have:=HJ1.out;have:=ag.out;first|omega|exact Nat.le_refl _⟩,kq5⟩
      case rest=>
       clear am;obtain⟨kq,L,rfl,HA,au,⟨mc8,rfl⟩⟩:=hcut
       cases kq with
       |zero=>exact absurd HA.out (by simp [zaz.j2])
       |succ ao=>
        have H:=HA.out;clear HA;simp only[zaz.j2]at H;(by_cases ah:L=true)
        ·subst ah;(have G:(some true)=some r:=by rw[if_pos rfl]at H;exact H);clear H;have H:=G;clear G;obtain rfl:=Option.some.inj H;go_wp2;go_ret;exact⟨kq3,kq5⟩
        ·replace ah:=Bool.eq_false_iff.mpr ah;subst ah;(have G:(if a0≥931 then(zaz.j3 ao a0 (decide (a0≤937)))else(zaz.j3 ao a0 false))=some r:=by rw[if_neg (show ¬(false=true) by decide)]at H;exact H);clear H;have H:=G;clear G;have ab:=mk H;clear H;(go_upto_region 6 with(fail));(go_cut [18] (fun an wc=>∃(kq:Nat) (D:Bool),an= .bool D∧Aside0 (zaz.j3 kq a0 D=some r)∧Aside0 (kq≤ao)∧Drawn0 w wc))
         case first=>
          have H:=ab.out;clear ab;replace H:=ic_ H;obtain⟨ac,H⟩|⟨ac,H⟩:=H
          ·have J:decide (931≤a0)=true:=decide_eq_true ac;clear ac;((first|rw[J]|(simp only[zbi,zbq];rw[J])|skip));have H':=mk H;clear H;go_wp2;(go_meet)
           case rel=>exact⟨_,(decide (a0≤937)),kq3,H',⟨by have:=HJ1.out;have:=ag.out;have:=au.out;first|omega|exact Nat.le_refl _⟩,kq5⟩
          ·have J:decide (931≤a0)=false:=decide_eq_false ac;clear ac;((first|rw[J]|(simp only[zbi,zbq];rw[J])|skip));have H':=mk H;clear H;go_wp2;(go_meet)
           case rel=>exact⟨_,(false),kq3,H',⟨by have:=HJ1.out;have:=ag.out;have:=au.out;first|omega|exact Nat.le_refl _⟩,kq5⟩
         case rest=>
          clear ab;obtain⟨kq,D,rfl,HA,av,⟨mc11,rfl⟩⟩:=hcut
          cases kq with
          |zero=>exact absurd HA.out (by simp [zaz.j3])
          |succ aw=>
           have H:=HA.out;clear HA;simp only[zaz.j3]at H;(by_cases ai:D=true)
           ·subst ai;(have G:(some true)=some r:=by rw[if_pos rfl]at H;exact H);clear H;have H:=G;clear G;obtain rfl:=Option.some.inj H;go_wp2;go_ret;exact⟨kq3,kq5⟩
           ·replace ai:=Bool.eq_false_iff.mpr ai;subst ai;(have G:(if a0≥945 then(if a0≤969 then(some true)else(some false))else(some false))=some r:=by rw[if_neg (show ¬(false=true) by decide)]at H;exact H);clear H;have H:=G;clear G;replace H:=ic_ H;obtain⟨ae,H⟩|⟨ae,H⟩:=H
            ·have ap:decide (945≤a0)=true:=decide_eq_true ae;clear ae;replace H:=ic_ H;obtain⟨af,H⟩|⟨af,H⟩:=H
             ·have aq:=decide_eq_true af;clear af;obtain rfl:=Option.some.inj H;go_wp2;go_ret;exact⟨kq3,kq5⟩
             ·have aq:=decide_eq_false af;clear af;obtain rfl:=Option.some.inj H;go_wp2;go_ret;exact⟨kq3,kq5⟩
            ·have ap:decide (945≤a0)=false:=decide_eq_false ae;clear ae;obtain rfl:=Option.some.inj H;go_wp2;go_ret;exact⟨kq3,kq5⟩
end Go.Proofs.Ytjknpmibdkoklaa.Q
