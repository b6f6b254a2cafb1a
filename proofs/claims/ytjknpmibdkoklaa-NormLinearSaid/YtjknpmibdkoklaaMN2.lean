/- Functions of the given program as Lean functions, each with its contract, and what they answer; words for it. No condition but those of each. -/
import Derived.Test.YtjknpmibdkoklaaMNS
import Derived.Shelf.Small.Bits
import Derived.Shelf.Strconv.Itoa0
import Derived.Shelf.Sort.Plain
import Derived.Shelf.Slices.Turned
import Derived.Ground.Names2Prog
import Derived.Shelf.Slices.Clone
import Derived.Shelf.Slices.CompactS
import Derived.Shelf.Slices.Cells
import Derived.Shelf.Slices.In.SortNone
import Derived.Ground.SlgnProg
import Derived.Shelf.SlicesE.Compact
import Derived.Ground.SlgfProg
import Derived.Shelf.SlicesE.IndexFunc
import Derived.Shelf.SlicesE.DeleteFunc
import Derived.Test.YtjknpmibdkoklaaProg
import Derived.Test.YtjknpmibdkoklaaMN1
import Derived.Sort.OwnSorted
import Derived.Lib.RowBridge
import Derived.SliceStrings
import Derived.SizedLaws
import Derived.ChangeSlices
set_option linter.unusedVariables false
set_option linter.unusedSimpArgs false
namespace Go.Proofs
open Go.Shelf
def Try.lays190_ren:Go.Shelf.Ren:=⟨fun|190=>63|125=>104|258=>103|128=>156|129=>157|302=>147|303=>148|304=>149|305=>150|306=>151|307=>152|308=>153|309=>154|310=>155|333=>181|329=>182|330=>183|334=>184|335=>185|336=>186|344=>196|n=>n,fun|31=>22|9=>9|3=>3|46=>46|0=>0|51=>185|53=>187|4=>4|183=>177|182=>176|131=>182|5=>5|218=>207|222=>211|228=>220|229=>221|n=>n,fun|n=>n⟩
theorem Try.lays190:Go.Proofs.Lays.n190 Try.prog Try.lays190_ren:={
 mixed:=by kernel_rfl
 f125:=Try.func104.trans (congrArg some kq0)
 f128:=Try.func156.trans (congrArg some kq0)
 f129:=Try.func157.trans (congrArg some kq0)
 f190:=Try.func63.trans (congrArg some kq0)
 f258:=Try.func103.trans (congrArg some kq0)
 f302:=Try.func147.trans (congrArg some kq0)
 f303:=Try.func148.trans (congrArg some kq0)
 f304:=Try.func149.trans (congrArg some kq0)
 f305:=Try.func150.trans (congrArg some kq0)
 f306:=Try.func151.trans (congrArg some kq0)
 f307:=Try.func152.trans (congrArg some kq0)
 f308:=Try.func153.trans (congrArg some kq0)
 f309:=Try.func154.trans (congrArg some kq0)
 f310:=Try.func155.trans (congrArg some kq0)
 f329:=Try.func182.trans (congrArg some kq0)
 f330:=Try.func183.trans (congrArg some kq0)
 f333:=Try.func181.trans (congrArg some kq0)
 f334:=Try.func184.trans (congrArg some kq0)
 f335:=Try.func185.trans (congrArg some kq0)
 f336:=Try.func186.trans (congrArg some kq0)
 f344:=Try.func196.trans (congrArg some kq0)
 t0:=Try.underlying0
 a0:=Try.isAgg0
 z0:=Try.sizeOf0
 v0:=Try.zeroValue0
 t3:=Try.underlying3
 a3:=Try.isAgg3
 z3:=Try.sizeOf3
 v3:=Try.zeroValue3
 t4:=Try.underlying4
 a4:=Try.isAgg4
 z4:=Try.sizeOf4
 v4:=Try.zeroValue4
 t5:=Try.underlying5
 a5:=Try.isAgg5
 z5:=Try.sizeOf5
 v5:=Try.zeroValue5
 t9:=Try.underlying9
 a9:=Try.isAgg9
 z9:=Try.sizeOf9
 v9:=Try.zeroValue9
 t31:=Try.underlying22
 a31:=Try.isAgg22
 z31:=Try.sizeOf22
 v31:=Try.zeroValue22
 t46:=Try.underlying46
 a46:=Try.isAgg46
 z46:=Try.sizeOf46
 v46:=Try.zeroValue46
 t51:=Try.underlying185
 a51:=Try.isAgg185
 z51:=Try.sizeOf185
 v51:=Try.zeroValue185
 t53:=Try.underlying187
 a53:=Try.isAgg187
 z53:=Try.sizeOf187
 v53:=Try.zeroValue187
 t131:=Try.underlying182
 a131:=Try.isAgg182
 z131:=Try.sizeOf182
 v131:=Try.zeroValue182
 t182:=Try.underlying176
 a182:=Try.isAgg176
 z182:=Try.sizeOf176
 v182:=Try.zeroValue176
 t183:=Try.underlying177
 a183:=Try.isAgg177
 z183:=Try.sizeOf177
 v183:=Try.zeroValue177
 t218:=Try.underlying207
 a218:=Try.isAgg207
 z218:=Try.sizeOf207
 v218:=Try.zeroValue207
 t222:=Try.underlying211
 a222:=Try.isAgg211
 z222:=Try.sizeOf211
 v222:=Try.zeroValue211
 t228:=Try.underlying220
 a228:=Try.isAgg220
 z228:=Try.sizeOf220
 v228:=Try.zeroValue220
 t229:=Try.underlying221
 a229:=Try.isAgg221
 z229:=Try.sizeOf221
 v229:=Try.zeroValue221}
open Go.Sort Go.RowKit in
theorem Try.slices_Sort_string (blk off cap:Nat) (ss:List (List UInt8)) (w:World) (hH:Holds encStr w blk off ss.toArray) (hblk:blk<w.heap.size) (hsz:ss.length<4611686018427387904) :
 Calls Try.prog 63 #[.slice (some ⟨blk,off,none⟩) ss.length cap] w fun e w'=>
  e= .returned (.tuple #[])∧∃n os,w'=grow (putRow encStr (Sort.ahead w n) blk off (ss.mergeSort fun x y=>decide (x≤y)).toArray) os:=Any.slices_Sort_string Try.lays190 blk off cap ss w hH hblk hsz
def Try.laysNm216_ren:Go.Shelf.Ren:=⟨fun|16=>62|n=>n,fun|24=>22|9=>9|4=>4|n=>n,fun|n=>n⟩
theorem Try.laysNm216:Go.Proofs.Lays2.n16 Try.prog Try.laysNm216_ren:={
 mixed:=by kernel_rfl
 f16:=Try.func62.trans (congrArg some kq0)
 t4:=Try.underlying4
 a4:=Try.isAgg4
 z4:=Try.sizeOf4
 v4:=Try.zeroValue4
 t9:=Try.underlying9
 a9:=Try.isAgg9
 z9:=Try.sizeOf9
 v9:=Try.zeroValue9
 t24:=Try.underlying22
 a24:=Try.isAgg22
 z24:=Try.sizeOf22
 v24:=Try.zeroValue22
 i9:=by kernel_rfl}
open Go.RowKit Go.Lib in
theorem Try.slices_Clone_string (b off n c:Nat) (zs:List ByteArray) (w:World) (hz:n≤zs.length) (hbig:n*16≤140737488355328) (hc:∀j,j<zs.length→w.cell? ⟨b,off+j,none⟩=some (.string (zs.getD j ByteArray.empty))) :
 Calls Try.prog 62 #[.slice (some ⟨b,off,none⟩) n c] w fun e w'=>∃v',e= .returned v'∧w'.ownsRow w.heap.size 9 1 v' n ((zs.take n).map (Value.string))∧v'≠ .slice none 0 0∧Below w.heap.size w w':=Any.slices_Clone_string Try.laysNm216 b off n c zs w hz hbig hc
open Go.RowKit Go.Lib in
theorem Try.slices_Clone_string_nil (n c:Nat) (w:World) :
 Calls Try.prog 62 #[.slice none n c] w fun e w'=>e= .returned (.slice none 0 0)∧w'=w:=Any.slices_Clone_string_nil Try.laysNm216 n c w
open Go.RowKit Go.Lib in
theorem Try.slices_Clone_string_zero (a:Addr) (c:Nat) (w:World) :
 Calls Try.prog 62 #[.slice (some a) 0 c] w fun e w'=>∃v',e= .returned v'∧w'.ownsRow w.heap.size 9 1 v' 0 []∧v'≠ .slice none 0 0∧Below w.heap.size w w':=Any.slices_Clone_string_zero Try.laysNm216 a c w
def Try.lays194_ren:Go.Shelf.Ren:=⟨fun|194=>66|n=>n,fun|31=>22|9=>9|3=>3|4=>4|0=>0|n=>n,fun|n=>n⟩
theorem Try.lays194:Go.Proofs.Lays.n194 Try.prog Try.lays194_ren:={
 mixed:=by kernel_rfl
 f194:=Try.func66.trans (congrArg some kq0)
 t0:=Try.underlying0
 a0:=Try.isAgg0
 z0:=Try.sizeOf0
 v0:=Try.zeroValue0
 t3:=Try.underlying3
 a3:=Try.isAgg3
 z3:=Try.sizeOf3
 v3:=Try.zeroValue3
 t4:=Try.underlying4
 a4:=Try.isAgg4
 z4:=Try.sizeOf4
 v4:=Try.zeroValue4
 t9:=Try.underlying9
 a9:=Try.isAgg9
 z9:=Try.sizeOf9
 v9:=Try.zeroValue9
 t31:=Try.underlying22
 a31:=Try.isAgg22
 z31:=Try.sizeOf22
 v31:=Try.zeroValue22}
open Go.RowKit Go.Lib Go.Sort in
theorem Try.slices_Compact_string (blk off cap:Nat) (zs:List (List UInt8)) (w:World) (hH:Holds encStr w blk off zs.toArray) (hsz:zs.length≤9223372036854775807) (hcap:zs.length≤cap) :
 Calls Try.prog 66 #[.slice (some ⟨blk,off,none⟩) zs.length cap] w fun e w'=>e= .returned (.slice (some ⟨blk,off,none⟩) (Lib.compact zs).length cap)∧∃q,w'=putRow encStr (Sort.ahead w q) blk off (Lib.compact zs++List.replicate (zs.length-(Lib.compact zs).length) []).toArray:=Any.slices_Compact_string Try.lays194 blk off cap zs w hH hsz hcap
open Go.RowKit Go.Lib Go.Sort in
theorem Try.slices_Compact_string_empty (a:Option Addr) (cap:Nat) (w:World) :
 Calls Try.prog 66 #[.slice a 0 cap] w fun e w'=>e= .returned (.slice a 0 cap)∧w'=w:=Any.slices_Compact_string_empty Try.lays194 a cap w
open Go.RowKit Go.Sort in
theorem Try.slices_Sort_string_none (p:Option Addr) (cap:Nat) (w:World) :
 Calls Try.prog 63 #[.slice p 0 cap] w fun e w'=>e= .returned (.tuple #[])∧w'=w:=Any.slices_Sort_string_none Try.lays190 p cap w
end Go.Proofs
namespace Go.Proofs.Ytjknpmibdkoklaa.Q
open Go.RowKit Go.Sort Go.Proofs.YtjknpmibdkoklaaW.PrintWords Go.Proofs.YtjknpmibdkoklaaW.PrintLast Go.Proofs.YtjknpmibdkoklaaW.PrintMore
open Aside0 (mk)
theorem zg7 {w:World} {a:Addr} {v:Value} (h:w.cell? a=some v):a=⟨a.block,a.off,none⟩:=by
 obtain⟨b,o,t⟩:=a
 cases t with
 |none=>rfl
 |some x=>
  simp only[World.cell?]at h
  split at h<;>(try cases h)<;>simp_all
theorem zgL {w:World} {base e:Nat} {ok:Nat→Prop} {v:Value} {xs:List ByteArray} (h:Kd.R Kd.string e w base ok v xs):w.ownsRow base e 1 v xs.length (xs.map Value.string):=by
 obtain⟨_,inner,ho,hl,hr⟩:=h
 have:inner=xs.map Value.string:=by
  apply List.ext_getElem?
  intro j
  by_cases hj:j<xs.length
  ·have h1:=hr j xs[j] (List.getElem?_eq_getElem hj)
   have h2:(inner.drop (j*1)).take 1=[Value.string xs[j]]:=h1
   have hi:j<inner.length:=by have:inner.length=xs.length*1:=hl;omega
   rw[Nat.mul_one,List.drop_eq_getElem_cons hi]at h2
   rw[List.take_succ_cons,List.take_zero]at h2
   rw[List.getElem?_eq_getElem hi,List.head_eq_of_cons_eq h2]
   simp [hj]
  ·have:inner.length=xs.length*1:=hl
   rw[List.getElem?_eq_none kq1,List.getElem?_eq_none (by simp;omega)]
 rw[this]at ho
 exact ho
theorem R_of_own {w:World} {base e:Nat} {ok:Nat→Prop} {v:Value} {xs:List ByteArray} (h0:∀k,v.ownBlock=some k→ok k) (ho:w.ownsRow base e 1 v xs.length (xs.map Value.string)):Kd.R Kd.string e w base ok v xs:=by
 refine⟨h0,xs.map Value.string,ho,by show _=xs.length*1;simp,fun j p hj=>?_⟩
 show((xs.map Value.string).drop (j*1)).take 1=[Value.string p]
 obtain⟨hl,hp⟩:=List.getElem?_eq_some_iff.1 hj
 rw[Nat.mul_one,List.drop_eq_getElem_cons (by simpa using hl)]
 simp [hp]
def bl (s:ByteArray):List UInt8:=s.data.toList
def lb (l:List UInt8):ByteArray:=⟨l.toArray⟩
theorem zgd (s:ByteArray):lb (bl s)=s:=by cases s;simp [lb,bl]
theorem zhO (xs:List ByteArray):(xs.map bl).map lb=xs:=by
 rw[List.map_map]
 refine Eq.trans ?_ (List.map_id xs)
 refine congrArg (fun q=>List.map q xs) (funext fun s=>zgd s)
theorem zge (ts:List (List UInt8)):ts.map encStr=(ts.map lb).map Value.string:=by
 rw[List.map_map]
 exact congrArg (fun q=>List.map q ts) (funext fun s=>rfl)
theorem zhP (xs:List ByteArray):xs.map Value.string=(xs.map bl).map encStr:=by
 rw[zge,zhO]
def zbg.f (l0:List ByteArray):Option (List ByteArray):=if l0.length*16≤140737488355328 then some l0 else none
theorem zbg.calls (L:Option Addr) (I:Nat) (D r:List ByteArray) (w:World) (M:Kd.C Kd.string w L D.length D) (hc0:D.length≤I) (h:zbg.f D=some r) :
 Calls Try.prog 62 #[.slice L D.length I] w fun e w'=>∃J:Value,e= .returned (J)∧Kd.R Kd.string 9 w' w.heap.size (fun _=>True) J r∧Below w.heap.size w w':=by
 unfold zbg.f at h
 by_cases hb:D.length*16≤140737488355328
 ·rw[if_pos hb]at h
  obtain rfl:=Option.some.inj h
  obtain⟨_,hm,hcell⟩:=M
  by_cases h0:D.length=0
  ·obtain rfl:D=[]:=List.eq_nil_of_length_eq_zero h0
   cases L with
   |none=>exact(Try.slices_Clone_string_nil 0 I w).mono fun e w' ⟨he,hw⟩=>⟨_,he,Kd.R_nil _ _ _ _ _,by rw[hw];exact Below.refl _ _⟩
   |some a=>exact(Try.slices_Clone_string_zero a I w).mono fun e w' ⟨v,he,ho,_,hB⟩=>⟨v,he,R_of_own (fun _ _=>trivial) ho,hB⟩
  ·obtain⟨ad,rfl,hc⟩:=hcell kq1
   have hc':∀j (hj:j<D.length),w.cell? (ad.add j)=some (.string D[j]):=by
    intro j hj
    obtain⟨c,hl,hK,hcc⟩:=hc j D[j] (List.getElem?_eq_getElem hj)
    have hK':c=[Value.string D[j]]:=hK
    have:=hcc 0 (.string D[j]) (by rw[hK'];rfl)
    have e:j*Kd.string.sz+0=j:=by show j*1+0=j;omega
    rw[e]at this
    exact this
   have hp:=zg7 (hc' 0 kq1)
   have hp2:ad=⟨ad.block,ad.off,none⟩:=by
    obtain⟨b,o,t⟩:=ad
    cases t with
    |none=>rfl
    |some x=>simp [Addr.add]at hp
   rw[hp2]
   refine(Try.slices_Clone_string ad.block ad.off D.length I D w (Nat.le_refl _) hb (fun j hj=>?_)).mono fun e w' ⟨v,he,ho,_,hB⟩=>⟨v,he,R_of_own (fun _ _=>trivial) (by rw[List.take_length]at ho;exact ho),hB⟩
   have h1:=hc' j hj
   rw[hp2]at h1
   rw[List.getD_eq_getElem?_getD,List.getElem?_eq_getElem hj]
   rcases Nat.eq_zero_or_pos j with G|G
   ·subst G;exact h1
   ·simpa [Addr.add,Nat.ne_of_gt G]using h1
 ·rw[if_neg hb]at h
  cases h
def zcR (l:List ByteArray):List ByteArray:=((l.map bl).mergeSort fun x y=>decide (x≤y)).map lb
theorem zgf:zcR []=[]:=by simp [zcR]
theorem zcS (l:List ByteArray):(zcR l).length=l.length:=by unfold zcR;simp
def zba.f (l0:List ByteArray):Option (List ByteArray):=if l0.length<4611686018427387904 then some (zcR l0)else none
theorem zba.calls (I:Nat→Prop) (D:Value) (G r:List ByteArray) (w0 w:World) (hB:Below w0.heap.size w0 w) (ho0:Kd.R Kd.string 9 w w0.heap.size I D G) (h:zba.f G=some r) :
 Calls Try.prog 63 #[D] w fun e w'=>e= .returned (.tuple #[])∧Kd.R Kd.string 9 w' w0.heap.size (fun k_=>(I k_∨w.heap.size≤k_)) D r∧Below w0.heap.size w0 w'∧Kept w w' (fun k_=>I k_):=by
 unfold zba.f at h
 by_cases hb:G.length<4611686018427387904
 ·rw[if_pos hb]at h
  obtain rfl:=Option.some.inj h
  have hrow:=zgL ho0
  have hok:=ho0.1
  obtain⟨_,hcase⟩:=hrow
  rcases hcase with⟨rfl,h0⟩|⟨g,cap,cur,rfl,hbase,hh,h1,h2,J,L⟩
  ·obtain rfl:G=[]:=List.eq_nil_of_length_eq_zero h0
   exact(Try.slices_Sort_string_none none 0 w).mono fun e w' ⟨he,hw⟩=>⟨he,by rw[hw,zgf];exact Kd.R_nil _ _ _ _ _,by rw[hw];exact hB,by rw[hw];exact Kept.refl _ _⟩
  ·have hl:((G.map bl)).length=G.length:=by simp
   have hH:Holds encStr w g 0 (G.map bl).toArray:=holds_of_block hh (by rw[hl,←zhP];simpa using L)
   have hg:g<w.heap.size:=(Array.getElem?_eq_some_iff.1 hh).1
   have hcall:=Try.slices_Sort_string g 0 cap (G.map bl) w hH hg (by rw[hl];exact hb)
   rw[hl]at hcall
   refine hcall.mono fun e w' ⟨he,n,os,hw⟩=>?_
   subst hw
   have hts:((G.map bl).mergeSort fun x y=>decide (x≤y)).length=(G.map bl).length:=by simp
   have hrow2:=ownsRow_sorted (n:=n) (os:=os) (e:=9) (base:=w0.heap.size) (ss:=G.map bl) (ts:=(G.map bl).mergeSort fun x y=>decide (x≤y)) hts hbase hh (by rw[hl];exact h1) h2 (by simpa using J)
   rw[hl,zge]at hrow2
   have hgr:=grownBy_sorted (w:=w) (g:=g) (n:=n) (os:=os) ((G.map bl).mergeSort fun x y=>decide (x≤y)).toArray
   refine⟨he,R_of_own (fun k hk=>.inl (hok k hk)) (by rw[zcS];exact hrow2),hB.grown hgr hB.size (fun k hk=>by cases hk;exact hbase),⟨hgr.size,fun i hi hn=>hgr.block i hi (fun e=>hn (hok i (by rw[e];rfl)))⟩⟩
 ·rw[if_neg hb]at h
  cases h
theorem zhQ (w:World):grow w #[]=w:=by cases w;simp [grow]
def zcp (l:List ByteArray):List ByteArray:=(Lib.compact (l.map bl)).map lb
theorem zfS:zcp []=[]:=rfl
theorem ze5 (zs:List (List UInt8)):(Lib.compact zs).length≤zs.length:=Lib.compact_length_le zs
def za4.f (l0:List ByteArray):Option (List ByteArray):=if l0.length≤9223372036854775807 then some (zcp l0)else none
theorem za4.calls (I:Nat→Prop) (G:Value) (D r:List ByteArray) (w0 w:World) (hB:Below w0.heap.size w0 w) (ho0:Kd.R Kd.string 9 w w0.heap.size I G D) (h:za4.f D=some r) :
 Calls Try.prog 66 #[G] w fun e w'=>∃J:Value,e= .returned (J)∧Kd.R Kd.string 9 w' w0.heap.size (fun k_=>(I k_∨w.heap.size≤k_)) J r∧Below w0.heap.size w0 w'∧Kept w w' (fun k_=>I k_):=by
 unfold za4.f at h
 by_cases hb:D.length≤9223372036854775807
 ·rw[if_pos hb]at h
  obtain rfl:=Option.some.inj h
  have hrow:=zgL ho0
  have hok:=ho0.1
  obtain⟨_,hcase⟩:=hrow
  rcases hcase with⟨rfl,h0⟩|⟨g,cap,cur,rfl,hbase,hh,h1,h2,M,U⟩
  ·obtain rfl:D=[]:=List.eq_nil_of_length_eq_zero h0
   exact(Try.slices_Compact_string_empty none 0 w).mono fun e w' ⟨he,hw⟩=>⟨_,he,by rw[hw,zfS];exact Kd.R_nil _ _ _ _ _,by rw[hw];exact hB,by rw[hw];exact Kept.refl _ _⟩
  ·have hl:((D.map bl)).length=D.length:=by simp
   have hH:Holds encStr w g 0 (D.map bl).toArray:=holds_of_block hh (by rw[hl,←zhP];simpa using U)
   have hcall:=Try.slices_Compact_string g 0 cap (D.map bl) w hH (by rw[hl];exact hb) (by rw[hl];exact h1)
   rw[hl]at hcall
   refine hcall.mono fun e w' ⟨he,n,hw⟩=>?_
   have hle:(Lib.compact (D.map bl)).length≤D.length:=by rw[←hl];exact ze5 _
   have hts:(Lib.compact (D.map bl)++List.replicate (D.length-(Lib.compact (D.map bl)).length) []).length=(D.map bl).length:=by rw[List.length_append,List.length_replicate,hl];omega
   have hrow2:=ownsRow_sorted (n:=n) (os:=#[]) (e:=9) (base:=w0.heap.size) (ss:=D.map bl) hts hbase hh (by rw[hl];exact h1) h2 (by simpa using M)
   have hg0:grow (putRow encStr (Sort.ahead w n) g 0 (Lib.compact (D.map bl)++List.replicate (D.length-(Lib.compact (D.map bl)).length) []).toArray) #[]=w':=by rw[hw];exact zhQ _
   rw[hl,zge]at hrow2
   have hgr:=grownBy_sorted (w:=w) (g:=g) (n:=n) (os:=#[]) (Lib.compact (D.map bl)++List.replicate (D.length-(Lib.compact (D.map bl)).length) []).toArray
   rw[hg0]at hrow2 hgr
   refine⟨_,he,R_of_own (fun k hk=>.inl (hok k hk)) ?_,hB.grown hgr hB.size (fun k hk=>by cases hk;exact hbase),⟨hgr.size,fun i hi hn=>hgr.block i hi (fun e=>hn (hok i (by rw[e];rfl)))⟩⟩
   obtain⟨_,hc2⟩:=hrow2
   rcases hc2 with⟨hx,_⟩|⟨g',cap',cur',hx,hbase',hh',h1',h2',h3',h4'⟩
   ·cases hx
   ·cases hx
    have hlc:(zcp D).length=(Lib.compact (D.map bl)).length:=by simp [zcp]
    refine⟨by simp,.inr ⟨g,cap,cur',by rw[hlc],hbase',hh',by rw[hlc];omega,h2',h3',?_⟩⟩
    rw[Nat.mul_one]at h4' ⊢
    have L:=congrArg (List.take (zcp D).length) h4'
    rw[List.take_take,Nat.min_eq_left (by rw[hlc];exact hle),List.map_append,List.map_append,List.take_append_of_le_length (by simp [zcp])]at L
    rw[L]
    show _=(zcp D).map Value.string
    rw[show zcp D=(Lib.compact (D.map bl)).map lb from rfl]
    exact List.take_of_length_le (by simp)
 ·rw[if_neg hb]at h
  cases h
end Go.Proofs.Ytjknpmibdkoklaa.Q
namespace Go.Proofs.Ytjknpmibdkoklaa.Open
open Go.ChangeShapes Go.WideShapes Go.Proofs.YtjknpmibdkoklaaW.PrintWords
section
variable {H : Type} {enc : TypeId × Value → H} {P : Program} {W : World} {base : Nat} {spare : Nat → Bool} {held : Bool}
theorem zdq {e:TypeId}:∀{l:List (DataW H)} {d:DataW H} {n:Nat},d ∈ l→n ∈ d.weights P e→n ∈ DataW.weightsAll P e l
 |x::l,d,n,hd,hn=>by
  simp only[DataW.weightsAll,List.mem_append]
  rcases List.mem_cons.1 hd with rfl|hd
  ·exact .inl hn
  ·exact .inr (zdq hd hn)
theorem mem_weights_slice {t e:TypeId} {l r:List (DataW H)} {d:DataW H} {n:Nat} (hu:P.underlying t=some (.slice e)) (hd:d ∈ l) (hn:n ∈ d.weights P e):n ∈ (DataW.slice l r).weights P t:=by
 simp only[DataW.weights,hu,List.mem_cons,List.mem_append]
 exact .inr (.inl (zdq hd hn))
theorem sized_at {ts:List TypeId} {ds:List (DataW H)} {j:Nat} {t:TypeId} {d:DataW H} (hsz:(DataW.weightsEach P ts ds).all (· ≤reachBytes)=true) (ht:ts[j]?=some t) (hd:ds[j]?=some d):∀n ∈ d.weights P t,n≤reachBytes:=fun n hn=>by
 simpa using List.all_eq_true.1 hsz _ (DataW.weights_mem_each ht hd n hn)
end
end Go.Proofs.Ytjknpmibdkoklaa.Open
