/- A part of this claim. -/
import Derived.Test.YtkmafndljelopaaDoorProg
import Derived.Below
import Derived.Deep.Draws
import Derived.Deep.AppendLies
import Derived.Maps.AppendAt
import Derived.OwnWalk
import Derived.Laws.BytesArg
import Derived.Laws.MakeOwn
import Derived.Laws.OwnMore
import Derived.Deep.OwnRows
import Derived.Tactics
import Derived.Lib.ConvBytes
import Derived.Laws.Slices
import Derived.WalkKit
import Derived.KernelRfl
import Derived.RowKit3
import Derived.Deep.LoopGhost
import Derived.Deep.QuietTactic
import Derived.BigQuiet
import Derived.WideLaws
import Derived.Deep.DeepCutAuto
import Derived.Deep.CutBlock
import Derived.Deep.RegionHeld3
import Derived.Laws.Rows
import Derived.Lib.AppendStr
import Derived.ArgAppend
import Derived.Laws.IdiomCopy
import Derived.OrdersHeld
import Derived.Laws.BitsLemmas
import Derived.RowKit
import Derived.Test.YtkmafndljelopaaDoorJGL
import Derived.Test.YtkmafndljelopaaDoorJWmore
import Derived.Test.YtkmafndljelopaaDoorJW
namespace Go.Proofs.YtkmafndljelopaaDoor.Q
open Go.RowKit Go.Proofs.YtkmafndljelopaaDoorW.PrintWords Go.Proofs.YtkmafndljelopaaDoorW.PrintLast Go.Proofs.YtkmafndljelopaaDoorW.PrintMore
attribute [local go_sem] tS tT uD sZ tQ tC uX sO
set_option linter.unusedVariables false
set_option linter.unusedSimpArgs false
def errW:Option Int→Value
 |none=>.nilIface
 |some c=>.iface 0 (.int .i64 c)
theorem fJ:errW none= .nilIface:=rfl
theorem fK (c:Int):errW (some c)= .iface 0 (.int .i64 c):=rfl
theorem info9:(Tryd.prog.info? 9).map (fun i=>(i.zero,i.size,i.bytes))=some (some (.string ⟨#[]⟩),1,16):=by kernel_rfl
theorem info46:(Tryd.prog.info? 46).map (fun i=>(i.zero,i.size,i.bytes))=some (some (.agg #[(.string ⟨#[]⟩),(.int .i64 0),(.slice none 0 0)]),3,48):=by kernel_rfl
theorem info59:(Tryd.prog.info? 59).map (fun i=>(i.zero,i.size,i.bytes))=some (some (.agg #[(.string ⟨#[]⟩),(.int .i64 0)]),2,24):=by kernel_rfl
theorem info86:(Tryd.prog.info? 86).map (fun i=>(i.zero,i.size,i.bytes))=some (some (.agg #[(.int .i64 0),(.int .i64 0),(.string ⟨#[]⟩),(.slice none 0 0),(.slice none 0 0)]),5,80):=by kernel_rfl
theorem info108:(Tryd.prog.info? 108).map (fun i=>(i.zero,i.size,i.bytes))=some (some (.agg #[(.int .i64 0),(.int .i64 0),(.string ⟨#[]⟩)]),3,32):=by kernel_rfl
structure S108 where
 f0:Int
 f1:Int
 f2:ByteArray
def z108:S108:=⟨(0:Int),(0:Int),(⟨#[]⟩:ByteArray)⟩
def k108:Kd S108:=Kd.iso (Kd.pair (Kd.int .i64) (Kd.pair (Kd.int .i64) Kd.string)) (fun x:S108=>(x.f0,x.f1,x.f2))
theorem aaR {w:World} {x:S108} {cs:List Value} (h:k108.K w x cs):cs= [.int .i64 x.f0,.int .i64 x.f1,.string x.f2]:=by
 obtain ⟨_,_,rfl,rfl,⟨_,_,rfl,rfl,rfl⟩⟩:=h;exact rfl
theorem aw1 (w:World) (x:S108):k108.K w x [.int .i64 x.f0,.int .i64 x.f1,.string x.f2]:=⟨[.int .i64 x.f0],[.int .i64 x.f1,.string x.f2],rfl,rfl,⟨[.int .i64 x.f1],[.string x.f2],rfl,rfl,rfl⟩⟩
theorem XG (w:World) (base:Nat) (ok:Nat→Prop) (x:S108):k108.M w base ok x [.int .i64 x.f0,.int .i64 x.f1,.string x.f2]:=⟨[.int .i64 x.f0],[.int .i64 x.f1,.string x.f2],rfl,rfl,⟨[.int .i64 x.f1],[.string x.f2],rfl,rfl,rfl⟩⟩
def nB (xs:List S108) (i:Int):S108:=xs.getD i.toNat z108
theorem ZH {w:World} {A:Option Addr} {n:Nat} {xs:List S108} (h:Kd.C k108 w A n xs) (i:Int) (h0:0≤i) (h1:i<n): ∃ ad,A=some ad∧w.cell? (ad.add (i.toNat * 3))=some (.int .i64 (nB xs i).f0)∧w.cell? ⟨(ad.add (i.toNat * 3)).block,(ad.add (i.toNat * 3)).off+1,none⟩=some (.int .i64 (nB xs i).f1)∧w.cell? ⟨(ad.add (i.toNat * 3)).block,(ad.add (i.toNat * 3)).off+2,none⟩=some (.string (nB xs i).f2):=by
 obtain ⟨ad,c,e,_,hK,fC⟩:=Kd.zC h z108 i h0 h1;have hc: ∀ j u,c[j]? =some u→w.cell? (ad.add (i.toNat * 3+j))=some u:=fC;obtain rfl:=aaR hK;exact ⟨ad,e,hc 0 _ rfl,by rw [← oT _ _ 1 (by omega)];exact hc 1 _ rfl,by rw [← oT _ _ 2 (by omega)];exact hc 2 _ rfl⟩
structure S141 where
 f0:Int
 f1:Int
 f2:Int
def z141:S141:=⟨(0:Int),(0:Int),(0:Int)⟩
structure S144 where
 f0:Int
 f1:Int
 f2:Int
structure S59 where
 f0:ByteArray
 f1:Int
def z59:S59:=⟨(⟨#[]⟩:ByteArray),(0:Int)⟩
def k59:Kd S59:=Kd.iso (Kd.pair Kd.string (Kd.int .i64)) (fun x:S59=>(x.f0,x.f1))
theorem WO {w:World} {x:S59} {cs:List Value} (h:k59.K w x cs):cs= [.string x.f0,.int .i64 x.f1]:=by
 obtain ⟨_,_,rfl,rfl,rfl⟩:=h;exact rfl
theorem acC (w:World) (x:S59):k59.K w x [.string x.f0,.int .i64 x.f1]:=⟨[.string x.f0],[.int .i64 x.f1],rfl,rfl,rfl⟩
theorem sY (w:World) (base:Nat) (ok:Nat→Prop) (x:S59):k59.M w base ok x [.string x.f0,.int .i64 x.f1]:=⟨[.string x.f0],[.int .i64 x.f1],rfl,rfl,rfl⟩
def dE (xs:List S59) (i:Int):S59:=xs.getD i.toNat z59
theorem wD {w:World} {A:Option Addr} {n:Nat} {xs:List S59} (h:Kd.C k59 w A n xs) (i:Int) (h0:0≤i) (h1:i<n): ∃ ad,A=some ad∧w.cell? (ad.add (i.toNat * 2))=some (.string (dE xs i).f0)∧w.cell? ⟨(ad.add (i.toNat * 2)).block,(ad.add (i.toNat * 2)).off+1,none⟩=some (.int .i64 (dE xs i).f1):=by
 obtain ⟨ad,c,e,_,hK,fC⟩:=Kd.zC h z59 i h0 h1;have hc: ∀ j u,c[j]? =some u→w.cell? (ad.add (i.toNat * 2+j))=some u:=fC;obtain rfl:=WO hK;exact ⟨ad,e,hc 0 _ rfl,by rw [← oT _ _ 1 (by omega)];exact hc 1 _ rfl⟩
structure S86 where
 f0:Int
 f1:Int
 f2:ByteArray
 f3:(List S86)
 f4:(List S86)
def z86:S86:=⟨(0:Int),(0:Int),(⟨#[]⟩:ByteArray),([]:List S86),([]:List S86)⟩
def F86 (d:Kd S86):Kd S86:=Kd.iso (Kd.pair (Kd.int .i64) (Kd.pair (Kd.int .i64) (Kd.pair Kd.string (Kd.pair (Kd.slice 86 d) (Kd.slice 86 d))))) (fun x:S86=>(x.f0,x.f1,x.f2,x.f3,x.f4))
theorem mono86:Kd.Mono F86:=Kd.ajD _ (Kd.AB (Kd.IT _) (Kd.AB (Kd.IT _) (Kd.AB (Kd.IT _) (Kd.AB (Kd.MC 86 Kd.OG) (Kd.MC 86 Kd.OG)))))
theorem sub86:Kd.Sub F86 [86]:=Kd.akV _ (Kd.BO (Kd.sub_const _ (by decide)) (Kd.BO (Kd.sub_const _ (by decide)) (Kd.BO (Kd.sub_const _ (by decide)) (Kd.BO (Kd.O2 86 (by decide) Kd.N7) (Kd.O2 86 (by decide) Kd.N7)))))
theorem sz86: ∀ n,(Kd.upto F86 5 [86] n).sz=5:=Kd.aj1 (fun _=>rfl)
def k86:Kd S86:=Kd.fix F86 5 [86] sz86 (Kd.XN sub86)
theorem E8 {w:World} {x:S86} {cs:List Value} (h:k86.K w x cs): ∃ A3 c3 A4 c4,cs= [.int .i64 x.f0,.int .i64 x.f1,.string x.f2,.slice A3 x.f3.length c3,.slice A4 x.f4.length c4]∧x.f3.length≤c3∧k86.C w A3 x.f3.length x.f3∧x.f4.length≤c4∧k86.C w A4 x.f4.length x.f4:=by
 obtain ⟨n,h⟩:=h;cases n with
 |zero=>exact h.elim
 |succ n=>
  obtain ⟨_,_,rfl,rfl,⟨_,_,rfl,rfl,⟨_,_,rfl,rfl,⟨_,_,rfl,⟨A3,c3,rfl,l3,g3⟩,⟨A4,c4,rfl,l4,g4⟩⟩⟩⟩⟩:=h;exact ⟨A3,c3,A4,c4,rfl,l3,Kd.LO g3,l4,Kd.LO g4⟩
theorem T9 (w:World) (x:S86) {A3:Option Addr} {c3:Nat} (l3:x.f3.length≤c3) (g3:k86.C w A3 x.f3.length x.f3) {A4:Option Addr} {c4:Nat} (l4:x.f4.length≤c4) (g4:k86.C w A4 x.f4.length x.f4):k86.K w x [.int .i64 x.f0,.int .i64 x.f1,.string x.f2,.slice A3 x.f3.length c3,.slice A4 x.f4.length c4]:=by
 obtain ⟨n3,q3⟩:=Kd.LS mono86 g3;obtain ⟨n4,q4⟩:=Kd.LS mono86 g4;have r3:=Kd.MK mono86 sz86 (show n3≤(max n3 n4) by omega) q3;have r4:=Kd.MK mono86 sz86 (show n4≤(max n3 n4) by omega) q4;exact ⟨(max n3 n4)+1,⟨[.int .i64 x.f0],[.int .i64 x.f1,.string x.f2,.slice A3 x.f3.length c3,.slice A4 x.f4.length c4],rfl,rfl,⟨[.int .i64 x.f1],[.string x.f2,.slice A3 x.f3.length c3,.slice A4 x.f4.length c4],rfl,rfl,⟨[.string x.f2],[.slice A3 x.f3.length c3,.slice A4 x.f4.length c4],rfl,rfl,⟨[.slice A3 x.f3.length c3],[.slice A4 x.f4.length c4],rfl,⟨A3,c3,rfl,l3,r3⟩,⟨A4,c4,rfl,l4,r4⟩⟩⟩⟩⟩⟩
theorem BS (w:World) (base:Nat) (ok:Nat→Prop) (x:S86) {v3:Value} (g3:k86.R 86 w base ok v3 x.f3) {v4:Value} (g4:k86.R 86 w base ok v4 x.f4):k86.M w base ok x [.int .i64 x.f0,.int .i64 x.f1,.string x.f2,v3,v4]:=by
 obtain ⟨n3,q3⟩:=Kd.aa7 mono86 g3;obtain ⟨n4,q4⟩:=Kd.aa7 mono86 g4;have r3:=Kd.ai2 mono86 sz86 (show n3≤(max n3 n4) by omega) q3;have r4:=Kd.ai2 mono86 sz86 (show n4≤(max n3 n4) by omega) q4;exact ⟨(max n3 n4)+1,⟨[.int .i64 x.f0],[.int .i64 x.f1,.string x.f2,v3,v4],rfl,rfl,⟨[.int .i64 x.f1],[.string x.f2,v3,v4],rfl,rfl,⟨[.string x.f2],[v3,v4],rfl,rfl,⟨[v3],[v4],rfl,⟨v3,rfl,r3⟩,⟨v4,rfl,r4⟩⟩⟩⟩⟩⟩
theorem ayW {W:World} {ok:Nat→Prop} {x:S86} {cs:List Value} (h:Kd.FK k86 W ok x cs): ∃ A3 c3 A4 c4,cs= [.int .i64 x.f0,.int .i64 x.f1,.string x.f2,.slice A3 x.f3.length c3,.slice A4 x.f4.length c4]∧x.f3.length≤c3∧Kd.F k86 W ok A3 x.f3.length x.f3∧x.f4.length≤c4∧Kd.F k86 W ok A4 x.f4.length x.f4:=by
 obtain ⟨A3,c3,A4,c4,rfl,l3,_,l4,_⟩:=E8 (Kd.tK h);exact ⟨A3,c3,A4,c4,rfl,l3,(fun W' hW=>by obtain ⟨ahV,OQ,akE,aa4,he,asF,aiO,ap5,aaH⟩:=E8 (h W' hW);injection (Option.some.inj (show some (Value.slice A3 x.f3.length c3)=some (Value.slice ahV x.f3.length OQ) from congrArg (fun l=>l[3]?) he)) with ha_ _ _;rw [ha_];exact aiO),l4,(fun W' hW=>by obtain ⟨ahV,OQ,akE,aa4,he,asF,aiO,ap5,aaH⟩:=E8 (h W' hW);injection (Option.some.inj (show some (Value.slice A4 x.f4.length c4)=some (Value.slice akE x.f4.length aa4) from congrArg (fun l=>l[4]?) he)) with ha_ _ _;rw [ha_];exact aaH)⟩
theorem aoY (W:World) (ok:Nat→Prop) (x:S86) {A3:Option Addr} {c3:Nat} (l3:x.f3.length≤c3) (g3:Kd.F k86 W ok A3 x.f3.length x.f3) {A4:Option Addr} {c4:Nat} (l4:x.f4.length≤c4) (g4:Kd.F k86 W ok A4 x.f4.length x.f4):Kd.FK k86 W ok x [.int .i64 x.f0,.int .i64 x.f1,.string x.f2,.slice A3 x.f3.length c3,.slice A4 x.f4.length c4]:=fun W2 hW=>T9 W2 x l3 (g3 W2 hW) l4 (g4 W2 hW)
def aE (xs:List S86) (i:Int):S86:=xs.getD i.toNat z86
theorem kN {w:World} {A:Option Addr} {n:Nat} {xs:List S86} (h:Kd.C k86 w A n xs) (i:Int) (h0:0≤i) (h1:i<n): ∃ ad A3 c3 A4 c4,A=some ad∧w.cell? (ad.add (i.toNat * 5))=some (.int .i64 (aE xs i).f0)∧w.cell? ⟨(ad.add (i.toNat * 5)).block,(ad.add (i.toNat * 5)).off+1,none⟩=some (.int .i64 (aE xs i).f1)∧w.cell? ⟨(ad.add (i.toNat * 5)).block,(ad.add (i.toNat * 5)).off+2,none⟩=some (.string (aE xs i).f2)∧w.cell? ⟨(ad.add (i.toNat * 5)).block,(ad.add (i.toNat * 5)).off+3,none⟩=some (.slice A3 (aE xs i).f3.length c3)∧w.cell? ⟨(ad.add (i.toNat * 5)).block,(ad.add (i.toNat * 5)).off+4,none⟩=some (.slice A4 (aE xs i).f4.length c4)∧(aE xs i).f3.length≤c3∧k86.C w A3 (aE xs i).f3.length (aE xs i).f3∧(aE xs i).f4.length≤c4∧k86.C w A4 (aE xs i).f4.length (aE xs i).f4:=by
 obtain ⟨ad,c,e,_,hK,fC⟩:=Kd.zC h z86 i h0 h1;have hc: ∀ j u,c[j]? =some u→w.cell? (ad.add (i.toNat * 5+j))=some u:=fC;obtain ⟨A3,c3,A4,c4,rfl,l3,g3,l4,g4⟩:=E8 hK;exact ⟨ad,A3,c3,A4,c4,e,hc 0 _ rfl,by rw [← oT _ _ 1 (by omega)];exact hc 1 _ rfl,by rw [← oT _ _ 2 (by omega)];exact hc 2 _ rfl,by rw [← oT _ _ 3 (by omega)];exact hc 3 _ rfl,by rw [← oT _ _ 4 (by omega)];exact hc 4 _ rfl,l3,g3,l4,g4⟩
structure S46 where
 f0:ByteArray
 f1:Int
 f2:(List S86)
def z46:S46:=⟨(⟨#[]⟩:ByteArray),(0:Int),([]:List S86)⟩
def k46:Kd S46:=Kd.iso (Kd.pair Kd.string (Kd.pair (Kd.int .i64) (Kd.slice 86 k86))) (fun x:S46=>(x.f0,x.f1,x.f2))
theorem LF {w:World} {x:S46} {cs:List Value} (h:k46.K w x cs): ∃ A2 c2,cs= [.string x.f0,.int .i64 x.f1,.slice A2 x.f2.length c2]∧x.f2.length≤c2∧k86.C w A2 x.f2.length x.f2:=by
 obtain ⟨_,_,rfl,rfl,⟨_,_,rfl,rfl,⟨A2,c2,rfl,l2,g2⟩⟩⟩:=h;exact ⟨A2,c2,rfl,l2,g2⟩
theorem S8 (w:World) (x:S46) {A2:Option Addr} {c2:Nat} (l2:x.f2.length≤c2) (g2:k86.C w A2 x.f2.length x.f2):k46.K w x [.string x.f0,.int .i64 x.f1,.slice A2 x.f2.length c2]:=⟨[.string x.f0],[.int .i64 x.f1,.slice A2 x.f2.length c2],rfl,rfl,⟨[.int .i64 x.f1],[.slice A2 x.f2.length c2],rfl,rfl,⟨A2,c2,rfl,l2,g2⟩⟩⟩
theorem asJ (w:World) (base:Nat) (ok:Nat→Prop) (x:S46) {v2:Value} (g2:k86.R 86 w base ok v2 x.f2):k46.M w base ok x [.string x.f0,.int .i64 x.f1,v2]:=⟨[.string x.f0],[.int .i64 x.f1,v2],rfl,rfl,⟨[.int .i64 x.f1],[v2],rfl,rfl,⟨v2,rfl,g2⟩⟩⟩
theorem yQ {W:World} {ok:Nat→Prop} {x:S46} {cs:List Value} (h:Kd.FK k46 W ok x cs): ∃ A2 c2,cs= [.string x.f0,.int .i64 x.f1,.slice A2 x.f2.length c2]∧x.f2.length≤c2∧Kd.F k86 W ok A2 x.f2.length x.f2:=by
 obtain ⟨A2,c2,rfl,l2,_⟩:=LF (Kd.tK h);exact ⟨A2,c2,rfl,l2,(fun W' hW=>by obtain ⟨anF,XO,he,aE0,alK⟩:=LF (h W' hW);injection (Option.some.inj (show some (Value.slice A2 x.f2.length c2)=some (Value.slice anF x.f2.length XO) from congrArg (fun l=>l[2]?) he)) with ha_ _ _;rw [ha_];exact alK)⟩
theorem uM (W:World) (ok:Nat→Prop) (x:S46) {A2:Option Addr} {c2:Nat} (l2:x.f2.length≤c2) (g2:Kd.F k86 W ok A2 x.f2.length x.f2):Kd.FK k46 W ok x [.string x.f0,.int .i64 x.f1,.slice A2 x.f2.length c2]:=fun W2 hW=>S8 W2 x l2 (g2 W2 hW)
def bF (xs:List S46) (i:Int):S46:=xs.getD i.toNat z46
theorem vJ {w:World} {A:Option Addr} {n:Nat} {xs:List S46} (h:Kd.C k46 w A n xs) (i:Int) (h0:0≤i) (h1:i<n): ∃ ad A2 c2,A=some ad∧w.cell? (ad.add (i.toNat * 3))=some (.string (bF xs i).f0)∧w.cell? ⟨(ad.add (i.toNat * 3)).block,(ad.add (i.toNat * 3)).off+1,none⟩=some (.int .i64 (bF xs i).f1)∧w.cell? ⟨(ad.add (i.toNat * 3)).block,(ad.add (i.toNat * 3)).off+2,none⟩=some (.slice A2 (bF xs i).f2.length c2)∧(bF xs i).f2.length≤c2∧k86.C w A2 (bF xs i).f2.length (bF xs i).f2:=by
 obtain ⟨ad,c,e,_,hK,fC⟩:=Kd.zC h z46 i h0 h1;have hc: ∀ j u,c[j]? =some u→w.cell? (ad.add (i.toNat * 3+j))=some u:=fC;obtain ⟨A2,c2,rfl,l2,g2⟩:=LF hK;exact ⟨ad,A2,c2,e,hc 0 _ rfl,by rw [← oT _ _ 1 (by omega)];exact hc 1 _ rfl,by rw [← oT _ _ 2 (by omega)];exact hc 2 _ rfl,l2,g2⟩
structure S30 where
 f0:(List S59)
 f1:(List S59)
 f2:(List S46)
structure S105 where
 f0:Int
 f1:Int
 f2:(List S105)
 f3:(List S105)
def z105:S105:=⟨(0:Int),(0:Int),([]:List S105),([]:List S105)⟩
def F105 (d:Kd S105):Kd S105:=Kd.iso (Kd.pair (Kd.int .i64) (Kd.pair (Kd.int .i64) (Kd.pair (Kd.slice 105 d) (Kd.slice 105 d)))) (fun x:S105=>(x.f0,x.f1,x.f2,x.f3))
theorem mono105:Kd.Mono F105:=Kd.ajD _ (Kd.AB (Kd.IT _) (Kd.AB (Kd.IT _) (Kd.AB (Kd.MC 105 Kd.OG) (Kd.MC 105 Kd.OG))))
theorem sub105:Kd.Sub F105 [105]:=Kd.akV _ (Kd.BO (Kd.sub_const _ (by decide)) (Kd.BO (Kd.sub_const _ (by decide)) (Kd.BO (Kd.O2 105 (by decide) Kd.N7) (Kd.O2 105 (by decide) Kd.N7))))
theorem sz105: ∀ n,(Kd.upto F105 4 [105] n).sz=4:=Kd.aj1 (fun _=>rfl)
def k105:Kd S105:=Kd.fix F105 4 [105] sz105 (Kd.XN sub105)
theorem ayN {w:World} {x:S105} {cs:List Value} (h:k105.K w x cs): ∃ A2 c2 A3 c3,cs= [.int .i64 x.f0,.int .i64 x.f1,.slice A2 x.f2.length c2,.slice A3 x.f3.length c3]∧x.f2.length≤c2∧k105.C w A2 x.f2.length x.f2∧x.f3.length≤c3∧k105.C w A3 x.f3.length x.f3:=by
 obtain ⟨n,h⟩:=h;cases n with
 |zero=>exact h.elim
 |succ n=>
  obtain ⟨_,_,rfl,rfl,⟨_,_,rfl,rfl,⟨_,_,rfl,⟨A2,c2,rfl,l2,g2⟩,⟨A3,c3,rfl,l3,g3⟩⟩⟩⟩:=h;exact ⟨A2,c2,A3,c3,rfl,l2,Kd.LO g2,l3,Kd.LO g3⟩
theorem auH (w:World) (x:S105) {A2:Option Addr} {c2:Nat} (l2:x.f2.length≤c2) (g2:k105.C w A2 x.f2.length x.f2) {A3:Option Addr} {c3:Nat} (l3:x.f3.length≤c3) (g3:k105.C w A3 x.f3.length x.f3):k105.K w x [.int .i64 x.f0,.int .i64 x.f1,.slice A2 x.f2.length c2,.slice A3 x.f3.length c3]:=by
 obtain ⟨n2,q2⟩:=Kd.LS mono105 g2;obtain ⟨n3,q3⟩:=Kd.LS mono105 g3;have r2:=Kd.MK mono105 sz105 (show n2≤(max n2 n3) by omega) q2;have r3:=Kd.MK mono105 sz105 (show n3≤(max n2 n3) by omega) q3;exact ⟨(max n2 n3)+1,⟨[.int .i64 x.f0],[.int .i64 x.f1,.slice A2 x.f2.length c2,.slice A3 x.f3.length c3],rfl,rfl,⟨[.int .i64 x.f1],[.slice A2 x.f2.length c2,.slice A3 x.f3.length c3],rfl,rfl,⟨[.slice A2 x.f2.length c2],[.slice A3 x.f3.length c3],rfl,⟨A2,c2,rfl,l2,r2⟩,⟨A3,c3,rfl,l3,r3⟩⟩⟩⟩⟩
def dK (xs:List S105) (i:Int):S105:=xs.getD i.toNat z105
theorem BP {w:World} {A:Option Addr} {n:Nat} {xs:List S105} (h:Kd.C k105 w A n xs) (i:Int) (h0:0≤i) (h1:i<n): ∃ ad A2 c2 A3 c3,A=some ad∧w.cell? (ad.add (i.toNat * 4))=some (.int .i64 (dK xs i).f0)∧w.cell? ⟨(ad.add (i.toNat * 4)).block,(ad.add (i.toNat * 4)).off+1,none⟩=some (.int .i64 (dK xs i).f1)∧w.cell? ⟨(ad.add (i.toNat * 4)).block,(ad.add (i.toNat * 4)).off+2,none⟩=some (.slice A2 (dK xs i).f2.length c2)∧w.cell? ⟨(ad.add (i.toNat * 4)).block,(ad.add (i.toNat * 4)).off+3,none⟩=some (.slice A3 (dK xs i).f3.length c3)∧(dK xs i).f2.length≤c2∧k105.C w A2 (dK xs i).f2.length (dK xs i).f2∧(dK xs i).f3.length≤c3∧k105.C w A3 (dK xs i).f3.length (dK xs i).f3:=by
 obtain ⟨ad,c,e,_,hK,fC⟩:=Kd.zC h z105 i h0 h1;have hc: ∀ j u,c[j]? =some u→w.cell? (ad.add (i.toNat * 4+j))=some u:=fC;obtain ⟨A2,c2,A3,c3,rfl,l2,g2,l3,g3⟩:=ayN hK;exact ⟨ad,A2,c2,A3,c3,e,hc 0 _ rfl,by rw [← oT _ _ 1 (by omega)];exact hc 1 _ rfl,by rw [← oT _ _ 2 (by omega)];exact hc 2 _ rfl,by rw [← oT _ _ 3 (by omega)];exact hc 3 _ rfl,l2,g2,l3,g3⟩
end Go.Proofs.YtkmafndljelopaaDoor.Q
