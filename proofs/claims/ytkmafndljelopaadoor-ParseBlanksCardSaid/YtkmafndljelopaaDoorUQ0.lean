/- A part of this claim. -/
import Derived.Test.YtkmafndljelopaaDoorProg
import Derived.Below
import Derived.Deep.Draws
import Derived.Deep.AppendLies
import Derived.Maps.AppendAt
import Derived.OwnWalk
import Derived.Laws.BytesArg
import Derived.Laws.MakeOwn
import Derived.Laws.OwnMore
import Derived.Deep.OwnRows
import Derived.Tactics
import Derived.Lib.ConvBytes
import Derived.Laws.Slices
import Derived.WalkKit
import Derived.KernelRfl
import Derived.RowKit3
import Derived.Deep.LoopGhost
import Derived.Deep.QuietTactic
import Derived.BigQuiet
import Derived.WideLaws
import Derived.Deep.DeepCutAuto
import Derived.Deep.CutBlock
import Derived.Deep.RegionHeld3
import Derived.Laws.Rows
import Derived.Lib.AppendStr
import Derived.ArgAppend
import Derived.Laws.IdiomCopy
import Derived.OrdersHeld
import Derived.Laws.BitsLemmas
import Derived.RowKit
import Derived.Test.YtkmafndljelopaaDoorUGL
import Derived.Test.YtkmafndljelopaaDoorUWmore
import Derived.Test.YtkmafndljelopaaDoorUW
namespace Go.Proofs.YtkmafndljelopaaDoor.Q
open Go.RowKit Go.Proofs.YtkmafndljelopaaDoorW.PrintWords Go.Proofs.YtkmafndljelopaaDoorW.PrintLast Go.Proofs.YtkmafndljelopaaDoorW.PrintMore
attribute [local go_sem] max2_int min2_int max_two min_two max_three min_three max_four min_four
set_option linter.unusedVariables false
set_option linter.unusedSimpArgs false
def errW:Option Int→Value
 |none=>.nilIface
 |some c=>.iface 0 (.int .i64 c)
theorem errW_none:errW none= .nilIface:=rfl
theorem errW_some (c:Int):errW (some c)= .iface 0 (.int .i64 c):=rfl
theorem info9:(Tryd.prog.info? 9).map (fun i=>(i.zero,i.size,i.bytes))=some (some (.string ⟨#[]⟩),1,16):=by kernel_rfl
theorem info46:(Tryd.prog.info? 46).map (fun i=>(i.zero,i.size,i.bytes))=some (some (.agg #[(.string ⟨#[]⟩),(.int .i64 0),(.slice none 0 0)]),3,48):=by kernel_rfl
theorem info59:(Tryd.prog.info? 59).map (fun i=>(i.zero,i.size,i.bytes))=some (some (.agg #[(.string ⟨#[]⟩),(.int .i64 0)]),2,24):=by kernel_rfl
theorem info86:(Tryd.prog.info? 86).map (fun i=>(i.zero,i.size,i.bytes))=some (some (.agg #[(.int .i64 0),(.int .i64 0),(.string ⟨#[]⟩),(.slice none 0 0),(.slice none 0 0)]),5,80):=by kernel_rfl
theorem info108:(Tryd.prog.info? 108).map (fun i=>(i.zero,i.size,i.bytes))=some (some (.agg #[(.int .i64 0),(.int .i64 0),(.string ⟨#[]⟩)]),3,32):=by kernel_rfl
structure S108 where
 f0:Int
 f1:Int
 f2:ByteArray
def z108:S108:=⟨(0:Int),(0:Int),(⟨#[]⟩:ByteArray)⟩
def k108:Kd S108:=Kd.iso (Kd.pair (Kd.int .i64) (Kd.pair (Kd.int .i64) Kd.string)) (fun x:S108=>(x.f0,x.f1,x.f2))
theorem k108_open {w:World} {x:S108} {cs:List Value} (h:k108.K w x cs):cs= [.int .i64 x.f0,.int .i64 x.f1,.string x.f2]:=by
 obtain ⟨_,_,rfl,rfl,⟨_,_,rfl,rfl,rfl⟩⟩:=h;exact rfl
theorem k108_mk (w:World) (x:S108):k108.K w x [.int .i64 x.f0,.int .i64 x.f1,.string x.f2]:=⟨[.int .i64 x.f0],[.int .i64 x.f1,.string x.f2],rfl,rfl,⟨[.int .i64 x.f1],[.string x.f2],rfl,rfl,rfl⟩⟩
theorem k108_mkM (w:World) (base:Nat) (ok:Nat→Prop) (x:S108):k108.M w base ok x [.int .i64 x.f0,.int .i64 x.f1,.string x.f2]:=⟨[.int .i64 x.f0],[.int .i64 x.f1,.string x.f2],rfl,rfl,⟨[.int .i64 x.f1],[.string x.f2],rfl,rfl,rfl⟩⟩
def rd_T108 (xs:List S108) (i:Int):S108:=xs.getD i.toNat z108
theorem at_T108 {w:World} {A:Option Addr} {n:Nat} {xs:List S108} (h:Kd.C k108 w A n xs) (i:Int) (h0:0≤i) (h1:i<n): ∃ ad,A=some ad∧w.cell? (ad.add (i.toNat * 3))=some (.int .i64 (rd_T108 xs i).f0)∧w.cell? ⟨(ad.add (i.toNat * 3)).block,(ad.add (i.toNat * 3)).off+1,none⟩=some (.int .i64 (rd_T108 xs i).f1)∧w.cell? ⟨(ad.add (i.toNat * 3)).block,(ad.add (i.toNat * 3)).off+2,none⟩=some (.string (rd_T108 xs i).f2):=by
 obtain ⟨ad,c,e,_,hK,hc0⟩:=Kd.C_get h z108 i h0 h1;have hc: ∀ j u,c[j]? =some u→w.cell? (ad.add (i.toNat * 3+j))=some u:=hc0;obtain rfl:=k108_open hK;exact ⟨ad,e,hc 0 _ rfl,by rw [← add_field _ _ 1 (by omega)];exact hc 1 _ rfl,by rw [← add_field _ _ 2 (by omega)];exact hc 2 _ rfl⟩
structure S141 where
 f0:Int
 f1:Int
 f2:Int
def z141:S141:=⟨(0:Int),(0:Int),(0:Int)⟩
structure S144 where
 f0:Int
 f1:Int
 f2:Int
structure S59 where
 f0:ByteArray
 f1:Int
def z59:S59:=⟨(⟨#[]⟩:ByteArray),(0:Int)⟩
def k59:Kd S59:=Kd.iso (Kd.pair Kd.string (Kd.int .i64)) (fun x:S59=>(x.f0,x.f1))
theorem k59_open {w:World} {x:S59} {cs:List Value} (h:k59.K w x cs):cs= [.string x.f0,.int .i64 x.f1]:=by
 obtain ⟨_,_,rfl,rfl,rfl⟩:=h;exact rfl
theorem k59_mk (w:World) (x:S59):k59.K w x [.string x.f0,.int .i64 x.f1]:=⟨[.string x.f0],[.int .i64 x.f1],rfl,rfl,rfl⟩
theorem k59_mkM (w:World) (base:Nat) (ok:Nat→Prop) (x:S59):k59.M w base ok x [.string x.f0,.int .i64 x.f1]:=⟨[.string x.f0],[.int .i64 x.f1],rfl,rfl,rfl⟩
def rd_T59 (xs:List S59) (i:Int):S59:=xs.getD i.toNat z59
theorem at_T59 {w:World} {A:Option Addr} {n:Nat} {xs:List S59} (h:Kd.C k59 w A n xs) (i:Int) (h0:0≤i) (h1:i<n): ∃ ad,A=some ad∧w.cell? (ad.add (i.toNat * 2))=some (.string (rd_T59 xs i).f0)∧w.cell? ⟨(ad.add (i.toNat * 2)).block,(ad.add (i.toNat * 2)).off+1,none⟩=some (.int .i64 (rd_T59 xs i).f1):=by
 obtain ⟨ad,c,e,_,hK,hc0⟩:=Kd.C_get h z59 i h0 h1;have hc: ∀ j u,c[j]? =some u→w.cell? (ad.add (i.toNat * 2+j))=some u:=hc0;obtain rfl:=k59_open hK;exact ⟨ad,e,hc 0 _ rfl,by rw [← add_field _ _ 1 (by omega)];exact hc 1 _ rfl⟩
structure S86 where
 f0:Int
 f1:Int
 f2:ByteArray
 f3:(List S86)
 f4:(List S86)
def z86:S86:=⟨(0:Int),(0:Int),(⟨#[]⟩:ByteArray),([]:List S86),([]:List S86)⟩
def F86 (d:Kd S86):Kd S86:=Kd.iso (Kd.pair (Kd.int .i64) (Kd.pair (Kd.int .i64) (Kd.pair Kd.string (Kd.pair (Kd.slice 86 d) (Kd.slice 86 d))))) (fun x:S86=>(x.f0,x.f1,x.f2,x.f3,x.f4))
theorem mono86:Kd.Mono F86:=Kd.mono_iso _ (Kd.mono_pair (Kd.mono_const _) (Kd.mono_pair (Kd.mono_const _) (Kd.mono_pair (Kd.mono_const _) (Kd.mono_pair (Kd.mono_slice 86 Kd.mono_id) (Kd.mono_slice 86 Kd.mono_id)))))
theorem sub86:Kd.Sub F86 [86]:=Kd.sub_iso _ (Kd.sub_pair (Kd.sub_const _ (by decide)) (Kd.sub_pair (Kd.sub_const _ (by decide)) (Kd.sub_pair (Kd.sub_const _ (by decide)) (Kd.sub_pair (Kd.sub_slice 86 (by decide) Kd.sub_id) (Kd.sub_slice 86 (by decide) Kd.sub_id)))))
theorem sz86: ∀ n,(Kd.upto F86 5 [86] n).sz=5:=Kd.upto_sz (fun _=>rfl)
def k86:Kd S86:=Kd.fix F86 5 [86] sz86 (Kd.upto_E sub86)
theorem k86_open {w:World} {x:S86} {cs:List Value} (h:k86.K w x cs): ∃ A3 c3 A4 c4,cs= [.int .i64 x.f0,.int .i64 x.f1,.string x.f2,.slice A3 x.f3.length c3,.slice A4 x.f4.length c4]∧x.f3.length≤c3∧k86.C w A3 x.f3.length x.f3∧x.f4.length≤c4∧k86.C w A4 x.f4.length x.f4:=by
 obtain ⟨n,h⟩:=h;cases n with
 |zero=>exact h.elim
 |succ n=>
  obtain ⟨_,_,rfl,rfl,⟨_,_,rfl,rfl,⟨_,_,rfl,rfl,⟨_,_,rfl,⟨A3,c3,rfl,l3,g3⟩,⟨A4,c4,rfl,l4,g4⟩⟩⟩⟩⟩:=h;exact ⟨A3,c3,A4,c4,rfl,l3,Kd.fix_C g3,l4,Kd.fix_C g4⟩
theorem k86_mk (w:World) (x:S86) {A3:Option Addr} {c3:Nat} (l3:x.f3.length≤c3) (g3:k86.C w A3 x.f3.length x.f3) {A4:Option Addr} {c4:Nat} (l4:x.f4.length≤c4) (g4:k86.C w A4 x.f4.length x.f4):k86.K w x [.int .i64 x.f0,.int .i64 x.f1,.string x.f2,.slice A3 x.f3.length c3,.slice A4 x.f4.length c4]:=by
 obtain ⟨n3,q3⟩:=Kd.fix_C_back mono86 g3;obtain ⟨n4,q4⟩:=Kd.fix_C_back mono86 g4;have r3:=Kd.upto_C_le mono86 sz86 (show n3≤(max n3 n4) by omega) q3;have r4:=Kd.upto_C_le mono86 sz86 (show n4≤(max n3 n4) by omega) q4;exact ⟨(max n3 n4)+1,⟨[.int .i64 x.f0],[.int .i64 x.f1,.string x.f2,.slice A3 x.f3.length c3,.slice A4 x.f4.length c4],rfl,rfl,⟨[.int .i64 x.f1],[.string x.f2,.slice A3 x.f3.length c3,.slice A4 x.f4.length c4],rfl,rfl,⟨[.string x.f2],[.slice A3 x.f3.length c3,.slice A4 x.f4.length c4],rfl,rfl,⟨[.slice A3 x.f3.length c3],[.slice A4 x.f4.length c4],rfl,⟨A3,c3,rfl,l3,r3⟩,⟨A4,c4,rfl,l4,r4⟩⟩⟩⟩⟩⟩
theorem k86_mkM (w:World) (base:Nat) (ok:Nat→Prop) (x:S86) {v3:Value} (g3:k86.R 86 w base ok v3 x.f3) {v4:Value} (g4:k86.R 86 w base ok v4 x.f4):k86.M w base ok x [.int .i64 x.f0,.int .i64 x.f1,.string x.f2,v3,v4]:=by
 obtain ⟨n3,q3⟩:=Kd.fix_R_back mono86 g3;obtain ⟨n4,q4⟩:=Kd.fix_R_back mono86 g4;have r3:=Kd.upto_R_le mono86 sz86 (show n3≤(max n3 n4) by omega) q3;have r4:=Kd.upto_R_le mono86 sz86 (show n4≤(max n3 n4) by omega) q4;exact ⟨(max n3 n4)+1,⟨[.int .i64 x.f0],[.int .i64 x.f1,.string x.f2,v3,v4],rfl,rfl,⟨[.int .i64 x.f1],[.string x.f2,v3,v4],rfl,rfl,⟨[.string x.f2],[v3,v4],rfl,rfl,⟨[v3],[v4],rfl,⟨v3,rfl,r3⟩,⟨v4,rfl,r4⟩⟩⟩⟩⟩⟩
theorem k86_openF {W:World} {ok:Nat→Prop} {x:S86} {cs:List Value} (h:Kd.FK k86 W ok x cs): ∃ A3 c3 A4 c4,cs= [.int .i64 x.f0,.int .i64 x.f1,.string x.f2,.slice A3 x.f3.length c3,.slice A4 x.f4.length c4]∧x.f3.length≤c3∧Kd.F k86 W ok A3 x.f3.length x.f3∧x.f4.length≤c4∧Kd.F k86 W ok A4 x.f4.length x.f4:=by
 obtain ⟨A3,c3,A4,c4,rfl,l3,_,l4,_⟩:=k86_open (Kd.FK_now h);exact ⟨A3,c3,A4,c4,rfl,l3,(fun W' hW=>by obtain ⟨A3_,c3_,A4_,c4_,he,l3_,g3_,l4_,g4_⟩:=k86_open (h W' hW);injection (Option.some.inj (show some (Value.slice A3 x.f3.length c3)=some (Value.slice A3_ x.f3.length c3_) from congrArg (fun l=>l[3]?) he)) with ha_ _ _;rw [ha_];exact g3_),l4,(fun W' hW=>by obtain ⟨A3_,c3_,A4_,c4_,he,l3_,g3_,l4_,g4_⟩:=k86_open (h W' hW);injection (Option.some.inj (show some (Value.slice A4 x.f4.length c4)=some (Value.slice A4_ x.f4.length c4_) from congrArg (fun l=>l[4]?) he)) with ha_ _ _;rw [ha_];exact g4_)⟩
theorem k86_mkF (W:World) (ok:Nat→Prop) (x:S86) {A3:Option Addr} {c3:Nat} (l3:x.f3.length≤c3) (g3:Kd.F k86 W ok A3 x.f3.length x.f3) {A4:Option Addr} {c4:Nat} (l4:x.f4.length≤c4) (g4:Kd.F k86 W ok A4 x.f4.length x.f4):Kd.FK k86 W ok x [.int .i64 x.f0,.int .i64 x.f1,.string x.f2,.slice A3 x.f3.length c3,.slice A4 x.f4.length c4]:=fun W2 hW=>k86_mk W2 x l3 (g3 W2 hW) l4 (g4 W2 hW)
def rd_T86 (xs:List S86) (i:Int):S86:=xs.getD i.toNat z86
theorem at_T86 {w:World} {A:Option Addr} {n:Nat} {xs:List S86} (h:Kd.C k86 w A n xs) (i:Int) (h0:0≤i) (h1:i<n): ∃ ad A3 c3 A4 c4,A=some ad∧w.cell? (ad.add (i.toNat * 5))=some (.int .i64 (rd_T86 xs i).f0)∧w.cell? ⟨(ad.add (i.toNat * 5)).block,(ad.add (i.toNat * 5)).off+1,none⟩=some (.int .i64 (rd_T86 xs i).f1)∧w.cell? ⟨(ad.add (i.toNat * 5)).block,(ad.add (i.toNat * 5)).off+2,none⟩=some (.string (rd_T86 xs i).f2)∧w.cell? ⟨(ad.add (i.toNat * 5)).block,(ad.add (i.toNat * 5)).off+3,none⟩=some (.slice A3 (rd_T86 xs i).f3.length c3)∧w.cell? ⟨(ad.add (i.toNat * 5)).block,(ad.add (i.toNat * 5)).off+4,none⟩=some (.slice A4 (rd_T86 xs i).f4.length c4)∧(rd_T86 xs i).f3.length≤c3∧k86.C w A3 (rd_T86 xs i).f3.length (rd_T86 xs i).f3∧(rd_T86 xs i).f4.length≤c4∧k86.C w A4 (rd_T86 xs i).f4.length (rd_T86 xs i).f4:=by
 obtain ⟨ad,c,e,_,hK,hc0⟩:=Kd.C_get h z86 i h0 h1;have hc: ∀ j u,c[j]? =some u→w.cell? (ad.add (i.toNat * 5+j))=some u:=hc0;obtain ⟨A3,c3,A4,c4,rfl,l3,g3,l4,g4⟩:=k86_open hK;exact ⟨ad,A3,c3,A4,c4,e,hc 0 _ rfl,by rw [← add_field _ _ 1 (by omega)];exact hc 1 _ rfl,by rw [← add_field _ _ 2 (by omega)];exact hc 2 _ rfl,by rw [← add_field _ _ 3 (by omega)];exact hc 3 _ rfl,by rw [← add_field _ _ 4 (by omega)];exact hc 4 _ rfl,l3,g3,l4,g4⟩
structure S46 where
 f0:ByteArray
 f1:Int
 f2:(List S86)
def z46:S46:=⟨(⟨#[]⟩:ByteArray),(0:Int),([]:List S86)⟩
def k46:Kd S46:=Kd.iso (Kd.pair Kd.string (Kd.pair (Kd.int .i64) (Kd.slice 86 k86))) (fun x:S46=>(x.f0,x.f1,x.f2))
theorem k46_open {w:World} {x:S46} {cs:List Value} (h:k46.K w x cs): ∃ A2 c2,cs= [.string x.f0,.int .i64 x.f1,.slice A2 x.f2.length c2]∧x.f2.length≤c2∧k86.C w A2 x.f2.length x.f2:=by
 obtain ⟨_,_,rfl,rfl,⟨_,_,rfl,rfl,⟨A2,c2,rfl,l2,g2⟩⟩⟩:=h;exact ⟨A2,c2,rfl,l2,g2⟩
theorem k46_mk (w:World) (x:S46) {A2:Option Addr} {c2:Nat} (l2:x.f2.length≤c2) (g2:k86.C w A2 x.f2.length x.f2):k46.K w x [.string x.f0,.int .i64 x.f1,.slice A2 x.f2.length c2]:=⟨[.string x.f0],[.int .i64 x.f1,.slice A2 x.f2.length c2],rfl,rfl,⟨[.int .i64 x.f1],[.slice A2 x.f2.length c2],rfl,rfl,⟨A2,c2,rfl,l2,g2⟩⟩⟩
theorem k46_mkM (w:World) (base:Nat) (ok:Nat→Prop) (x:S46) {v2:Value} (g2:k86.R 86 w base ok v2 x.f2):k46.M w base ok x [.string x.f0,.int .i64 x.f1,v2]:=⟨[.string x.f0],[.int .i64 x.f1,v2],rfl,rfl,⟨[.int .i64 x.f1],[v2],rfl,rfl,⟨v2,rfl,g2⟩⟩⟩
theorem k46_openF {W:World} {ok:Nat→Prop} {x:S46} {cs:List Value} (h:Kd.FK k46 W ok x cs): ∃ A2 c2,cs= [.string x.f0,.int .i64 x.f1,.slice A2 x.f2.length c2]∧x.f2.length≤c2∧Kd.F k86 W ok A2 x.f2.length x.f2:=by
 obtain ⟨A2,c2,rfl,l2,_⟩:=k46_open (Kd.FK_now h);exact ⟨A2,c2,rfl,l2,(fun W' hW=>by obtain ⟨A2_,c2_,he,l2_,g2_⟩:=k46_open (h W' hW);injection (Option.some.inj (show some (Value.slice A2 x.f2.length c2)=some (Value.slice A2_ x.f2.length c2_) from congrArg (fun l=>l[2]?) he)) with ha_ _ _;rw [ha_];exact g2_)⟩
theorem k46_mkF (W:World) (ok:Nat→Prop) (x:S46) {A2:Option Addr} {c2:Nat} (l2:x.f2.length≤c2) (g2:Kd.F k86 W ok A2 x.f2.length x.f2):Kd.FK k46 W ok x [.string x.f0,.int .i64 x.f1,.slice A2 x.f2.length c2]:=fun W2 hW=>k46_mk W2 x l2 (g2 W2 hW)
def rd_T46 (xs:List S46) (i:Int):S46:=xs.getD i.toNat z46
theorem at_T46 {w:World} {A:Option Addr} {n:Nat} {xs:List S46} (h:Kd.C k46 w A n xs) (i:Int) (h0:0≤i) (h1:i<n): ∃ ad A2 c2,A=some ad∧w.cell? (ad.add (i.toNat * 3))=some (.string (rd_T46 xs i).f0)∧w.cell? ⟨(ad.add (i.toNat * 3)).block,(ad.add (i.toNat * 3)).off+1,none⟩=some (.int .i64 (rd_T46 xs i).f1)∧w.cell? ⟨(ad.add (i.toNat * 3)).block,(ad.add (i.toNat * 3)).off+2,none⟩=some (.slice A2 (rd_T46 xs i).f2.length c2)∧(rd_T46 xs i).f2.length≤c2∧k86.C w A2 (rd_T46 xs i).f2.length (rd_T46 xs i).f2:=by
 obtain ⟨ad,c,e,_,hK,hc0⟩:=Kd.C_get h z46 i h0 h1;have hc: ∀ j u,c[j]? =some u→w.cell? (ad.add (i.toNat * 3+j))=some u:=hc0;obtain ⟨A2,c2,rfl,l2,g2⟩:=k46_open hK;exact ⟨ad,A2,c2,e,hc 0 _ rfl,by rw [← add_field _ _ 1 (by omega)];exact hc 1 _ rfl,by rw [← add_field _ _ 2 (by omega)];exact hc 2 _ rfl,l2,g2⟩
structure S30 where
 f0:(List S59)
 f1:(List S59)
 f2:(List S46)
structure S105 where
 f0:Int
 f1:Int
 f2:(List S105)
 f3:(List S105)
def z105:S105:=⟨(0:Int),(0:Int),([]:List S105),([]:List S105)⟩
def F105 (d:Kd S105):Kd S105:=Kd.iso (Kd.pair (Kd.int .i64) (Kd.pair (Kd.int .i64) (Kd.pair (Kd.slice 105 d) (Kd.slice 105 d)))) (fun x:S105=>(x.f0,x.f1,x.f2,x.f3))
theorem mono105:Kd.Mono F105:=Kd.mono_iso _ (Kd.mono_pair (Kd.mono_const _) (Kd.mono_pair (Kd.mono_const _) (Kd.mono_pair (Kd.mono_slice 105 Kd.mono_id) (Kd.mono_slice 105 Kd.mono_id))))
theorem sub105:Kd.Sub F105 [105]:=Kd.sub_iso _ (Kd.sub_pair (Kd.sub_const _ (by decide)) (Kd.sub_pair (Kd.sub_const _ (by decide)) (Kd.sub_pair (Kd.sub_slice 105 (by decide) Kd.sub_id) (Kd.sub_slice 105 (by decide) Kd.sub_id))))
theorem sz105: ∀ n,(Kd.upto F105 4 [105] n).sz=4:=Kd.upto_sz (fun _=>rfl)
def k105:Kd S105:=Kd.fix F105 4 [105] sz105 (Kd.upto_E sub105)
theorem k105_open {w:World} {x:S105} {cs:List Value} (h:k105.K w x cs): ∃ A2 c2 A3 c3,cs= [.int .i64 x.f0,.int .i64 x.f1,.slice A2 x.f2.length c2,.slice A3 x.f3.length c3]∧x.f2.length≤c2∧k105.C w A2 x.f2.length x.f2∧x.f3.length≤c3∧k105.C w A3 x.f3.length x.f3:=by
 obtain ⟨n,h⟩:=h;cases n with
 |zero=>exact h.elim
 |succ n=>
  obtain ⟨_,_,rfl,rfl,⟨_,_,rfl,rfl,⟨_,_,rfl,⟨A2,c2,rfl,l2,g2⟩,⟨A3,c3,rfl,l3,g3⟩⟩⟩⟩:=h;exact ⟨A2,c2,A3,c3,rfl,l2,Kd.fix_C g2,l3,Kd.fix_C g3⟩
theorem k105_mk (w:World) (x:S105) {A2:Option Addr} {c2:Nat} (l2:x.f2.length≤c2) (g2:k105.C w A2 x.f2.length x.f2) {A3:Option Addr} {c3:Nat} (l3:x.f3.length≤c3) (g3:k105.C w A3 x.f3.length x.f3):k105.K w x [.int .i64 x.f0,.int .i64 x.f1,.slice A2 x.f2.length c2,.slice A3 x.f3.length c3]:=by
 obtain ⟨n2,q2⟩:=Kd.fix_C_back mono105 g2;obtain ⟨n3,q3⟩:=Kd.fix_C_back mono105 g3;have r2:=Kd.upto_C_le mono105 sz105 (show n2≤(max n2 n3) by omega) q2;have r3:=Kd.upto_C_le mono105 sz105 (show n3≤(max n2 n3) by omega) q3;exact ⟨(max n2 n3)+1,⟨[.int .i64 x.f0],[.int .i64 x.f1,.slice A2 x.f2.length c2,.slice A3 x.f3.length c3],rfl,rfl,⟨[.int .i64 x.f1],[.slice A2 x.f2.length c2,.slice A3 x.f3.length c3],rfl,rfl,⟨[.slice A2 x.f2.length c2],[.slice A3 x.f3.length c3],rfl,⟨A2,c2,rfl,l2,r2⟩,⟨A3,c3,rfl,l3,r3⟩⟩⟩⟩⟩
def rd_T105 (xs:List S105) (i:Int):S105:=xs.getD i.toNat z105
theorem at_T105 {w:World} {A:Option Addr} {n:Nat} {xs:List S105} (h:Kd.C k105 w A n xs) (i:Int) (h0:0≤i) (h1:i<n): ∃ ad A2 c2 A3 c3,A=some ad∧w.cell? (ad.add (i.toNat * 4))=some (.int .i64 (rd_T105 xs i).f0)∧w.cell? ⟨(ad.add (i.toNat * 4)).block,(ad.add (i.toNat * 4)).off+1,none⟩=some (.int .i64 (rd_T105 xs i).f1)∧w.cell? ⟨(ad.add (i.toNat * 4)).block,(ad.add (i.toNat * 4)).off+2,none⟩=some (.slice A2 (rd_T105 xs i).f2.length c2)∧w.cell? ⟨(ad.add (i.toNat * 4)).block,(ad.add (i.toNat * 4)).off+3,none⟩=some (.slice A3 (rd_T105 xs i).f3.length c3)∧(rd_T105 xs i).f2.length≤c2∧k105.C w A2 (rd_T105 xs i).f2.length (rd_T105 xs i).f2∧(rd_T105 xs i).f3.length≤c3∧k105.C w A3 (rd_T105 xs i).f3.length (rd_T105 xs i).f3:=by
 obtain ⟨ad,c,e,_,hK,hc0⟩:=Kd.C_get h z105 i h0 h1;have hc: ∀ j u,c[j]? =some u→w.cell? (ad.add (i.toNat * 4+j))=some u:=hc0;obtain ⟨A2,c2,A3,c3,rfl,l2,g2,l3,g3⟩:=k105_open hK;exact ⟨ad,A2,c2,A3,c3,e,hc 0 _ rfl,by rw [← add_field _ _ 1 (by omega)];exact hc 1 _ rfl,by rw [← add_field _ _ 2 (by omega)];exact hc 2 _ rfl,by rw [← add_field _ _ 3 (by omega)];exact hc 3 _ rfl,l2,g2,l3,g3⟩
end Go.Proofs.YtkmafndljelopaaDoor.Q
