/- ParseBlanks: blanks more between a text's words change nothing but places: the words are the same (Rnd). No condition beyond the row's own. -/
import Derived.Test.YtkmafndljelopaaDoorUTx6
import Derived.Test.YtkmafndljelopaaDoorUQ14
namespace Go.Proofs.YtkmafndljelopaaDoor.Pure
set_option linter.unusedSimpArgs false
set_option linter.unusedVariables false
open Go.RowKit Go.Proofs.YtkmafndljelopaaDoor.Q Go.Proofs.YtkmafndljelopaaDoor.Lx Go.Proofs.YtkmafndljelopaaDoorW.PrintWords Go.Proofs.YtkmafndljelopaaDoorW.PrintLast
theorem known6:deadboltlaw6_known.f=some true:=by decide+kernel
def ins (W:Nat):Nat→List UInt8→List UInt8
 |_,[]=>[]
 |i,c::r=>(if c=32∧(i+W) % 7=0 then [c,10,9] else [c])++ins W (i+1) r
theorem ins_app (W:Nat): ∀ (a b:List UInt8) (i:Nat),ins W i (a++b)=ins W i a++ins W (i+a.length) b
 |[],b,i=>by simp [ins]
 |c::r,b,i=>by
  simp only [List.cons_append,ins,ins_app W r b (i+1),List.length_cons,List.append_assoc];rw [show i+1+r.length=i+(r.length+1) by omega]
theorem ins_word (W:Nat): ∀ (a:List UInt8) (i:Nat),(∀ c∈a,c≠32)→ins W i a=a
 |[],i,_=>rfl
 |c::r,i,h=>by
  rw [ins,if_neg (fun e=>h c (by simp) e.1),ins_word W r (i+1) fun x hx=>h x (by simp [hx])];rfl
theorem ins_blank (W:Nat): ∀ (a:List UInt8) (i:Nat),(∀ c∈a,blankB c=true)→ ∀ c∈ins W i a,blankB c=true
 |[],i,_,c,hc=>by simp [ins] at hc
 |d::r,i,h,c,hc=>by
  rw [ins] at hc;rcases List.mem_append.1 hc with hc|hc
  ·split at hc
   ·simp only [List.mem_cons,List.not_mem_nil,or_false] at hc;rcases hc with rfl|rfl|rfl
    ·exact h _ (by simp)
    ·rfl
    ·rfl
   ·simp only [List.mem_singleton] at hc;subst hc;exact h _ (by simp)
  ·exact ins_blank W r (i+1) (fun x hx=>h x (by simp [hx])) c hc
theorem ins_ne (W:Nat) (a:List UInt8) (i:Nat) (h:a≠ []):ins W i a≠ []:=by
 cases a with
 |nil=>exact absurd rfl h
 |cons c r=>rw [ins];split<;>simp
theorem ins_len (W:Nat): ∀ (a:List UInt8) (i:Nat),a.length≤(ins W i a).length∧(ins W i a).length≤3 * a.length
 |[],i=>by simp [ins]
 |c::r,i=>by
  have:=ins_len W r (i+1);rw [ins];split<;>simp only [List.length_append,List.length_cons,List.length_nil]<;>omega
def insP (W:Nat):Nat→List (ByteArray×List UInt8)→List (ByteArray×List UInt8)
 |_,[]=>[]
 |i,p::r=>(p.1,ins W (i+p.1.data.toList.length) p.2)::insP W (i+p.1.data.toList.length+p.2.length) r
theorem insP_fst (W:Nat): ∀ (ps:List (ByteArray×List UInt8)) (i:Nat),(insP W i ps).map (·.1)=ps.map (·.1)
 |[],_=>rfl
 |p::r,i=>by simp only [insP,List.map_cons,insP_fst W r]
theorem word_blank {w:ByteArray} (h:wordB w=true): ∀ c∈w.data.toList,c≠32:=by
 unfold wordB at h
 generalize w.data.toList=l at h;intro c hc e;subst e;simp only [Bool.or_eq_true,beq_iff_eq] at h;rcases h with rfl|rfl|h
 ·exact absurd hc (by decide)
 ·exact absurd hc (by decide)
 ·cases l with
  |nil=>cases hc
  |cons d r=>
   simp only [Bool.and_eq_true] at h;rcases List.mem_cons.1 hc with e|hc
   ·rw [← e] at h;exact absurd h.1 (by decide)
   ·have:=List.all_eq_true.1 h.2 _ hc;exact absurd this (by decide)
theorem insP_ok (W:Nat): ∀ (ps:List (ByteArray×List UInt8)) (i:Nat),(∀ p∈ps,pieceOk p)→ ∀ p∈insP W i ps,pieceOk p
 |[],i,_,p,hp=>by simp [insP] at hp
 |q::r,i,h,p,hp=>by
  obtain ⟨h1,h2,h3⟩:=h q (by simp);simp only [insP,List.mem_cons] at hp;rcases hp with rfl|hp
  ·exact ⟨h1,ins_ne W _ _ h2,ins_blank W _ _ h3⟩
  ·exact insP_ok W r _ (fun x hx=>h x (by simp [hx])) p hp
theorem insP_text (W:Nat): ∀ (ps:List (ByteArray×List UInt8)) (i:Nat),(∀ p∈ps,pieceOk p)→ptext (insP W i ps)=ins W i (ptext ps)
 |[],i,_=>rfl
 |p::r,i,h=>by
  have ih:=insP_text W r (i+p.1.data.toList.length+p.2.length) fun x hx=>h x (by simp [hx])
  have e: ∀ (a:ByteArray) (z:List UInt8) (q:List (ByteArray×List UInt8)),ptext ((a,z)::q)=a.data.toList++(z++ptext q):=by intro a z q;simp [ptext]
  rw [insP,e,ih,show p::r=(p.1,p.2)::r from rfl,e,ins_app,ins_app,ins_word W _ _ (word_blank (h p (by simp)).1)]
mutual
theorem sameS_symm: ∀ (a b:St6),sameS a b=true→sameS b a=true
 |⟨k,_,n,A,B⟩,⟨k',_,n',A',B'⟩,h=>by
  simp only [sameS,Bool.and_eq_true,beq_iff_eq] at h ⊢;exact ⟨h.1.symm,h.2.1.symm,sameL_symm A A' h.2.2.1,sameL_symm B B' h.2.2.2⟩
theorem sameL_symm: ∀ (a b:List St6),sameL a b=true→sameL b a=true
 |[],[],_=>rfl
 |a::r,b::s,h=>by
  simp only [sameL,Bool.and_eq_true] at h ⊢;exact ⟨sameS_symm a b h.1,sameL_symm r s h.2⟩
 |[],_::_,h=>by simp [sameL] at h
 |_::_,[],h=>by simp [sameL] at h
end
theorem eqAll_symm {α:Type} {eq:α→α→Bool} (h: ∀ a b,eq a b=true→eq b a=true): ∀ {xs ys:List α},eqAll eq xs ys=true→eqAll eq ys xs=true
 |[],[],_=>rfl
 |a::r,b::s,h1=>by
  simp only [eqAll,Bool.and_eq_true] at h1 ⊢;exact ⟨h a b h1.1,eqAll_symm h h1.2⟩
 |[],_::_,h=>by simp [eqAll] at h
 |_::_,[],h=>by simp [eqAll] at h
theorem sameP_symm {v1 l1 v2 l2:List De6} {f1 f2:List Fn6} (h:sameP v1 l1 f1 v2 l2 f2=true):sameP v2 l2 f2 v1 l1 f1=true:=by
 simp only [sameP,Bool.and_eq_true] at h ⊢;have hD: ∀ a b:De6,sameD a b=true→sameD b a=true:=by
  intro a b h;simp only [sameD,beq_iff_eq] at h ⊢;exact h.symm
 refine ⟨eqAll_symm hD h.1,eqAll_symm hD h.2.1,eqAll_symm ?_ h.2.2⟩;intro a b h;simp only [sameF,Bool.and_eq_true,beq_iff_eq] at h ⊢;exact ⟨h.1.symm,sameL_symm _ _ h.2⟩
mutual
theorem stK_same: ∀ (a b:St6),sameS a b=true→stK a=stK b
 |⟨k,_,n,A,B⟩,⟨k',_,n',A',B'⟩,h=>by
  simp only [sameS,Bool.and_eq_true,beq_iff_eq] at h;obtain ⟨rfl,_,hA,hB⟩:=h;simp only [stK,lsK_same A A' hA,lsK_same B B' hB]
theorem lsK_same: ∀ (a b:List St6),sameL a b=true→lsK a=lsK b
 |[],[],_=>rfl
 |a::r,b::s,h=>by
  simp only [sameL,Bool.and_eq_true] at h;simp only [lsK,stK_same a b h.1,lsK_same r s h.2]
 |[],_::_,h=>by simp [sameL] at h
 |_::_,[],h=>by simp [sameL] at h
end
theorem textOk_same {v1 l1 v2 l2:List De6} {f1 f2:List Fn6} (h:sameP v1 l1 f1 v2 l2 f2=true) (ho:textOk v1 l1 f1=true):textOk v2 l2 f2=true:=by
 unfold textOk at ho ⊢
 rw [← text_of_same h];simp only [Bool.and_eq_true] at ho ⊢;refine ⟨ho.1,?_⟩;have ho2:=ho.2;simp only [sameP,Bool.and_eq_true] at h;have h3:=h.2.2;clear ho h;induction f1 generalizing f2 with
 |nil=>
  cases f2 with
  |nil=>rfl
  |cons b s=>simp [eqAll] at h3
 |cons a r ih=>
  cases f2 with
  |nil=>simp [eqAll] at h3
  |cons b s=>
   simp only [eqAll,Bool.and_eq_true] at h3;simp only [List.all_cons,Bool.and_eq_true] at ho2 ⊢;have hs:=h3.1;simp only [sameF,Bool.and_eq_true] at hs;rw [← lsK_same _ _ hs.2,← lsW_same _ _ hs.2];exact ⟨ho2.1,ih ho2.2 h3.2⟩
theorem Text_same {v1 l1 v2 l2:List De6} {f1 f2:List Fn6} (h:sameP v1 l1 f1 v2 l2 f2=true) (ht:parse_Text.f v1 l1 f1=some ⟨(textL v1 l1 f1).toArray⟩):parse_Text.f v2 l2 f2=some ⟨(textL v1 l1 f1).toArray⟩:=by
 unfold parse_Text.f at ht ⊢
 split at ht
 ·rename_i ho
  rw [if_pos (textOk_same h ho),text_of_same h]
 ·cases ht
theorem blanks_l0 (a2:Int) (s:List UInt8) (hs:s.length≤6000) (W:Nat) (hW:a2 % 7=(W:Int)) (r:Bool)
  (hend:EvS (fun k=>deadboltlaw6_ParseBlanks.l0 k a2 ⟨s.toArray⟩ ⟨(ins W 0 s).toArray⟩ (s.length:Int)) r):EvS (fun k=>deadboltlaw6_ParseBlanks.l0 k a2 ⟨s.toArray⟩ ⟨#[]⟩ 0) r:=by
 have hW7:W<7:=by omega
 have hsz:(⟨s.toArray⟩:ByteArray).size=s.length:=rfl;have H: ∀ (m i:Nat) (acc:ByteArray),s.length - i=m→i≤s.length→acc.data.toList++ins W i (s.drop i)=ins W 0 s→acc.size≤3 * i→EvS (fun k=>deadboltlaw6_ParseBlanks.l0 k a2 ⟨s.toArray⟩ acc (i:Int)) r:=by
  intro m;induction m with
  |zero=>
   intro i acc hm hi ha _;obtain rfl:i=s.length:=by omega
   have:acc=⟨(ins W 0 s).toArray⟩:=ba_ext (by rw [← ha,List.drop_length];simp [ins]);rw [this];exact hend
  |succ m ih=>
   intro i acc hm hi ha hz;have hlt:i<s.length:=by omega
   have hi6:i≤1000000:=by omega
   have e1:((i:Int)).toNat=i:=by omega
   have e2:((i+1:Nat):Int).toNat=i+1:=by omega
   have hex:(⟨s.toArray⟩:ByteArray).extract i (i+1)=⟨[s[i]].toArray⟩:=by
    rw [extract_mk];show (⟨((s.drop i).take 1).toArray⟩:ByteArray)=_
    rw [List.drop_eq_getElem_cons hlt];rfl
   have hbt:bt (⟨s.toArray⟩:ByteArray) (i:Int)=(s[i].toNat:Int):=by
    unfold bt
    rw [dif_pos (show ((i:Int)).toNat<(⟨s.toArray⟩:ByteArray).size by rw [hsz];omega)];simp only [Int.toNat_natCast];rfl
   have e3:(⟨[s[i]].toArray⟩:ByteArray).size=1:=rfl;have e4:(⟨#[10,9]⟩:ByteArray).size=2:=rfl;rw [List.drop_eq_getElem_cons hlt,ins] at ha;refine EvS.succ ?_
   simp only [deadboltlaw6_ParseBlanks.l0];rw [w64_1 i hi6,e1,e2,hex,hbt];refine EvS.if_pos (by omega) (EvS.if_pos (by omega) (EvS.if_pos (by omega) (EvS.if_pos (by omega) (EvS.if_pos (by omega) ?_))));have plain: ¬ (s[i]=32∧(i+W) % 7=0)→EvS (fun k=>deadboltlaw6_ParseBlanks.l0 k a2 ⟨s.toArray⟩ (acc++⟨[s[i]].toArray⟩) ((i+1:Nat):Int)) r:=by
    intro hn;rw [if_neg hn] at ha;refine ih (i+1) _ (by omega) (by omega) (by rw [← ha,app_toList,List.append_assoc]) (by rw [ByteArray.size_append];omega)
   by_cases h32:s[i]=32
   ·refine EvS.if_pos (by rw [h32];rfl) (EvS.bind1 (within6_f a2 7 (by decide) (by decide)) ?_);rw [hW,w64 (n:=(i:Int)+(W:Int)) (by omega)];by_cases h7:(i+W) % 7=0
    ·rw [if_pos ⟨h32,h7⟩] at ha;refine EvS.if_pos (by rw [Int.tmod_eq_emod_of_nonneg (by omega)];omega) (EvS.if_pos (by rw [ByteArray.size_append];omega) ?_);refine ih (i+1) _ (by omega) (by omega) ?_ (by rw [ByteArray.size_append,ByteArray.size_append];omega)
     rw [← ha,app_toList,app_toList];simp only [List.append_assoc];rfl
    ·exact EvS.if_neg (by rw [Int.tmod_eq_emod_of_nonneg (by omega)];omega) (plain fun e=>h7 e.2)
   ·refine EvS.if_neg (fun e=>h32 ?_) (plain fun e=>h32 e.1);have h9:s[i].toNat=32:=by omega
    exact UInt8.toNat_inj.1 (by rw [h9];rfl)
 exact H s.length 0 ⟨#[]⟩ (by omega) (by omega) (by rw [List.drop_zero];rfl) (by decide)
theorem ParseBlanks (a b:List Rw6) (n:Int): ∃ k,deadboltlaw6_ParseBlanks.f k a b n=some true:=by
 refine EvS.exists_ ?_
 obtain ⟨ra,ea,ha⟩:=Few_ev a;obtain ⟨rb,eb,hb⟩:=Few_ev b;have out:EvS (fun k=>deadboltlaw6_ParseBlanks.j0 k a b n true) true:=by
  refine EvS.succ ?_
  simp only [deadboltlaw6_ParseBlanks.j0];exact EvS.if_pos (by trivial) (.some_ _)
 unfold deadboltlaw6_ParseBlanks.f
 refine EvS.bind1 known6 (EvS.if_pos rfl (EvS.bind ea ?_));cases ra with
 |false=>exact EvS.if_neg (by decide) out
 |true=>
  refine EvS.if_pos rfl (EvS.bind eb ?_);cases rb with
  |false=>exact out
  |true=>
   obtain ⟨a1,a2⟩:=ha rfl;obtain ⟨b1,b2⟩:=hb rfl;have h:Few4 a b [] []:=⟨a1,a2,b1,b2,by decide,by decide,by decide,by decide⟩;refine EvS.succ ?_
   simp only [deadboltlaw6_ParseBlanks.j0];refine EvS.if_neg (by decide) (EvS.bind (h.Prog 1) (EvS.bind (h.rText 1) ?_));obtain ⟨W,hW⟩: ∃ W:Nat,n % 7=(W:Int):=⟨(n % 7).toNat,by omega⟩;refine blanks_l0 n _ (h.text 1) W hW true ?_
   have hT:=h.Text 1;refine EvS.succ ?_
   simp only [deadboltlaw6_ParseBlanks.l0];have hsz: ∀ l:List UInt8,(⟨l.toArray⟩:ByteArray).size=l.length:=fun _=>rfl
   have hlen:=ins_len W (textL prV (prL 1) (prF a b [] [] 1)) 0;refine EvS.if_neg (by rw [hsz];omega) ?_
   have hok:=progPs_ok prV_ok (prL_ok 1) (h.wfF 1);have htx:ins W 0 (textL prV (prL 1) (prF a b [] [] 1))=ptext (insP W 0 (progPs prV (prL 1) (prF a b [] [] 1))):=by rw [insP_text W _ 0 hok,← textL_ps]
   by_cases hs:(ins W 0 (textL prV (prL 1) (prF a b [] [] 1))).length>2000
   ·have h2:=parse_long (s:=⟨(ins W 0 (textL prV (prL 1) (prF a b [] [] 1))).toArray⟩) hs;by_cases hs1:(textL prV (prL 1) (prF a b [] [] 1)).length>2000
    ·exact EvS.bind1 (parse_long (s:=⟨(textL prV (prL 1) (prF a b [] [] 1)).toArray⟩) hs1) (EvS.bind1 h2 (EvS.if_pos (by rw [hsz];omega) (.some_ _)))
    ·obtain ⟨vs',ls',fs',h1,_⟩:=parse_text prV_ok (prL_ok 1) (h.wfF 1) (by omega);exact EvS.bind1 h1 (EvS.bind1 h2 (EvS.if_pos (by rw [hsz];omega) (.some_ _)))
   ·obtain ⟨v1,l1,f1,p1,s1⟩:=parse_text prV_ok (prL_ok 1) (h.wfF 1) (by omega);obtain ⟨v2,l2,f2,_,p2,s2⟩:=parse_ps prV_ok (prL_ok 1) (h.wfF 1) (insP W 0 (progPs prV (prL 1) (prF a b [] [] 1))) (insP_ok W _ 0 hok) (by rw [insP_fst,progPs_fst]) (by rw [← htx];omega);rw [← htx] at p2;have hs12:parse_Same.f v1 l1 f1 v2 l2 f2=some true:=by
     unfold parse_Same.f
     rw [sameP_euc (sameP_symm s1) (sameP_symm s2)]
    refine EvS.bind1 p1 (EvS.bind1 p2 (EvS.if_neg (by rw [hsz];omega) (EvS.if_pos rfl (EvS.if_pos rfl (EvS.bind1 hs12 (EvS.if_pos rfl (EvS.bind1 (Text_same s1 hT) (EvS.bind1 (Text_same s2 hT) ?_))))))));simp only [beq_self_eq_true];exact .some_ _
end Go.Proofs.YtkmafndljelopaaDoor.Pure
