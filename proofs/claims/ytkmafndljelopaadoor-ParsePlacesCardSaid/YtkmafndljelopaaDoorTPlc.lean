/- Where what was read stands: each statement, each function begins in the text where its word stands. No program in sight. -/
import Derived.Test.YtkmafndljelopaaDoorTTx6
import Derived.Test.YtkmafndljelopaaDoorTSt
namespace Go.Proofs.YtkmafndljelopaaDoor.Q
open Go.RowKit Go.Proofs.YtkmafndljelopaaDoorW.PrintWords Go.Proofs.YtkmafndljelopaaDoorW.PrintLast Go.Proofs.YtkmafndljelopaaDoorW.PrintMore Go.Proofs.YtkmafndljelopaaDoor.Lx
set_option linter.unusedVariables false
set_option linter.unusedSimpArgs false
def AtW (s:ByteArray) (a:Int) (w:ByteArray):Prop:=(0≤a∧a≤1000000000)∧a+(w.size:Int)≤(s.size:Int)∧(s.extract a.toNat (a+(w.size:Int)).toNat).toList=w.toList
theorem AtW_mk {s w:ByteArray} {P R:List UInt8} (h:s.data.toList=P++(w.data.toList++R)) (hs:s.size≤1000000000):AtW s (P.length:Int) w:=by
 have hl:=congrArg List.length h;rw [← ba_len] at hl;simp only [List.length_append,← ba_len] at hl;refine ⟨⟨by omega,by omega⟩,by omega,?_⟩;have e1:((P.length:Int)).toNat=P.length:=by omega
 have e2:((P.length:Int)+(w.size:Int)).toNat=P.length+w.size:=by omega
 rw [e1,e2,extract_mk,ByteArray.toList_eq,ByteArray.toList_eq];show (s.data.toList.drop P.length).take w.size=w.data.toList
 rw [h,List.drop_left,ba_len w,List.take_left]
def spB:ByteArray:=⟨#[32]⟩
def lead (w:ByteArray):Prop:=(1≤kindN w∧kindN w≤6)∨w=funcT
def Good (s:ByteArray):List Tok6→Prop
 |[]=>True
 |t::r=>AtW s t.f1 t.f2∧(∀ t'∈r.head?,t.f1<t'.f1∧(lead t.f2→t'.f0=1→AtW s t.f1 ((t.f2++spB)++t'.f2)))∧Good s r
theorem Good_suf {s:ByteArray} : ∀ {l r:List Tok6},r<:+l→Good s l→Good s r
 |[],r,h,_=>by rw [List.suffix_nil.1 h];trivial
 |t::l,r,h,hg=>by
  rcases List.suffix_cons_iff.1 h with rfl|h
  ·exact hg
  ·exact Good_suf h hg.2.2
theorem Good_lt {s:ByteArray} : ∀ {t:Tok6} {r:List Tok6},Good s (t::r)→ ∀ t'∈r,t.f1<t'.f1
 |t,[],_,t',h=>by cases h
 |t,u::r,hg,t',h=>by
  have h1:=(hg.2.1 u rfl).1;rcases List.mem_cons.1 h with rfl|h
  ·exact h1
  ·have:=Good_lt hg.2.2 t' h;omega
theorem ixFrom_get (s:List UInt8): ∀ (l:List (List UInt8)) (i:Nat),0≤ixFrom s l i→(i:Int)≤ixFrom s l i∧s=l.getD (ixFrom s l i - i).toNat []
 |[],i,h=>by simp only [ixFrom] at h;omega
 |c::r,i,h=>by
  simp only [ixFrom] at h ⊢;split at h
  ·rename_i e
   rw [if_pos e];exact ⟨by omega,by rw [show ((i:Int) - (i:Int)).toNat=0 by omega];exact e⟩
  ·rename_i e
   rw [if_neg e];obtain ⟨h1,h2⟩:=ixFrom_get s r (i+1) h;refine ⟨by omega,?_⟩;have e3:(ixFrom s r (i+1) - (i:Int)).toNat=(ixFrom s r (i+1) - ((i+1:Nat):Int)).toNat+1:=by omega
   rw [e3,List.getD_cons_succ];exact h2
theorem kind_word {w:ByteArray} (h:1≤kindN w):w=verbT (kindN w):=by
 have h8:=(kindN_le w).2;obtain ⟨h1,h2⟩:=ixFrom_get w.data.toList verbsC 0 (by unfold kindN at h;omega);have e:ixFrom w.data.toList verbsC 0=kindN w - 1:=by unfold kindN;omega
 rw [e] at h2;apply ba_ext;rw [h2];generalize kindN w=k at h h8;obtain ⟨n,rfl⟩: ∃ n:Nat,k=n:=⟨k.toNat,by omega⟩;have hn:n<9:=by omega
 have hp:1≤n:=by omega
 clear h h8 h1 h2 e;revert n
 decide+kernel
theorem name_size {w:ByteArray} (h:nameB w.data.toList=true):w.size≤12∧w.toList≠ []:=by
 rw [ba_len,ByteArray.toList_eq];generalize w.data.toList=l at h ⊢;cases l with
 |nil=>simp [nameB] at h
 |cons c r=>
  simp only [nameB,Bool.and_eq_true,decide_eq_true_eq] at h;have:=h.1.1.1;exact ⟨by simp only [List.length_cons];omega,by simp⟩
theorem stmtW_at {s:ByteArray} {e:Int} {bl:List Tok6→Out (List St6)} (hb: ∀ l A r,bl l= .ok A r→Good s l→stL s A∧r<:+l)
  {l:List Tok6} {x:St6} {r:List Tok6} (h:stmtW e bl l= .ok x r) (hg:Good s l):stS s x∧ ∃ t q,l=t::q∧x.f1=t.f1:=by
 cases l with
 |nil=>
  unfold stmtW at h
  rw [if_pos (show (nx [] e).f0≠1 from (show (0:Int)≠1 by decide))] at h;cases h
 |cons t q=>
  have hn:nx (t::q) e=t:=rfl;unfold stmtW at h
  rw [hn] at h;have hk8:=(kindN_le t.f2).2;have hk0:=(kindN_le t.f2).1;obtain ⟨⟨p0,p1⟩,p2,p3⟩:=hg.1;split at h
  ·cases h
  split at h
  ·cases h
  rename_i hk
  have hk1:1≤kindN t.f2:=by omega
  have hw:=kind_word hk1;have hempty:wordT (kindN t.f2) ⟨#[]⟩=t.f2:=by
   unfold wordT
   rw [if_pos (by rw [ByteArray.toList_eq])];exact hw.symm
  split at h
  ·rename_i h6
   split at h
   ·rename_i hnm
    injection h with h1 h2
    cases q with
    |nil=>exact absurd hnm.1 (by show (0:Int)≠1;decide)
    |cons t2 q=>
     have hn2:nx (t::t2::q).tail e=t2:=rfl;rw [hn2] at hnm h1;subst h1;obtain ⟨n1,n2⟩:=name_size hnm.2;have h2w:=(hg.2.1 t2 rfl).2 (.inl ⟨hk1,h6⟩) hnm.1;have hword:wordT (kindN t.f2) t2.f2=(t.f2++spB)++t2.f2:=by
      unfold wordT
      rw [if_neg n2,← hw];rfl
     rw [stS_eq];simp only [hword];obtain ⟨⟨r0,r1⟩,r2,r3⟩:=h2w;exact ⟨⟨⟨hk1,hk8⟩,by omega,r0,r1,r2,r3,trivial,trivial⟩,t,t2::q,rfl,rfl⟩
   ·cases h
  ·split at h
   ·cases h
   ·rename_i A r1 hA
    obtain ⟨a1,a2⟩:=hb _ _ _ hA hg.2.2;have hgr:Good s r1:=Good_suf a2 hg.2.2;have fin: ∀ B:List St6,stL s B→kindN t.f2=7→stS s ⟨7,t.f1,⟨#[]⟩,A,B⟩:=by
     intro B hB h7;rw [stS_eq];rw [h7] at hempty;simp only [hempty];exact ⟨⟨by decide,by decide⟩,by decide,p0,p1,p2,p3,a1,hB⟩
    split at h
    ·rename_i h8
     injection h with h1 h2
     subst h1;refine ⟨?_,t,q,rfl,rfl⟩;rw [stS_eq];rw [h8] at hempty;simp only [hempty];exact ⟨⟨by decide,by decide⟩,by decide,p0,p1,p2,p3,a1,trivial⟩
    ·have h7:kindN t.f2=7:=by omega
     split at h
     ·split at h
      ·cases h
      ·rename_i B r2 hB
       injection h with h1 h2
       subst h1;have:=(hb _ _ _ hB (Good_suf (List.tail_suffix _) hgr)).1;exact ⟨fin B this h7,t,q,rfl,rfl⟩
     ·injection h with h1 h2
      subst h1;exact ⟨fin [] trivial h7,t,q,rfl,rfl⟩
theorem stmtsP_at {s:ByteArray} {e:Int} : ∀ (n:Nat) {deep:Int} {l:List Tok6} {A:List St6} {r:List Tok6},stmtsP e n deep l= .ok A r→Good s l→stL s A∧ ∀ y∈A.head?,∃ t q,l=t::q∧y.f1=t.f1
 |0,_,_,_,_,h,_=>by simp [stmtsP] at h
 |n+1,deep,l,A,r,h,hg=>by
  simp only [stmtsP] at h;split at h
  ·injection h with h1 h2
   subst h1;exact ⟨trivial,fun y hy=>by simp at hy⟩
  ·cases h1:stmtW e (blockW e (stmtsP e n) deep) l with
   |bad a b=>rw [h1] at h;cases h
   |ok x r1=>
    rw [h1] at h;simp only [thenS] at h;split at h
    ·cases h
    ·rename_i ss r2 h2
     injection h with h3 h4
     subst h3;have hsuf:=stmtW_suf (fun l A r hb=>blockW_suf (fun d l A r hh=>stmtsP_suf n hh) hb) h1;obtain ⟨hx,t,q,rfl,hxt⟩:=stmtW_at (s:=s) (fun l A r hb hgl=>by
      refine ⟨?_,blockW_suf (fun d l A r hh=>stmtsP_suf n hh) hb⟩;unfold blockW at hb
      split at hb
      ·cases hb
      split at hb
      ·cases hb
      exact (stmtsP_at n hb (Good_suf (List.tail_suffix _) hgl)).1) h1 hg
     obtain ⟨hss,hhead⟩:=stmtsP_at n h2 (Good_suf (hsuf.trans (List.tail_suffix _)) hg);refine ⟨?_,fun y hy=>?_⟩
     ·simp only [stL];refine ⟨hx,fun y hy=>?_,hss⟩;obtain ⟨t2,q2,hr1,hy2⟩:=hhead y hy;rw [hxt,hy2];refine Good_lt hg t2 ?_
      have:r1<:+q:=hsuf;exact this.subset (by rw [hr1];simp)
     ·simp only [List.head?_cons,Option.mem_def,Option.some.injEq] at hy;subst hy;exact ⟨t,q,rfl,hxt⟩
def FOk (s:ByteArray) (f:Fn6):Prop:=AtW s f.f1 ((funcT++spB)++f.f0)∧f.f0.size≤12∧stL s f.f2
theorem declW_at {s:ByteArray} {e:Int} {N:Nat} {l r:List Tok6} {p p':P6} (h:declW e (blockW e (stmtsP e N) 0) l p= .ok p' r) (hg:Good s l) (hp: ∀ f∈p.fs,FOk s f):(∀ f∈p'.fs,FOk s f)∧r<:+l:=by
 have nm: ∀ {α:Type} {k:ByteArray→List Tok6→Out α} {q:α},nameW e l.tail k= .ok q r→ ∃ t t2 r2,l=t::t2::r2∧t2.f0=1∧nameB t2.f2.data.toList=true∧k t2.f2 r2= .ok q r:=by
  intro α k q h;unfold nameW at h
  split at h
  ·rename_i hn
   cases l with
   |nil=>exact absurd hn.1 (by show (0:Int)≠1;decide)
   |cons t l=>
    cases l with
    |nil=>exact absurd hn.1 (by show (0:Int)≠1;decide)
    |cons t2 r2=>exact ⟨t,t2,r2,rfl,hn.1,hn.2,h⟩
  ·cases h
 unfold declW at h
 split at h
 ·obtain ⟨t,t2,r2,rfl,_,_,hk⟩:=nm h;injection hk with h1 h2
  subst h1 h2;exact ⟨hp,⟨[t,t2],rfl⟩⟩
 split at h
 ·obtain ⟨t,t2,r2,rfl,_,_,hk⟩:=nm h;injection hk with h1 h2
  subst h1 h2;exact ⟨hp,⟨[t,t2],rfl⟩⟩
 split at h
 ·rename_i hf
  obtain ⟨t,t2,r2,rfl,h1,hnm,hk⟩:=nm h;split at hk
  ·cases hk
  ·rename_i b r3 hb
   injection hk with h3 h4
   subst h3 h4;have hsuf:=blockW_suf (fun d l A r hh=>stmtsP_suf N hh) hb;refine ⟨?_,hsuf.trans ⟨[t,t2],rfl⟩⟩;intro f hm;rcases List.mem_append.1 hm with hm|hm
   ·exact hp f hm
   ·simp only [List.mem_singleton] at hm;subst hm;have hf':t.f2=funcT:=hf;have:=(hg.2.1 t2 rfl).2 (.inr hf') h1;rw [hf'] at this;refine ⟨this,(name_size hnm).1,?_⟩;unfold blockW at hb
    split at hb
    ·cases hb
    split at hb
    ·cases hb
    exact (stmtsP_at N hb (Good_suf (List.tail_suffix _) hg.2.2.2.2)).1
 ·cases h
theorem progP_at {s:ByteArray} {e:Int} {N:Nat} : ∀ (n:Nat) (l r:List Tok6) (p p':P6),progP e N n l p= .ok p' r→Good s l→(∀ f∈p.fs,FOk s f)→ ∀ f∈p'.fs,FOk s f
 |0,l,r,p,p',h,_,_=>by simp [progP] at h
 |n+1,[],r,p,p',h,_,hp=>by
  simp only [progP] at h;injection h with h1 h2
  subst h1;exact hp
 |n+1,t::l,r,p,p',h,hg,hp=>by
  simp only [progP] at h;split at h
  ·cases h
  ·rename_i q r1 hd
   obtain ⟨h1,h2⟩:=declW_at hd hg hp;exact progP_at n r1 r q p' h (Good_suf h2 hg) h1
theorem name_lead {w:ByteArray} (h:nameB w.data.toList=true): ¬ lead w:=by
 have hv: ∀ k:Nat,k<9→1≤k→nameB (verbT k).data.toList=false:=by decide+kernel
 rintro (⟨h1,h6⟩|rfl)
 ·have h8:=(kindN_le w).2;rw [kind_word h1] at h;have:=hv (kindN w).toNat (by omega) (by omega);rw [show (((kindN w).toNat:Nat):Int)=kindN w by omega,h] at this;cases this
 ·exact absurd h (by decide)
theorem pcs_lead: ∀ (ws:List ByteArray) (z:List UInt8),(∀ w∈ws.getLast?,¬ lead w)→ ∀ p∈pcs ws z,lead p.1→p.2= [32]
 |[],_,_,p,h,_=>by simp [pcs] at h
 |[w],z,hl,p,h,hp=>by
  simp only [pcs,List.mem_singleton] at h;subst h;exact absurd hp (hl w rfl)
 |w::v::r,z,hl,p,h,hp=>by
  simp only [pcs,List.mem_cons] at h;rcases h with rfl|h
  ·rfl
  ·exact pcs_lead (v::r) z (fun x hx=>hl x (by simpa using hx)) p (by simpa using h) hp
theorem progPs_lead {vs ls:List De6} {fs:List Fn6} (hv:wfD vs) (hl:wfD ls): ∀ p∈progPs vs ls fs,lead p.1→p.2= [32]:=by
 intro p hp;simp only [progPs,dP,fP,List.mem_append,List.mem_flatMap] at hp;rcases hp with ⟨d,hd,h⟩|⟨d,hd,h⟩|⟨f,hd,h⟩
 ·refine pcs_lead _ _ (fun w hw=>?_) p h;simp at hw
  subst hw;exact name_lead (hv d hd)
 ·refine pcs_lead _ _ (fun w hw=>?_) p h;simp at hw
  subst hw;exact name_lead (hl d hd)
 ·refine pcs_lead _ _ (fun w hw=>?_) p h;have:(funcT::f.f0::blW f.f2).getLast? =some closeB:=by
   rw [show funcT::f.f0::blW f.f2=(funcT::f.f0::openB::lsW f.f2)++ [closeB] by simp [blW]];exact List.getLast?_concat
  rw [this] at hw;simp at hw
  subst hw;rintro (⟨h1,h2⟩|h1)
  ·exact absurd h1 (by decide)
  ·exact absurd h1 (by decide)
theorem wTk_txt (w:ByteArray) (i:Nat):(mkTok (wTk w i)).f1=(i:Int)∧((mkTok (wTk w i)).f2=⟨#[]⟩∨(mkTok (wTk w i)).f2=w)∧((mkTok (wTk w i)).f0=1→(mkTok (wTk w i)).f2=w):=by
 unfold wTk
 split
 ·exact ⟨rfl,.inl rfl,fun h=>absurd h (by show (2:Int)≠1;decide)⟩
 split
 ·exact ⟨rfl,.inl rfl,fun h=>absurd h (by show (3:Int)≠1;decide)⟩
 ·exact ⟨rfl,.inr rfl,fun _=>rfl⟩
theorem empty_lead: ¬ lead ⟨#[]⟩:=by
 rintro (⟨h1,h2⟩|h1)
 ·exact absurd h1 (by decide)
 ·exact absurd h1 (by decide)
theorem Good_ptoks {s:ByteArray} (hs:s.size≤1000000000): ∀ (ps:List (ByteArray×List UInt8)) (P:List UInt8),s.data.toList=P++ptext ps→(∀ p∈ps,pieceOk p)→(∀ p∈ps,lead p.1→p.2= [32])→Good s ((ptoks P.length ps).map mkTok)
 |[],P,_,_,_=>trivial
 |p::r,P,he,hp,hl=>by
  have e:ptext (p::r)=p.1.data.toList++(p.2++ptext r):=by simp [ptext]
  rw [e] at he;have hrec:=Good_ptoks hs r (P++(p.1.data.toList++p.2)) (by rw [he];simp only [List.append_assoc]) (fun x hx=>hp x (by simp [hx])) (fun x hx=>hl x (by simp [hx]));have hlen:(P++(p.1.data.toList++p.2)).length=P.length+p.1.data.toList.length+p.2.length:=by simp only [List.length_append];omega
  rw [hlen] at hrec;have hat:AtW s (P.length:Int) p.1:=AtW_mk he hs;have hat0:AtW s (P.length:Int) ⟨#[]⟩:=AtW_mk (R:=p.1.data.toList++(p.2++ptext r)) (by rw [he];rfl) hs;obtain ⟨q1,q2,q3⟩:=wTk_txt p.1 P.length;have hpos:0<p.2.length:=List.length_pos_iff.2 (hp p (by simp)).2.1;simp only [ptoks,List.map_cons,Good];refine ⟨?_,?_,hrec⟩
  ·rw [q1];rcases q2 with q2|q2<;>rw [q2]
   ·exact hat0
   ·exact hat
  ·intro t' ht';cases r with
   |nil=>simp [ptoks] at ht'
   |cons p' r'=>
    simp only [ptoks,List.map_cons,List.head?_cons,Option.mem_def,Option.some.injEq] at ht';subst ht';obtain ⟨u1,u2,u3⟩:=wTk_txt p'.1 (P.length+p.1.data.toList.length+p.2.length);rw [q1,u1];refine ⟨by omega,fun hle h1=>?_⟩;rw [u3 h1];rcases q2 with q2|q2
    ·rw [q2] at hle;exact absurd hle empty_lead
    ·rw [q2] at hle ⊢;have hsp:=hl p (by simp) hle;refine AtW_mk (R:=p'.2++ptext r') ?_ hs;rw [he,hsp,app_toList,app_toList];have e':ptext (p'::r')=p'.1.data.toList++(p'.2++ptext r'):=by simp [ptext]
     rw [e'];simp only [List.append_assoc];rfl
theorem parse_at {vs ls:List De6} {fs:List Fn6} (hv:wfD vs) (hl:wfD ls) (hf:wfF fs) (hs:(textL vs ls fs).length≤2000):
  ∃ vs' ls' fs',parse_Parse.f ⟨(textL vs ls fs).toArray⟩=some (vs',ls',fs',0,0)∧sameP vs ls fs vs' ls' fs'=true∧ ∀ f∈fs',FOk ⟨(textL vs ls fs).toArray⟩ f:=by
 obtain ⟨a,b,c,h0,h1,h2⟩:=parse_ps hv hl hf (progPs vs ls fs) (progPs_ok hv hl hf) (progPs_fst vs ls fs) (by rw [← textL_ps];exact hs);refine ⟨a,b,c,by rw [textL_ps];exact h1,h2,?_⟩;rw [textL_ps] at hs ⊢;have hg:=Good_ptoks (s:=⟨(ptext (progPs vs ls fs)).toArray⟩) (by show (ptext (progPs vs ls fs)).length≤_;omega) (progPs vs ls fs) [] rfl (progPs_ok hv hl hf) (progPs_lead hv hl);exact progP_at _ _ _ _ _ h0 hg (fun f hm=>by cases hm)
end Go.Proofs.YtkmafndljelopaaDoor.Q
