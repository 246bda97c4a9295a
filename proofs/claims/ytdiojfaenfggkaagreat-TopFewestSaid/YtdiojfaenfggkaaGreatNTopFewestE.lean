/- Functions of the given program, each a Lean function and the walk that shows it. -/
import Derived.Test.YtdiojfaenfggkaaGreatNTopFewestD
import Derived.Outline
import Derived.Deep.RegionHeld3
import Derived.Deep.DeepCutAuto
import Derived.Deep.QuietTactic
import Derived.BigQuiet
import Derived.IntWalk
import Derived.Lib.SlBytesConst
set_option maxHeartbeats 8000000
set_option maxRecDepth 100000
namespace Go.Proofs.YtdiojfaenfggkaaGreat.PTopNear
open Go.RowKit Go.Proofs.YtdiojfaenfggkaaGreatW.PrintWords Go.Proofs.YtdiojfaenfggkaaGreatW.PrintLast Go.Proofs.YtdiojfaenfggkaaGreatW.PrintMore
attribute [local go_sem] qW qU Zg Zf qK qJ qV qT
set_option linter.unusedVariables false
set_option linter.unusedSimpArgs false
def nextN(qs:List (Nat×Nat))(k:Nat):Nat×Nat:=if k=0 then(0,0)else((qs.getD (k-1) (0,0)).1+1,(qs.getD (k-1) (0,0)).2+1)
theorem nextN_le{a b:List Int}{qs:List (Nat×Nat)}(h:GoodN a b qs){k:Nat}(hk:k<qs.length):(nextN qs k).1<=qs[k].1/\(nextN qs k).2<=qs[k].2:=by
 have:=aheadP_lt h hk;unfold aheadP at this;unfold nextN;split
 ·omega
 ·next h0=>rw[if_neg h0]at this;simp only at this ⊢;omega
theorem nextN_max{a b:List Int}{qs:List (Nat×Nat)}(h:GoodN a b qs){k:Nat}(hk:k<=qs.length):(nextN qs k).1<=a.length/\(nextN qs k).2<=b.length:=by
 unfold nextN;split
 ·simp
 ·have:=h.at_ (qs.getD (k-1) (0,0)) (by rw[List.getD_eq_getElem?_getD,List.getElem?_eq_getElem (by omega)];exact List.getElem_mem _)
  simp only;omega
theorem nextN_succ(qs:List (Nat×Nat)){k:Nat}(hk:k<qs.length):nextN qs (k+1)=(qs[k].1+1,qs[k].2+1):=by
 unfold nextN;rw[if_neg (by omega)];simp[List.getD_eq_getElem?_getD,hk]
theorem alloc3(w:World)(o0 o1 o2:Obj):(((w.alloc o0).alloc o1).alloc o2).heap[w.heap.size]?=some o0/\(((w.alloc o0).alloc o1).alloc o2).heap[w.heap.size+1]?=some o1/\(((w.alloc o0).alloc o1).alloc o2).heap[w.heap.size+1+1]?=some o2:=by
 refine⟨zl (zl (qv _ _) _) _,zl ?_ _,?_⟩
 ·have:=qv (w.alloc o0) o1
  rwa [Z2]at this
 ·have:=qv ((w.alloc o0).alloc o1) o2
  rwa [Z2,Z2]at this
theorem edit_Make.calls{e0 e1:Nat}(A B C:Option Addr)(ca cb cc:Nat)(la lb:List (List Int))(na nb:List Int)(nk:Int)(qs:List (Nat×Nat))(w:World)(hr0:Kd.C (Kd.slice e0 (Kd.int .u8)) w A la.length la)(hc0:la.length<=ca)(hr1:Kd.C (Kd.slice e1 (Kd.int .u8)) w B lb.length lb)(hc1:lb.length<=cb)(hr2:Kd.C k54 w C qs.length (qs.map toP))
 (hn:Zn.f la lb=some (na,nb,nk)) (hg:GoodN na nb qs) (hla:la.length<=1000) (hlb:lb.length<=1000) (hla':na.length=la.length) (hlb':nb.length=lb.length) (hq:qs.length<=1000) (hta:∀ t,t∈la->t.length<140737488355328) (htb:∀ t,t∈lb->t.length<140737488355328) :
 Calls Tryz.prog 42 #[.slice A la.length ca,.slice B lb.length cb,.slice C qs.length cc] w fun e w'=>∃ v n xs,e=.returned (.tuple #[v,.int .i64 0])/\w'.ownsRow w.heap.size 99 3 v n xs/\Below w.heap.size w w':=by
 obtain⟨_,_,vs,a1,a2⟩:=vals_of_C hr0;obtain⟨_,_,us,b1,b2⟩:=vals_of_C hr1;have HVA:=Qk (fun W (hb:Below w.heap.size w W)=>a1.below hb);have HVB:=Qk (fun W (hb:Below w.heap.size w W)=>b1.below hb);have HCA:=Qk (fun W (hb:Below w.heap.size w W)=>a2.below hb);have HCB:=Qk (fun W (hb:Below w.heap.size w W)=>b2.below hb);have HTA:=Qk hta;have HTB:=Qk htb;have HNT:=Qk (fun W (hb:Below w.heap.size w W)=>Zn.calls A ca la B cb lb na nb nk W (Kd.C_below hr0 hb) (Kd.C_below hr1 hb) hn);have HG:=Qk hg;have H2:=Qk hr2;have eA:vs.length=la.length:=a1.1;have eB:us.length=lb.length:=b1.1;have HEA:=Qk hla';have HEB:=Qk hlb';clear a1 a2 b1 b2 hr0 hr1 hn hg hr2 hta htb hla' hlb';rw[← eA]at hc0 hla HNT HEA ⊢;rw[← eB]at hc1 hlb HNT HEB ⊢;clear eA eB;go_enter Tryz.func42,Tryz.ntmps42;go_upto_region 6 with(first
  |(go_at_call 80;((with_reducible refine(HNT.out _ (za (za (Below.refl w.heap.size w) _) _)).mono ?_);rintro e w1 ⟨x,y,rfl,hx,hy,hb⟩;obtain⟨Ax,cx,rfl⟩:=Kd.R_slice hx;obtain⟨Ay,cy,rfl⟩:=Kd.R_slice hy;have HX:=Qk ((Kd.R_reads' hx).2.2);have HY:=Qk ((Kd.R_reads' hy).2.2);have HCX:=Qk ((Kd.R_reads' hx).2.1);have HCY:=Qk ((Kd.R_reads' hy).2.1);have HB1:=Qk (zi (za (za (Below.refl w.heap.size w) _) _) hb);have KA:=Qk (zy (zl (qv w (.cells #[.slice A vs.length ca] 60)) (.cells #[.slice B us.length cb] 60)) hb);have KB:=Qk (zy (qv (w.alloc (.cells #[.slice A vs.length ca] 60)) (.cells #[.slice B us.length cb] 60)) hb);clear hx hy hb))
  |(go_at_call 77;((with_reducible refine(pairs_Good.good Ax Ay C _ _ cc na nb qs _ HX.out HCX.out HY.out HCY.out (Kd.C_below H2.out HB1.out) HG.out hq (by have:=HEA.out;omega) (by have:=HEB.out;omega)).mono ?_);rintro e w2 ⟨rfl,hb⟩;have HB2:=Qk (zi HB1.out hb);have n1_:=Qk (zy KA.out hb);have n2_:=Qk (zy KB.out hb);clear KA KB hb;have KA:=n1_;have KB:=n2_;clear n1_ n2_ HX HY)))
 obtain⟨k0,k1,k2⟩:=alloc3 w2 (Obj.cells #[.slice none 0 0] 33) (Obj.cells #[.int .i64 0] 3) (Obj.cells #[.int .i64 0] 3);have HMI:=Qk (show ∃ v,MI w (((w2.alloc (Obj.cells #[.slice none 0 0] 33)).alloc (Obj.cells #[.int .i64 0] 3)).alloc (Obj.cells #[.int .i64 0] 3)) (w2.heap.size+1) (w2.heap.size+1+1) w2.heap.size w.heap.size (w.heap.size+1) (.slice A vs.length ca) (.slice B us.length cb) v v (nextN qs 0).1 (nextN qs 0).2 (nextN qs 0).1 from⟨.slice none 0 0,za (za (za HB2.out _) _) _,by have:=HB2.out.size;omega,by have:=HB2.out.size;omega,HB2.out.size,by omega,k1,k2,k0,zl (zl (zl KA.out _) _) _,(by have h_:=KB.out;rw[Z2]at h_;exact zl (zl (zl h_ _) _) _),0,[],⟨by simp,.inl ⟨rfl,rfl⟩⟩,Nat.zero_le _⟩);clear k0 k1 k2 KA KB HB1 HB2 HCX HCY;generalize (((w2.alloc (Obj.cells #[.slice none 0 0] 33)).alloc (Obj.cells #[.int .i64 0] 3)).alloc (Obj.cells #[.int .i64 0] 3))=w3 at HMI ⊢;generalize w2.heap.size+1+1=pj at HMI ⊢;generalize w2.heap.size+1=pi at HMI ⊢;generalize w2.heap.size=ps at HMI ⊢;generalize w.heap.size+1=pb at HMI ⊢;generalize epa:w.heap.size=pa at HMI ⊢;have hmf:∀ (fn:Fn) (first cap:Array Value) (w:World),(Instr.makeFunc fn first cap).run Tryz.prog w=.ok (.func fn first cap) w:=fun _ _ _ _=>rfl
 go_wp2_with fail
 go_loopw [32] (fun v32 wr=>∃ k:Nat,k<=qs.length/\v32=.int .i64 k/\Aside0 (∃ v,MI w wr pi pj ps pa pb (.slice A vs.length ca) (.slice B us.length cb) v v (nextN qs k).1 (nextN qs k).2 (nextN qs k).1)) (fun v32 _=>qs.length-(intOf v32).toNat)
 case atStart=>exact⟨0,by omega,rfl,HMI⟩
 case round =>
  clear HMI;obtain⟨k,hk,rfl,HMI⟩:=hrel;obtain⟨v,hM⟩:=HMI.out;have HM:=Qk hM;clear hM HMI;by_cases hlt:k<qs.length
  ·have tk:decide ((k:Int)<(qs.length:Int))=true:=Qm (by omega)
   obtain⟨ad,rfl,hx,hy⟩:=at_T54 (Kd.C_below H2.out HM.out.B) (k:Int) (by omega) (by omega);rw[rd_T54_toP qs k hlt,Int.toNat_natCast]at hx hy;obtain⟨b1,b2,_⟩:=HG.out.at_ _ (List.getElem_mem hlt);obtain⟨l1,l2⟩:=nextN_le HG.out hlt;have HN:=Qk (nextN_succ qs hlt);have b1:=Nat.lt_of_lt_of_eq b1 HEA.out;have b2:=Nat.lt_of_lt_of_eq b2 HEB.out;generalize qs[k]=q at hx hy b1 b2 l1 l2 HN;obtain⟨x,y⟩:=q;simp only at hx hy b1 b2 l1 l2 HN;generalize nextN qs k=nk at HM l1 l2;obtain⟨i,j⟩:=nk;simp only at HM l1 l2;have g0:(0:Int)<=(k:Int):=by omega
   have g1:(k:Int)<(qs.length:Int):=by omega
   go_wp2_with (go_at_call 81;((with_reducible refine(edit_hunk.calls w _ pi pj ps pa pb A B ca cb vs us la lb v i j x y (HM.out.alloc _) HVA HVB HCA HCB HTA HTB hc0 hc1 hla hlb l1 (by omega) l2 (by omega)).mono ?_);rintro e w5 ⟨rfl,hm⟩;have HM5:=Qk hm;clear hm))
   go_roundw
   case rel=>exact⟨k+1,by omega,by go_num,⟨by rw[HN.out];exact HM5.out⟩⟩
   case measure=>simp[intOf];omega
  ·obtain rfl:k=qs.length:=by omega
   have tk:decide ((qs.length:Int)<(qs.length:Int))=false:=Qn (by omega);obtain⟨l1,l2⟩:=nextN_max HG.out (Nat.le_refl _);have l1:=Nat.le_trans l1 (Nat.le_of_eq HEA.out);have l2:=Nat.le_trans l2 (Nat.le_of_eq HEB.out);generalize nextN qs qs.length=nk at HM l1 l2;obtain⟨i,j⟩:=nk;simp only at HM l1 l2;obtain⟨cs,ci,cA,cB,cj⟩:=HM.out.cells;go_wp2_with (go_at_call 81;((with_reducible refine(edit_hunk.calls w _ pi pj ps pa pb A B ca cb vs us la lb v i j vs.length us.length HM.out HVA HVB HCA HCB HTA HTB hc0 hc1 hla hlb (by omega) (Nat.le_refl _) (by omega) (Nat.le_refl _)).mono ?_);rintro e w5 ⟨rfl,v5,hm⟩;have hc5:=hm.cells.1;have HM5:=Qk hm;clear hm))
   go_ret2;obtain⟨n,xs,h1,h2⟩:=HM5.out.O;exact⟨v5,n,xs,rfl,h1,HM5.out.B⟩
def qE:List Int->Nat
 |[]=>0
 |c::t=>if c=10 then 1 else qE t+1
def Zw:List Int->List (List Int)
 |[]=>[]
 |c::t=>if c=10 then[10]::Zw t else match Zw t with
  |[]=>[[c]]
  |l::ls=>(c::l)::ls
def ql(byLine:Bool)(b:List Int):List (List Int):=if byLine=true then Zw b else b.map fun c=>[c]
theorem lines_eq:∀ b:List Int,b≠[]->Zw b=b.take (qE b)::Zw (b.drop (qE b))
 |[],h=>absurd rfl h
 |c::t,_=>by
  by_cases e:c=10
  ·subst e;simp[Zw,qE]
  ·cases t with
   |nil=>simp[Zw,qE,e]
   |cons d t =>
    have ih:=lines_eq (d::t) (by simp);have e2:qE (c::d::t)=qE (d::t)+1:=by rw[qE,if_neg e]
    rw[Zw,if_neg e,ih,e2];simp
theorem lineEnd_le:∀ b:List Int,qE b<=b.length
 |[]=>Nat.le_refl _
 |c::t=>by
  have:=lineEnd_le t;unfold qE;split <;> simp <;> omega
theorem lineEnd_pos:∀ b:List Int,b≠[]->0<qE b
 |[],h=>absurd rfl h
 |c::t,_=>by unfold qE;split <;> omega
theorem lines_flatten:∀ b:List Int,(Zw b).flatten=b
 |[]=>rfl
 |c::t=>by
  have ih:=lines_flatten t;rw[Zw];split
  ·rename_i e;simp[ih,e]
  ·revert ih
   cases Zw t with
   |nil=>intro ih;simp at ih;simp[← ih]
   |cons l ls=>intro ih;simp at ih;simp[← ih]
theorem chars_flatten:∀ b:List Int,(b.map fun c=>[c]).flatten=b
 |[]=>rfl
 |c::t=>by simp[chars_flatten t]
theorem cutsOf_flatten(m:Bool)(b:List Int):(ql m b).flatten=b:=by
 unfold ql;split
 ·exact lines_flatten b
 ·exact chars_flatten b
theorem lines_length:∀ b:List Int,(Zw b).length<=b.length
 |[]=>Nat.le_refl _
 |c::t=>by
  have ih:=lines_length t;rw[Zw];split
  ·simp;omega
  ·revert ih
   cases Zw t with
   |nil=>intro ih;simp
   |cons l ls=>intro ih;simp at ih ⊢;omega
def u8s(b:List Int):Prop:=∀ x∈b,0<=x/\x<256
theorem u8s_drop{b:List Int}(h:u8s b)(n:Nat):u8s (b.drop n):=fun x hx=>h x (List.mem_of_mem_drop hx)
theorem u8s_take{b:List Int}(h:u8s b)(n:Nat):u8s (b.take n):=fun x hx=>h x (List.mem_of_mem_take hx)
theorem ten_iff(c:Int)(h:0<=c/\c<256):(UInt8.ofNat c.toNat == (10:Int).toNat.toUInt8)=decide (c=10):=by
 obtain⟨n,rfl⟩:=Int.eq_ofNat_of_zero_le h.1;rw[Bool.eq_iff_iff,beq_iff_eq,decide_eq_true_eq];constructor
 ·intro e
  have:=congrArg UInt8.toNat e;have e10:((10:Int).toNat.toUInt8).toNat=10:=by decide
  rw[e10,UInt8.toNat_ofNat']at this;have e2:((n:Int)).toNat=n:=by omega
  rw[e2]at this;omega
 ·intro e
  have:n=10:=by omega
  subst this;rfl
theorem ZV:∀ b:List Int,u8s b->(Lib.indexByte (Lib.bytesOf b) (10:Int).toNat.toUInt8 = -1/\qE b=b.length/\∀ q,q<b.length->b.getD q 0≠10)\/(0<=Lib.indexByte (Lib.bytesOf b) (10:Int).toNat.toUInt8/\Lib.indexByte (Lib.bytesOf b) (10:Int).toNat.toUInt8+1=qE b)
 |[],_=>.inl ⟨rfl,rfl,fun q hq=>by simp at hq⟩
 |c::t,h=>by
  have ih:=ZV t (fun x hx=>h x (List.mem_cons_of_mem _ hx));have hc:=ten_iff c (h c List.mem_cons_self);have e:Lib.bytesOf (c::t)=UInt8.ofNat c.toNat::Lib.bytesOf t:=rfl;rw[e,Lib.indexByte,hc];by_cases c10:c=10
  ·rw[Qm c10,if_pos rfl,qE,if_pos c10]
   exact .inr ⟨Int.le_refl _,rfl⟩
  ·rw[Qn c10,if_neg (by decide),qE,if_neg c10]
   rcases ih with⟨i1,i2,i3⟩|⟨i1,i2⟩
   ·rw[i1,if_pos (by decide)]
    refine .inl ⟨rfl,by simp[i2],fun q hq=>?_⟩
    cases q with
    |zero=>simpa using c10
    |succ q=>simpa using i3 q (by simpa using hq)
   ·have hne:(Lib.indexByte (Lib.bytesOf t) (10:Int).toNat.toUInt8 == -1)=false:=beq_eq_false_iff_ne.2 (by omega)
    rw[hne,if_neg (by decide)];exact .inr ⟨by omega,by rw[i2];rfl⟩
theorem clone_eq(b:List Int)(h:b.length<=1000000):zU.f b=some b:=by
 unfold zU.f;rw[if_pos (by omega)]
theorem tok_Cut_lines:∀ (n k:Nat) (b:List Int) (acc:List (List Int)),b.length=n->u8s b->b.length+acc.length<=1000000->n<k->qa.l0 k 1 b acc=some (acc++Zw b,0):=by
 intro n
 induction n using Nat.strongRecOn with
 |ind n ih =>
  intro k b acc hn hu hl hk;obtain⟨k,rfl⟩:∃ m,k=m+1:=⟨k-1,by omega⟩
  by_cases h0:b=[]
  ·subst h0
   rw[qa.l0,if_neg (by simp)];simp[Zw]
  ·have hpos:0<b.length:=List.length_pos_iff.2 h0
   have hle:=lineEnd_le b;have hlp:=lineEnd_pos b h0;have hd:(b.drop (qE b)).length=b.length-qE b:=by simp
   have ht:(b.take (qE b)).length<=b.length:=by simp;omega
   have h4:=ih (b.length-qE b) (by omega) k (b.drop (qE b)) (acc++[b.take (qE b)]) hd (u8s_drop hu _) (by simp;omega) (by omega);rw[List.append_assoc,List.singleton_append,← lines_eq b h0]at h4;rw[qa.l0,if_pos (by omega),if_pos rfl];unfold qp.f;rw[bs]
   rcases ZV b hu with⟨i1,i2,_⟩|⟨i1,i2⟩
   ·rw[i2]at h4
    rw[i1,wr (by omega) (by omega),if_pos (by omega),if_pos (by omega),if_pos (by omega),Int.toNat_natCast,clone_eq _ (by simp;omega),bs,if_pos (by omega),h4]
   ·have e2:(qE b:Int).toNat=qE b:=by omega
    rw[i2,wr (by omega) (by omega),if_neg (by omega),if_pos (by omega),if_pos (by omega),e2,clone_eq _ (by omega),bs,if_pos (by omega),h4]
theorem tok_Cut_chars:∀ (b:List Int) (k:Nat) (acc:List (List Int)),b.length+acc.length<=1000000->b.length<k->qa.l0 k 0 b acc=some (acc++b.map fun c=>[c],0)
 |[],k,acc,_,hk=>by
  obtain⟨k,rfl⟩:∃ m,k=m+1:=⟨k-1,by omega⟩
  rw[qa.l0,if_neg (by simp)];simp
 |c::t,k,acc,hl,hk=>by
  obtain⟨k,rfl⟩:∃ m,k=m+1:=⟨k-1,by omega⟩
  have hlen:(c::t).length=t.length+1:=rfl;have h4:=tok_Cut_chars t k (acc++[[c]]) (by simp;omega) (by omega);rw[qa.l0,if_pos (by omega),if_neg (by decide),if_pos (by omega),clone_eq _ (by simp),bs,if_pos (by omega)];simp only[List.take_succ_cons,List.take_zero,List.drop_succ_cons,List.drop_zero];rw[h4];simp
def z7(m:Bool):Int:=if m=true then 1 else 0
theorem tok_Cut_eq(m:Bool)(b:List Int)(hu:u8s b)(hb:b.length<=100000)(k:Nat)(hk:b.length<k):qa.f k (z7 m) b=some (ql m b,0):=by
 unfold qa.f ZB.f z7 ql
 cases m with
 |true =>
  rw[if_pos rfl,if_neg (by decide),bs,if_pos (by decide),tok_Cut_lines b.length k b [] rfl hu (by simp;omega) hk,if_pos rfl];rfl
 |false =>
  show ((if (0:Int)=0 then some true else some ((0:Int) == 1)).bind fun t=>if t=true then qa.l0 k 0 b []else some ([],1))=some (b.map fun c=>[c],0)
  rw[if_pos rfl,bs,if_pos rfl,tok_Cut_chars b k [] (by simp;omega) hk];rfl
def xsOf(la lb:List (List Int)):List Int:=la.map (fun t=>(rkT (la++lb) t:Int))
def ysOf(la lb:List (List Int)):List Int:=lb.map (fun t=>(rkT (la++lb) t:Int))
theorem names_some(la lb:List (List Int))(hl:la.length+lb.length<=1000000)(ht:∀ t,t∈la++lb->t.length<140737488355328):Zn.f la lb=some (xsOf la lb,ysOf la lb,(cardT (la++lb):Int)):=by
 unfold Zn.f;rw[if_pos ⟨hl,ht⟩];rfl
theorem alloc2(w:World)(o0 o1:Obj):((w.alloc o0).alloc o1).heap[w.heap.size]?=some o0/\((w.alloc o0).alloc o1).heap[w.heap.size+1]?=some o1:=by
 refine⟨zl (qv _ _) _,?_⟩;have:=qv (w.alloc o0) o1
 rwa [Z2]at this
structure TaskC(W:World)(la lb:List (List Int))(x y u v:List Int)(Aa Ab Ax Ay Au Av:Option Addr)(ca cb cx cy cu cv:Nat):Prop where
 ra:(Kd.slice 5 (Kd.int .u8)).R 22 W 0 (fun _=>True) (.slice Aa la.length ca) la
 rb:(Kd.slice 5 (Kd.int .u8)).R 22 W 0 (fun _=>True) (.slice Ab lb.length cb) lb
 rx:(Kd.int .i64).R 3 W 0 (fun _=>True) (.slice Ax x.length cx) x
 ry:(Kd.int .i64).R 3 W 0 (fun _=>True) (.slice Ay y.length cy) y
 ru:(Kd.int .i64).R 3 W 0 (fun _=>True) (.slice Au u.length cu) u
 rv:(Kd.int .i64).R 3 W 0 (fun _=>True) (.slice Av v.length cv) v
theorem TaskC.fa{W:World}{la lb:List (List Int)}{x y u v:List Int}{Aa Ab Ax Ay Au Av:Option Addr}{ca cb cx cy cu cv:Nat}(h:TaskC W la lb x y u v Aa Ab Ax Ay Au Av ca cb cx cy cu cv):Kd.C (Kd.slice 5 (Kd.int .u8)) W Aa la.length la:=(Kd.R_reads' h.ra).2.2
theorem TaskC.fa'{W:World}{la lb:List (List Int)}{x y u v:List Int}{Aa Ab Ax Ay Au Av:Option Addr}{ca cb cx cy cu cv:Nat}(h:TaskC W la lb x y u v Aa Ab Ax Ay Au Av ca cb cx cy cu cv):la.length<=ca:=(Kd.R_reads' h.ra).2.1
theorem TaskC.fb{W:World}{la lb:List (List Int)}{x y u v:List Int}{Aa Ab Ax Ay Au Av:Option Addr}{ca cb cx cy cu cv:Nat}(h:TaskC W la lb x y u v Aa Ab Ax Ay Au Av ca cb cx cy cu cv):Kd.C (Kd.slice 5 (Kd.int .u8)) W Ab lb.length lb:=(Kd.R_reads' h.rb).2.2
theorem TaskC.fb'{W:World}{la lb:List (List Int)}{x y u v:List Int}{Aa Ab Ax Ay Au Av:Option Addr}{ca cb cx cy cu cv:Nat}(h:TaskC W la lb x y u v Aa Ab Ax Ay Au Av ca cb cx cy cu cv):lb.length<=cb:=(Kd.R_reads' h.rb).2.1
theorem TaskC.fx{W:World}{la lb:List (List Int)}{x y u v:List Int}{Aa Ab Ax Ay Au Av:Option Addr}{ca cb cx cy cu cv:Nat}(h:TaskC W la lb x y u v Aa Ab Ax Ay Au Av ca cb cx cy cu cv):Kd.C (Kd.int .i64) W Ax x.length x:=(Kd.R_reads' h.rx).2.2
theorem TaskC.fx'{W:World}{la lb:List (List Int)}{x y u v:List Int}{Aa Ab Ax Ay Au Av:Option Addr}{ca cb cx cy cu cv:Nat}(h:TaskC W la lb x y u v Aa Ab Ax Ay Au Av ca cb cx cy cu cv):x.length<=cx:=(Kd.R_reads' h.rx).2.1
theorem TaskC.fy{W:World}{la lb:List (List Int)}{x y u v:List Int}{Aa Ab Ax Ay Au Av:Option Addr}{ca cb cx cy cu cv:Nat}(h:TaskC W la lb x y u v Aa Ab Ax Ay Au Av ca cb cx cy cu cv):Kd.C (Kd.int .i64) W Ay y.length y:=(Kd.R_reads' h.ry).2.2
theorem TaskC.fy'{W:World}{la lb:List (List Int)}{x y u v:List Int}{Aa Ab Ax Ay Au Av:Option Addr}{ca cb cx cy cu cv:Nat}(h:TaskC W la lb x y u v Aa Ab Ax Ay Au Av ca cb cx cy cu cv):y.length<=cy:=(Kd.R_reads' h.ry).2.1
theorem TaskC.fu{W:World}{la lb:List (List Int)}{x y u v:List Int}{Aa Ab Ax Ay Au Av:Option Addr}{ca cb cx cy cu cv:Nat}(h:TaskC W la lb x y u v Aa Ab Ax Ay Au Av ca cb cx cy cu cv):Kd.C (Kd.int .i64) W Au u.length u:=(Kd.R_reads' h.ru).2.2
theorem TaskC.fu'{W:World}{la lb:List (List Int)}{x y u v:List Int}{Aa Ab Ax Ay Au Av:Option Addr}{ca cb cx cy cu cv:Nat}(h:TaskC W la lb x y u v Aa Ab Ax Ay Au Av ca cb cx cy cu cv):u.length<=cu:=(Kd.R_reads' h.ru).2.1
theorem TaskC.fv{W:World}{la lb:List (List Int)}{x y u v:List Int}{Aa Ab Ax Ay Au Av:Option Addr}{ca cb cx cy cu cv:Nat}(h:TaskC W la lb x y u v Aa Ab Ax Ay Au Av ca cb cx cy cu cv):Kd.C (Kd.int .i64) W Av v.length v:=(Kd.R_reads' h.rv).2.2
theorem TaskC.fv'{W:World}{la lb:List (List Int)}{x y u v:List Int}{Aa Ab Ax Ay Au Av:Option Addr}{ca cb cx cy cu cv:Nat}(h:TaskC W la lb x y u v Aa Ab Ax Ay Au Av ca cb cx cy cu cv):v.length<=cv:=(Kd.R_reads' h.rv).2.1
theorem TaskC.below{W:World}{la lb:List (List Int)}{x y u v:List Int}{Aa Ab Ax Ay Au Av:Option Addr}{ca cb cx cy cu cv:Nat}(h:TaskC W la lb x y u v Aa Ab Ax Ay Au Av ca cb cx cy cu cv){W':World}(hb:Below W.heap.size W W'):TaskC W' la lb x y u v Aa Ab Ax Ay Au Av ca cb cx cy cu cv :=
 ⟨Kd.R_below h.ra hb,Kd.R_below h.rb hb,Kd.R_below h.rx hb,Kd.R_below h.ry hb,Kd.R_below h.ru hb,Kd.R_below h.rv hb⟩
section
variable {α:Type} {d:Kd α} {e:Nat} {w W W':World} {base:Nat} {ok:Nat->Prop} {v:Value} {xs:List α} {g:Nat} {cs:Array Value}
end
def puts(W:World)(g:Nat):List (Nat×Value)->World
 |[]=>W
 |p::us=>puts (W.setCell ⟨g,p.1,none⟩ p.2) g us
theorem Z3{α:Type}{d:Kd α}{e:Nat}{base:Nat}{ok:Nat->Prop}{v:Value}{xs:List α}{g t:Nat}(ht:∀ q,q∈e::d.E->q≠t):∀ (us:List (Nat×Value)) {W:World} {cs:Array Value},d.R e W base ok v xs->W.heap[g]?=some (.cells cs t (0,0))->d.R e (puts W g us) base ok v xs
 |[],_,_,h,_=>h
 |p::us,_,_,h,hk=>Z3 ht us (Kd.R_set h hk ht p.1 p.2) (q6 hk p.1 p.2)
theorem TaskC.puts{W:World}{la lb:List (List Int)}{x y u v:List Int}{Aa Ab Ax Ay Au Av:Option Addr}{ca cb cx cy cu cv:Nat}(h:TaskC W la lb x y u v Aa Ab Ax Ay Au Av ca cb cx cy cu cv){g t:Nat}(ht:∀ q,q∈[22,5,3]->q≠t){cs:Array Value}(hk:W.heap[g]?=some (.cells cs t (0,0)))(us:List (Nat×Value)):TaskC (puts W g us) la lb x y u v Aa Ab Ax Ay Au Av ca cb cx cy cu cv :=
 ⟨Z3 (fun q hq=>ht q (by revert hq;simp[Kd.slice,Kd.int,Kd.scalar];omega)) us h.ra hk,Z3 (fun q hq=>ht q (by revert hq;simp[Kd.slice,Kd.int,Kd.scalar];omega)) us h.rb hk,Z3 (fun q hq=>ht q (by revert hq;simp[Kd.int,Kd.scalar];omega)) us h.rx hk,Z3 (fun q hq=>ht q (by revert hq;simp[Kd.int,Kd.scalar];omega)) us h.ry hk,Z3 (fun q hq=>ht q (by revert hq;simp[Kd.int,Kd.scalar];omega)) us h.ru hk,Z3 (fun q hq=>ht q (by revert hq;simp[Kd.int,Kd.scalar];omega)) us h.rv hk⟩
theorem below_puts{w:World}{g:Nat}(hg:w.heap.size<=g):∀ (us:List (Nat×Value)) {W:World},Below w.heap.size w W->Below w.heap.size w (puts W g us)
 |[],_,h=>h
 |p::us,_,h=>below_puts hg us (zr h hg)
theorem port_cut.calls(m:Bool)(P0 P1:Nat->Prop)(A0 A1:Option Addr)(c0 c1:Nat)(l0 l1:List Int)(w:World)(h0:Kd.V (Kd.int .u8) 5 w w.heap.size P0 (.slice A0 l0.length c0) l0)(h1:Kd.V (Kd.int .u8) 5 w w.heap.size P1 (.slice A1 l1.length c1) l1)(u0:u8s l0)(u1:u8s l1)(hl0:l0.length<=100)(hl1:l1.length<=100)
 (la lb:List (List Int)) (ha:ql m l0=la) (hb:ql m l1=lb) (hla:la.length<=100) (hlb:lb.length<=100) (hta:∀ t,t∈la++lb->t.length<140737488355328) (x y u v:List Int) (hx:xsOf la lb=x) (hy:ysOf la lb=y) (hu:qb.x x y=u) (hv:qb.y x y=v) :
 Calls Tryz.prog 45 #[.int .i64 (z7 m),.slice A0 l0.length c0,.slice A1 l1.length c1] w fun e w'=>∃ Aa Ab Ax Ay Au Av ca cb cx cy cu cv,e=.returned (.tuple #[.agg #[.slice Aa la.length ca,.slice Ab lb.length cb,.slice Ax x.length cx,.slice Ay y.length cy,.int .i64 (zS.p x y:Nat),.int .i64 (zS.s x y:Nat),.slice Au u.length cu,.slice Av v.length cv],.int .i64 0])/\TaskC w' la lb x y u v Aa Ab Ax Ay Au Av ca cb cx cy cu cv/\Below w.heap.size w w':=by
 have T0:=Qk (fun W (hbl:Below w.heap.size w W)=>qa.calls 101 (z7 m) P0 A0 c0 l0 la 0 W (Kd.V_below h0 hbl) (by rw[tok_Cut_eq m l0 u0 (by omega) 101 (by omega),ha]));have T1:=Qk (fun W (hbl:Below w.heap.size w W)=>qa.calls 101 (z7 m) P1 A1 c1 l1 lb 0 W (Kd.V_below h1 hbl) (by rw[tok_Cut_eq m l1 u1 (by omega) 101 (by omega),hb]));have NT:=Qk (fun W (Aa Ab:Option Addr) (ca cb:Nat) (ha:Kd.C (Kd.slice 5 (Kd.int .u8)) W Aa la.length la) (hb:Kd.C (Kd.slice 5 (Kd.int .u8)) W Ab lb.length lb)=>Zn.calls Aa ca la Ab cb lb x y _ W ha hb (by rw[names_some la lb (by omega) hta,hx,hy]));have lx:Aside0 (x.length<=100/\y.length<=100):=⟨by rw[← hx,← hy];simp only[xsOf,ysOf,List.length_map];exact⟨hla,hlb⟩⟩
 have TM:=Qk (fun W (Ax Ay:Option Addr) (cx cy:Nat) hr0 hc0 hr1 hc1=>qb.calls Ax cx x Ay cy y W hr0 hc0 hr1 hc1 (by have:=lx.out.1;omega) (by have:=lx.out.2;omega));rw[hu,hv]at TM;have TO:=Qk (fun W (Ax Ay:Option Addr) (cx cy:Nat) hr0 hc0 hr1 hc1=>zS.calls Ax cx x Ay cy y W hr0 hc0 hr1 hc1 (by have:=lx.out.1;omega) (by have:=lx.out.2;omega));generalize zS.p x y=p at TO ⊢;generalize zS.s x y=s at TO ⊢;generalize z7 m=mm at T0 T1 ⊢;clear h0 h1 u0 u1 hl0 hl1 ha hb hla hlb hta hx hy hu hv lx;go_enter Tryz.func45,Tryz.ntmps45;go_upto_region 3 with fail
 obtain⟨k0,k1⟩:=alloc2 w (Obj.cells #[.slice none 0 0,.slice none 0 0,.slice none 0 0,.slice none 0 0,.int .i64 0,.int .i64 0,.slice none 0 0,.slice none 0 0] 81) (Obj.cells #[.slice none 0 0,.slice none 0 0,.slice none 0 0,.slice none 0 0,.int .i64 0,.int .i64 0,.slice none 0 0,.slice none 0 0] 81);have HB:=Qk (za (za (Below.refl w.heap.size w) (Obj.cells #[.slice none 0 0,.slice none 0 0,.slice none 0 0,.slice none 0 0,.int .i64 0,.int .i64 0,.slice none 0 0,.slice none 0 0] 81)) (Obj.cells #[.slice none 0 0,.slice none 0 0,.slice none 0 0,.slice none 0 0,.int .i64 0,.int .i64 0,.slice none 0 0,.slice none 0 0] 81));have HL:=Qk (show w.heap.size<w.heap.size+1 from Nat.lt_succ_self w.heap.size);have K6:=Qk k0;have K8:=Qk k1;clear k0 k1;generalize (w.alloc (Obj.cells #[.slice none 0 0,.slice none 0 0,.slice none 0 0,.slice none 0 0,.int .i64 0,.int .i64 0,.slice none 0 0,.slice none 0 0] 81)).alloc (Obj.cells #[.slice none 0 0,.slice none 0 0,.slice none 0 0,.slice none 0 0,.int .i64 0,.int .i64 0,.slice none 0 0,.slice none 0 0] 81)=w1 at K6 K8 HB ⊢;generalize w.heap.size+1=g8 at K8 HL ⊢;go_upto_region 4 with(go_at_call 84;((with_reducible refine(T0.out _ HB.out).mono ?_);rintro e w2 ⟨va,rfl,hs,hbl⟩;obtain⟨Aa,ca,rfl⟩:=Kd.S_slice hs;have n0_:=Qk (zi HB.out hbl);have n6_:=Qk (zy K6.out hbl);have n8_:=Qk (zy K8.out hbl);clear HB K6 K8 hbl;have HB:=n0_;have K6:=n6_;have K8:=n8_;clear n0_ n6_ n8_;have HSA:=Qk hs;clear hs;have hf0:=zh K8.out 0;have hs0:=(zf K8.out 0).trans (show _=some (.slice none 0 0)from rfl)))
 clear hf0 hs0;have n0_:=Qk (zr (g:=g8) (j:=0) (v:=.slice Aa la.length ca) HB.out (by have:=HL.out;omega));have n6_:=Qk (qD K6.out (p:=⟨g8,0,none⟩) (by have:=HL.out;exact Nat.ne_of_lt this) (.slice Aa la.length ca));have n8_:=Qk (show (w2.setCell ⟨g8,0,none⟩ (.slice Aa la.length ca)).heap[g8]?=some (.cells #[.slice Aa la.length ca,.slice none 0 0,.slice none 0 0,.slice none 0 0,.int .i64 0,.int .i64 0,.slice none 0 0,.slice none 0 0] 81 (0,0))from q6 K8.out 0 _);have mHSA:=Qk (Kd.S_set HSA.out K8.out (by decide) 0 (.slice Aa la.length ca));clear HB K6 K8 HSA;have HB:=n0_;have K6:=n6_;have K8:=n8_;clear n0_ n6_ n8_;have HSA:=mHSA;clear mHSA;generalize w2.setCell ⟨g8,0,none⟩ (.slice Aa la.length ca)=w3 at HB K6 K8 HSA ⊢;go_upto_region 7 with(go_at_call 84;((with_reducible refine(T1.out _ HB.out).mono ?_);rintro e w4 ⟨vb,rfl,hs,hbl⟩;obtain⟨Ab,cb,rfl⟩:=Kd.S_slice hs;have n0_:=Qk (zi HB.out hbl);have n6_:=Qk (zy K6.out hbl);have n8_:=Qk (zy K8.out hbl);have mHSA:=Qk (Kd.S_below HSA.out hbl);clear HB K6 K8 HSA hbl;have HB:=n0_;have K6:=n6_;have K8:=n8_;clear n0_ n6_ n8_;have HSA:=mHSA;clear mHSA;have HSB:=Qk hs;clear hs;have hf1:=zh K8.out 1;have hs1:=(zf K8.out 1).trans (show _=some (.slice none 0 0)from rfl)))
 clear hf1 hs1;have n0_:=Qk (zr (g:=g8) (j:=1) (v:=.slice Ab lb.length cb) HB.out (by have:=HL.out;omega));have n6_:=Qk (qD K6.out (p:=⟨g8,1,none⟩) (by have:=HL.out;exact Nat.ne_of_lt this) (.slice Ab lb.length cb));have n8_:=Qk (show (w4.setCell ⟨g8,1,none⟩ (.slice Ab lb.length cb)).heap[g8]?=some (.cells #[.slice Aa la.length ca,.slice Ab lb.length cb,.slice none 0 0,.slice none 0 0,.int .i64 0,.int .i64 0,.slice none 0 0,.slice none 0 0] 81 (0,0))from q6 K8.out 1 _);have mHSA:=Qk (Kd.S_set HSA.out K8.out (by decide) 1 (.slice Ab lb.length cb));have mHSB:=Qk (Kd.S_set HSB.out K8.out (by decide) 1 (.slice Ab lb.length cb));clear HB K6 K8 HSA HSB;have HB:=n0_;have K6:=n6_;have K8:=n8_;clear n0_ n6_ n8_;have HSA:=mHSA;clear mHSA;have HSB:=mHSB;clear mHSB;generalize w4.setCell ⟨g8,1,none⟩ (.slice Ab lb.length cb)=w5 at HB K6 K8 HSA HSB ⊢;have hz0:=(zf K8.out 0).trans (show _=some (.slice Aa la.length ca)from rfl);have hz1:=(zf K8.out 1).trans (show _=some (.slice Ab lb.length cb)from rfl);go_upto_region 8 with(go_at_call 80;((with_reducible refine(NT.out _ Aa Ab ca cb (Kd.S_reads' HSA.out).2.2 (Kd.S_reads' HSB.out).2.2).mono ?_);rintro e w6 ⟨vx,vy,rfl,hx,hy,hbl⟩;obtain⟨Ax,cx,rfl⟩:=Kd.R_slice hx;obtain⟨Ay,cy,rfl⟩:=Kd.R_slice hy;have n0_:=Qk (zi HB.out hbl);have n6_:=Qk (zy K6.out hbl);have n8_:=Qk (zy K8.out hbl);have mHSA:=Qk (Kd.S_below HSA.out hbl);have mHSB:=Qk (Kd.S_below HSB.out hbl);clear HB K6 K8 HSA HSB hbl;have HB:=n0_;have K6:=n6_;have K8:=n8_;clear n0_ n6_ n8_;have HSA:=mHSA;clear mHSA;have HSB:=mHSB;clear mHSB;have HRX:=Qk hx;have HRY:=Qk hy;clear hx hy hz0 hz1;have hf2:=zh K8.out 2;have hs2:=(zf K8.out 2).trans (show _=some (.slice none 0 0)from rfl);have hf3:=zh K8.out 3;have hs3:=(zf K8.out 3).trans (show _=some (.slice none 0 0)from rfl)))
 clear hf2 hf3 hs2 hs3;have n0_:=Qk (zr (g:=g8) (j:=2) (v:=.slice Ax x.length cx) HB.out (by have:=HL.out;omega));have n6_:=Qk (qD K6.out (p:=⟨g8,2,none⟩) (by have:=HL.out;exact Nat.ne_of_lt this) (.slice Ax x.length cx));have n8_:=Qk (show (w6.setCell ⟨g8,2,none⟩ (.slice Ax x.length cx)).heap[g8]?=some (.cells #[.slice Aa la.length ca,.slice Ab lb.length cb,.slice Ax x.length cx,.slice none 0 0,.int .i64 0,.int .i64 0,.slice none 0 0,.slice none 0 0] 81 (0,0))from q6 K8.out 2 _);have mHSA:=Qk (Kd.S_set HSA.out K8.out (by decide) 2 (.slice Ax x.length cx));have mHSB:=Qk (Kd.S_set HSB.out K8.out (by decide) 2 (.slice Ax x.length cx));have mHRX:=Qk (Kd.R_set HRX.out K8.out (by decide) 2 (.slice Ax x.length cx));have mHRY:=Qk (Kd.R_set HRY.out K8.out (by decide) 2 (.slice Ax x.length cx));clear HB K6 K8 HSA HSB HRX HRY;have HB:=n0_;have K6:=n6_;have K8:=n8_;clear n0_ n6_ n8_;have HSA:=mHSA;clear mHSA;have HSB:=mHSB;clear mHSB;have HRX:=mHRX;clear mHRX;have HRY:=mHRY;clear mHRY;generalize w6.setCell ⟨g8,2,none⟩ (.slice Ax x.length cx)=w7 at HB K6 K8 HSA HSB HRX HRY ⊢;have n0_:=Qk (zr (g:=g8) (j:=3) (v:=.slice Ay y.length cy) HB.out (by have:=HL.out;omega));have n6_:=Qk (qD K6.out (p:=⟨g8,3,none⟩) (by have:=HL.out;exact Nat.ne_of_lt this) (.slice Ay y.length cy));have n8_:=Qk (show (w7.setCell ⟨g8,3,none⟩ (.slice Ay y.length cy)).heap[g8]?=some (.cells #[.slice Aa la.length ca,.slice Ab lb.length cb,.slice Ax x.length cx,.slice Ay y.length cy,.int .i64 0,.int .i64 0,.slice none 0 0,.slice none 0 0] 81 (0,0))from q6 K8.out 3 _);have mHSA:=Qk (Kd.S_set HSA.out K8.out (by decide) 3 (.slice Ay y.length cy));have mHSB:=Qk (Kd.S_set HSB.out K8.out (by decide) 3 (.slice Ay y.length cy));have mHRX:=Qk (Kd.R_set HRX.out K8.out (by decide) 3 (.slice Ay y.length cy));have mHRY:=Qk (Kd.R_set HRY.out K8.out (by decide) 3 (.slice Ay y.length cy));clear HB K6 K8 HSA HSB HRX HRY;have HB:=n0_;have K6:=n6_;have K8:=n8_;clear n0_ n6_ n8_;have HSA:=mHSA;clear mHSA;have HSB:=mHSB;clear mHSB;have HRX:=mHRX;clear mHRX;have HRY:=mHRY;clear mHRY;generalize w7.setCell ⟨g8,3,none⟩ (.slice Ay y.length cy)=w8 at HB K6 K8 HSA HSB HRX HRY ⊢;have hz2:=(zf K8.out 2).trans (show _=some (.slice Ax x.length cx)from rfl);have hz3:=(zf K8.out 3).trans (show _=some (.slice Ay y.length cy)from rfl);go_upto_region 9 with(go_at_call 85;((with_reducible refine(TO.out _ Ax Ay cx cy (Kd.R_reads' HRX.out).2.2 (Kd.R_reads' HRX.out).2.1 (Kd.R_reads' HRY.out).2.2 (Kd.R_reads' HRY.out).2.1).mono ?_);rintro e w9 ⟨rfl,hbl⟩;have n0_:=Qk (zi HB.out hbl);have n6_:=Qk (zy K6.out hbl);have n8_:=Qk (zy K8.out hbl);have mHSA:=Qk (Kd.S_below HSA.out hbl);have mHSB:=Qk (Kd.S_below HSB.out hbl);have mHRX:=Qk (Kd.R_below HRX.out hbl);have mHRY:=Qk (Kd.R_below HRY.out hbl);clear HB K6 K8 HSA HSB HRX HRY hbl;have HB:=n0_;have K6:=n6_;have K8:=n8_;clear n0_ n6_ n8_;have HSA:=mHSA;clear mHSA;have HSB:=mHSB;clear mHSB;have HRX:=mHRX;clear mHRX;have HRY:=mHRY;clear mHRY;clear hz2 hz3;have hf4:=zh K8.out 4;have hs4:=(zf K8.out 4).trans (show _=some (.int .i64 0)from rfl);have hf5:=zh K8.out 5;have hs5:=(zf K8.out 5).trans (show _=some (.int .i64 0)from rfl)))
 clear hf4 hf5 hs4 hs5;have n0_:=Qk (zr (g:=g8) (j:=4) (v:=.int .i64 (p:Int)) HB.out (by have:=HL.out;omega));have n6_:=Qk (qD K6.out (p:=⟨g8,4,none⟩) (by have:=HL.out;exact Nat.ne_of_lt this) (.int .i64 (p:Int)));have n8_:=Qk (show (w9.setCell ⟨g8,4,none⟩ (.int .i64 (p:Int))).heap[g8]?=some (.cells #[.slice Aa la.length ca,.slice Ab lb.length cb,.slice Ax x.length cx,.slice Ay y.length cy,.int .i64 (p:Int),.int .i64 0,.slice none 0 0,.slice none 0 0] 81 (0,0))from q6 K8.out 4 _);have mHSA:=Qk (Kd.S_set HSA.out K8.out (by decide) 4 (.int .i64 (p:Int)));have mHSB:=Qk (Kd.S_set HSB.out K8.out (by decide) 4 (.int .i64 (p:Int)));have mHRX:=Qk (Kd.R_set HRX.out K8.out (by decide) 4 (.int .i64 (p:Int)));have mHRY:=Qk (Kd.R_set HRY.out K8.out (by decide) 4 (.int .i64 (p:Int)));clear HB K6 K8 HSA HSB HRX HRY;have HB:=n0_;have K6:=n6_;have K8:=n8_;clear n0_ n6_ n8_;have HSA:=mHSA;clear mHSA;have HSB:=mHSB;clear mHSB;have HRX:=mHRX;clear mHRX;have HRY:=mHRY;clear mHRY;generalize w9.setCell ⟨g8,4,none⟩ (.int .i64 (p:Int))=w10 at HB K6 K8 HSA HSB HRX HRY ⊢;have n0_:=Qk (zr (g:=g8) (j:=5) (v:=.int .i64 (s:Int)) HB.out (by have:=HL.out;omega));have n6_:=Qk (qD K6.out (p:=⟨g8,5,none⟩) (by have:=HL.out;exact Nat.ne_of_lt this) (.int .i64 (s:Int)));have n8_:=Qk (show (w10.setCell ⟨g8,5,none⟩ (.int .i64 (s:Int))).heap[g8]?=some (.cells #[.slice Aa la.length ca,.slice Ab lb.length cb,.slice Ax x.length cx,.slice Ay y.length cy,.int .i64 (p:Int),.int .i64 (s:Int),.slice none 0 0,.slice none 0 0] 81 (0,0))from q6 K8.out 5 _);have mHSA:=Qk (Kd.S_set HSA.out K8.out (by decide) 5 (.int .i64 (s:Int)));have mHSB:=Qk (Kd.S_set HSB.out K8.out (by decide) 5 (.int .i64 (s:Int)));have mHRX:=Qk (Kd.R_set HRX.out K8.out (by decide) 5 (.int .i64 (s:Int)));have mHRY:=Qk (Kd.R_set HRY.out K8.out (by decide) 5 (.int .i64 (s:Int)));clear HB K6 K8 HSA HSB HRX HRY;have HB:=n0_;have K6:=n6_;have K8:=n8_;clear n0_ n6_ n8_;have HSA:=mHSA;clear mHSA;have HSB:=mHSB;clear mHSB;have HRX:=mHRX;clear mHRX;have HRY:=mHRY;clear mHRY;generalize w10.setCell ⟨g8,5,none⟩ (.int .i64 (s:Int))=w11 at HB K6 K8 HSA HSB HRX HRY ⊢;have hz2:=(zf K8.out 2).trans (show _=some (.slice Ax x.length cx)from rfl);have hz3:=(zf K8.out 3).trans (show _=some (.slice Ay y.length cy)from rfl);go_upto_region 10 with(go_at_call 86;((with_reducible refine(TM.out _ Ax Ay cx cy (Kd.R_reads' HRX.out).2.2 (Kd.R_reads' HRX.out).2.1 (Kd.R_reads' HRY.out).2.2 (Kd.R_reads' HRY.out).2.1).mono ?_);rintro e w12 ⟨vu,vv,rfl,hx,hy,hbl⟩;obtain⟨Au,cu,rfl⟩:=Kd.R_slice hx;obtain⟨Av,cv,rfl⟩:=Kd.R_slice hy;have n0_:=Qk (zi HB.out hbl);have n6_:=Qk (zy K6.out hbl);have n8_:=Qk (zy K8.out hbl);have mHSA:=Qk (Kd.S_below HSA.out hbl);have mHSB:=Qk (Kd.S_below HSB.out hbl);have mHRX:=Qk (Kd.R_below HRX.out hbl);have mHRY:=Qk (Kd.R_below HRY.out hbl);clear HB K6 K8 HSA HSB HRX HRY hbl;have HB:=n0_;have K6:=n6_;have K8:=n8_;clear n0_ n6_ n8_;have HSA:=mHSA;clear mHSA;have HSB:=mHSB;clear mHSB;have HRX:=mHRX;clear mHRX;have HRY:=mHRY;clear mHRY;have HRU:=Qk hx;have HRV:=Qk hy;clear hx hy hz2 hz3;have hf6:=zh K8.out 6;have hs6:=(zf K8.out 6).trans (show _=some (.slice none 0 0)from rfl);have hf7:=zh K8.out 7;have hs7:=(zf K8.out 7).trans (show _=some (.slice none 0 0)from rfl)))
 clear hf6 hf7 hs6 hs7;have n0_:=Qk (zr (g:=g8) (j:=6) (v:=.slice Au u.length cu) HB.out (by have:=HL.out;omega));have n6_:=Qk (qD K6.out (p:=⟨g8,6,none⟩) (by have:=HL.out;exact Nat.ne_of_lt this) (.slice Au u.length cu));have n8_:=Qk (show (w12.setCell ⟨g8,6,none⟩ (.slice Au u.length cu)).heap[g8]?=some (.cells #[.slice Aa la.length ca,.slice Ab lb.length cb,.slice Ax x.length cx,.slice Ay y.length cy,.int .i64 (p:Int),.int .i64 (s:Int),.slice Au u.length cu,.slice none 0 0] 81 (0,0))from q6 K8.out 6 _);have mHSA:=Qk (Kd.S_set HSA.out K8.out (by decide) 6 (.slice Au u.length cu));have mHSB:=Qk (Kd.S_set HSB.out K8.out (by decide) 6 (.slice Au u.length cu));have mHRX:=Qk (Kd.R_set HRX.out K8.out (by decide) 6 (.slice Au u.length cu));have mHRY:=Qk (Kd.R_set HRY.out K8.out (by decide) 6 (.slice Au u.length cu));have mHRU:=Qk (Kd.R_set HRU.out K8.out (by decide) 6 (.slice Au u.length cu));have mHRV:=Qk (Kd.R_set HRV.out K8.out (by decide) 6 (.slice Au u.length cu));clear HB K6 K8 HSA HSB HRX HRY HRU HRV;have HB:=n0_;have K6:=n6_;have K8:=n8_;clear n0_ n6_ n8_;have HSA:=mHSA;clear mHSA;have HSB:=mHSB;clear mHSB;have HRX:=mHRX;clear mHRX;have HRY:=mHRY;clear mHRY;have HRU:=mHRU;clear mHRU;have HRV:=mHRV;clear mHRV;generalize w12.setCell ⟨g8,6,none⟩ (.slice Au u.length cu)=w13 at HB K6 K8 HSA HSB HRX HRY HRU HRV ⊢;have n0_:=Qk (zr (g:=g8) (j:=7) (v:=.slice Av v.length cv) HB.out (by have:=HL.out;omega));have n6_:=Qk (qD K6.out (p:=⟨g8,7,none⟩) (by have:=HL.out;exact Nat.ne_of_lt this) (.slice Av v.length cv));have n8_:=Qk (show (w13.setCell ⟨g8,7,none⟩ (.slice Av v.length cv)).heap[g8]?=some (.cells #[.slice Aa la.length ca,.slice Ab lb.length cb,.slice Ax x.length cx,.slice Ay y.length cy,.int .i64 (p:Int),.int .i64 (s:Int),.slice Au u.length cu,.slice Av v.length cv] 81 (0,0))from q6 K8.out 7 _);have mHSA:=Qk (Kd.S_set HSA.out K8.out (by decide) 7 (.slice Av v.length cv));have mHSB:=Qk (Kd.S_set HSB.out K8.out (by decide) 7 (.slice Av v.length cv));have mHRX:=Qk (Kd.R_set HRX.out K8.out (by decide) 7 (.slice Av v.length cv));have mHRY:=Qk (Kd.R_set HRY.out K8.out (by decide) 7 (.slice Av v.length cv));have mHRU:=Qk (Kd.R_set HRU.out K8.out (by decide) 7 (.slice Av v.length cv));have mHRV:=Qk (Kd.R_set HRV.out K8.out (by decide) 7 (.slice Av v.length cv));clear HB K6 K8 HSA HSB HRX HRY HRU HRV;have HB:=n0_;have K6:=n6_;have K8:=n8_;clear n0_ n6_ n8_;have HSA:=mHSA;clear mHSA;have HSB:=mHSB;clear mHSB;have HRX:=mHRX;clear mHRX;have HRY:=mHRY;clear mHRY;have HRU:=mHRU;clear mHRU;have HRV:=mHRV;clear mHRV;generalize w13.setCell ⟨g8,7,none⟩ (.slice Av v.length cv)=w14 at HB K6 K8 HSA HSB HRX HRY HRU HRV ⊢;have hz0:=(zf K8.out 0).trans (show _=some (.slice Aa la.length ca)from rfl);have hz1:=(zf K8.out 1).trans (show _=some (.slice Ab lb.length cb)from rfl);have hz2:=(zf K8.out 2).trans (show _=some (.slice Ax x.length cx)from rfl);have hz3:=(zf K8.out 3).trans (show _=some (.slice Ay y.length cy)from rfl);have hz4:=(zf K8.out 4).trans (show _=some (.int .i64 (p:Int))from rfl);have hz5:=(zf K8.out 5).trans (show _=some (.int .i64 (s:Int))from rfl);have hz6:=(zf K8.out 6).trans (show _=some (.slice Au u.length cu)from rfl);have hz7:=(zf K8.out 7).trans (show _=some (.slice Av v.length cv)from rfl);have hy0:=(zf K6.out 0).trans (show _=some (.slice none 0 0)from rfl);have hg0:=zh K6.out 0;have hy1:=(zf K6.out 1).trans (show _=some (.slice none 0 0)from rfl);have hg1:=zh K6.out 1;have hy2:=(zf K6.out 2).trans (show _=some (.slice none 0 0)from rfl);have hg2:=zh K6.out 2;have hy3:=(zf K6.out 3).trans (show _=some (.slice none 0 0)from rfl);have hg3:=zh K6.out 3;have hy4:=(zf K6.out 4).trans (show _=some (.int .i64 0)from rfl);have hg4:=zh K6.out 4;have hy5:=(zf K6.out 5).trans (show _=some (.int .i64 0)from rfl);have hg5:=zh K6.out 5;have hy6:=(zf K6.out 6).trans (show _=some (.slice none 0 0)from rfl);have hg6:=zh K6.out 6;have hy7:=(zf K6.out 7).trans (show _=some (.slice none 0 0)from rfl);have hg7:=zh K6.out 7;have mHSA:=Qk (Z3 (by decide) [(0,.slice Aa la.length ca),(1,.slice Ab lb.length cb),(2,.slice Ax x.length cx),(3,.slice Ay y.length cy),(4,.int .i64 (p:Int)),(5,.int .i64 (s:Int)),(6,.slice Au u.length cu),(7,.slice Av v.length cv)] (Kd.S_R HSA.out) K6.out);have mHSB:=Qk (Z3 (by decide) [(0,.slice Aa la.length ca),(1,.slice Ab lb.length cb),(2,.slice Ax x.length cx),(3,.slice Ay y.length cy),(4,.int .i64 (p:Int)),(5,.int .i64 (s:Int)),(6,.slice Au u.length cu),(7,.slice Av v.length cv)] (Kd.S_R HSB.out) K6.out);have mHRX:=Qk (Z3 (by decide) [(0,.slice Aa la.length ca),(1,.slice Ab lb.length cb),(2,.slice Ax x.length cx),(3,.slice Ay y.length cy),(4,.int .i64 (p:Int)),(5,.int .i64 (s:Int)),(6,.slice Au u.length cu),(7,.slice Av v.length cv)] HRX.out K6.out);have mHRY:=Qk (Z3 (by decide) [(0,.slice Aa la.length ca),(1,.slice Ab lb.length cb),(2,.slice Ax x.length cx),(3,.slice Ay y.length cy),(4,.int .i64 (p:Int)),(5,.int .i64 (s:Int)),(6,.slice Au u.length cu),(7,.slice Av v.length cv)] HRY.out K6.out);have mHRU:=Qk (Z3 (by decide) [(0,.slice Aa la.length ca),(1,.slice Ab lb.length cb),(2,.slice Ax x.length cx),(3,.slice Ay y.length cy),(4,.int .i64 (p:Int)),(5,.int .i64 (s:Int)),(6,.slice Au u.length cu),(7,.slice Av v.length cv)] HRU.out K6.out);have mHRV:=Qk (Z3 (by decide) [(0,.slice Aa la.length ca),(1,.slice Ab lb.length cb),(2,.slice Ax x.length cx),(3,.slice Ay y.length cy),(4,.int .i64 (p:Int)),(5,.int .i64 (s:Int)),(6,.slice Au u.length cu),(7,.slice Av v.length cv)] HRV.out K6.out);have HB2:=Qk (below_puts (Nat.le_refl _) [(0,.slice Aa la.length ca),(1,.slice Ab lb.length cb),(2,.slice Ax x.length cx),(3,.slice Ay y.length cy),(4,.int .i64 (p:Int)),(5,.int .i64 (s:Int)),(6,.slice Au u.length cu),(7,.slice Av v.length cv)] HB.out);go_wp2_with fail
 refine bodyPost_ret (v:=.tuple #[.agg #[.slice Aa la.length ca,.slice Ab lb.length cb,.slice Ax x.length cx,.slice Ay y.length cy,.int .i64 (p:Int),.int .i64 (s:Int),.slice Au u.length cu,.slice Av v.length cv],.int .i64 0]) (by simp[results,Tryz.results45,go_sem,hy0,hg0,hy1,hg1,hy2,hg2,hy3,hg3,hy4,hg4,hy5,hg5,hy6,hg6,hy7,hg7]) rfl ⟨Aa,Ab,Ax,Ay,Au,Av,ca,cb,cx,cy,cu,cv,rfl,⟨Kd.R_lower (Kd.R_mono mHSA.out (fun _ _=>trivial)) (Nat.zero_le _),Kd.R_lower (Kd.R_mono mHSB.out (fun _ _=>trivial)) (Nat.zero_le _),Kd.R_lower (Kd.R_mono mHRX.out (fun _ _=>trivial)) (Nat.zero_le _),Kd.R_lower (Kd.R_mono mHRY.out (fun _ _=>trivial)) (Nat.zero_le _),Kd.R_lower (Kd.R_mono mHRU.out (fun _ _=>trivial)) (Nat.zero_le _),Kd.R_lower (Kd.R_mono mHRV.out (fun _ _=>trivial)) (Nat.zero_le _)⟩,HB2.out⟩
theorem lines_count:∀ (b:List Int),u8s b->((Zw b).length:Int)=(Lib.countByte (Lib.bytesOf b) (10:Int).toNat.toUInt8:Nat)+(if b=[]then 0 else if b.getD (b.length-1) 0=10 then 0 else 1)
 |[],_=>rfl
 |[c],h=>by
  have hc:=ten_iff c (h c List.mem_cons_self);have e:Lib.bytesOf [c]=[UInt8.ofNat c.toNat]:=rfl;rw[e];unfold Lib.countByte;rw[List.count_cons,hc];by_cases c10:c=10
  ·subst c10;rfl
  ·simp[Zw,c10]
 |c::d::t,h=>by
  have ih:=lines_count (d::t) (fun x hx=>h x (List.mem_cons_of_mem _ hx));have hc:=ten_iff c (h c List.mem_cons_self);have e:Lib.bytesOf (c::d::t)=UInt8.ofNat c.toNat::Lib.bytesOf (d::t):=rfl;have elast:(c::d::t).getD ((c::d::t).length-1) 0=(d::t).getD ((d::t).length-1) 0:=by
   simp[List.getD_eq_getElem?_getD]
  rw[e,elast];unfold Lib.countByte at ih ⊢;rw[List.count_cons,hc];have hh:∀ (x y:Int),(if c::d::t=[]then x else y)=y:=fun x y=>if_neg (by simp)
  rw[if_neg (by simp)]at ih;rw[hh];by_cases c10:c=10
  ·rw[Zw,if_pos c10,Qm c10,if_pos rfl,List.length_cons]
   rw[Int.natCast_add,Int.natCast_add,ih];omega
  ·have hne:Zw (d::t)≠[]:=by
    rw[lines_eq _ (by simp)];simp
   rw[Zw,if_neg c10,Qn c10,if_neg (by decide),Nat.add_zero,← ih]
   revert hne
   cases Zw (d::t)with
   |nil=>intro h;exact absurd rfl h
   |cons l ls=>intro _;rfl
theorem ZM(m:Bool)(b:List Int):(ql m b).length<=b.length:=by
 unfold ql;split
 ·exact lines_length b
 ·simp
theorem tok_Count_eq(m:Bool)(b:List Int)(hu:u8s b)(hb:b.length<=100000):ZS.f (z7 m) b=some (((ql m b).length:Int),0):=by
 cases m with
 |false =>
  show (if (0:Int)=0 then some ((b.length:Int),(0:Int))else _)=some (((b.map fun c=>[c]).length:Int),0)
  rw[if_pos rfl];simp
 |true =>
  have hc:=lines_count b hu;have hl:=lines_length b;have hlt:((Zw b).length:Int)<=b.length:=by omega
  show ZS.f 1 b=some (((Zw b).length:Int),0)
  unfold ZS.f qZ.f;rw[if_neg (by decide),if_pos rfl];dsimp only;rw[bs];by_cases h0:b=[]
  ·subst h0;rfl
  ·have hpos:0<b.length:=List.length_pos_iff.2 h0
   have e1:rd b ((b.length:Int)-1)=b.getD (b.length-1) 0:=rd_at (by omega);rw[if_neg h0]at hc;rw[if_pos (by omega),wr (x:=(b.length:Int)-1) (by omega) (by omega),if_pos (by omega),if_pos (by omega),e1];by_cases c:b.getD (b.length-1) 0=10
   ·rw[if_pos c]at hc ⊢
    rw[hc];simp
   ·rw[if_neg c]at hc ⊢
    rw[wr (by omega) (by omega),hc]
theorem cutsOf_tok{m:Bool}{b t:List Int}(h:t∈ql m b):t.length<=b.length:=by
 have h1:=cutsOf_flatten m b;have h2:t.length<=(ql m b).flatten.length:=by
  obtain⟨l1,l2,e⟩:=List.append_of_mem h;rw[e];simp only[List.flatten_append,List.flatten_cons,List.length_append];omega
 rwa [h1]at h2
theorem dedB_le:∀ l:List (List UInt8),(dedB l).length<=l.length
 |[]=>Nat.le_refl _
 |b::r=>by
  unfold dedB;have:=dedB_le r;split <;> simp only[List.length_cons] <;> omega
theorem rkT_le(l:List (List Int))(t:List Int):rkT l t<=l.length:=by
 unfold rkT;refine Nat.le_trans List.countP_le_length ?_;refine Nat.le_trans (dedB_le _) ?_;rw[List.length_map];exact Nat.le_refl _
theorem mid_mem(l0 l1:List Int):(∀ x,x∈qb.x l0 l1->x∈l0)/\(∀ x,x∈qb.y l0 l1->x∈l1):=by
 unfold qb.x qb.y;exact⟨fun x h=>List.mem_of_mem_take (List.mem_of_mem_drop h),fun x h=>List.mem_of_mem_take (List.mem_of_mem_drop h)⟩
theorem mid_len(l0 l1:List Int):(qb.x l0 l1).length=l0.length-zS.s l0 l1-zS.p l0 l1/\(qb.y l0 l1).length=l1.length-zS.s l0 l1-zS.p l0 l1:=by
 unfold qb.x qb.y;simp only[List.length_drop,List.length_take];omega
structure TextIn(w:World)(A:Option Addr)(c:Nat)(l:List Int):Prop where
 v:∃ P,Kd.V (Kd.int .u8) 5 w w.heap.size P (.slice A l.length c) l
 u:u8s l
 n:l.length<=24
theorem TextIn.below{w W:World}{A:Option Addr}{c:Nat}{l:List Int}(h:TextIn w A c l)(hb:Below w.heap.size w W):TextIn W A c l:=by
 obtain⟨P,hv⟩:=h.v;exact⟨⟨P,Kd.V_below hv hb⟩,h.u,h.n⟩
structure CutIs(m:Bool)(l0 l1:List Int)(la lb:List (List Int))(x y u v:List Int):Prop where
 ea:ql m l0=la
 eb:ql m l1=lb
 ex:xsOf la lb=x
 ey:ysOf la lb=y
 eu:qb.x x y=u
 ev:qb.y x y=v
 na:la.length<=24
 nb:lb.length<=24
 nx:x.length=la.length
 ny:y.length=lb.length
 nu:u.length=x.length-zS.s x y-zS.p x y
 nv:v.length=y.length-zS.s x y-zS.p x y
 ta:∀ t,t∈la->t.length<=24
 tb:∀ t,t∈lb->t.length<=24
 wu:∀ q,q∈u->(Lit.int .i64 q).wf=true
 wv:∀ q,q∈v->(Lit.int .i64 q).wf=true
theorem cutIs(m:Bool)(l0 l1:List Int)(h0:l0.length<=24)(h1:l1.length<=24):∃ la lb x y u v,CutIs m l0 l1 la lb x y u v:=by
 have na:=ZM m l0;have nb:=ZM m l1;have hx:∀ q,q∈xsOf (ql m l0) (ql m l1)->(Lit.int .i64 q).wf=true:=fun q hq=>by
  obtain⟨t,_,rfl⟩:=List.mem_map.1 hq;have:=rkT_le (ql m l0++ql m l1) t;rw[List.length_append]at this;exact wf64 (by omega) (by omega)
 have hy:∀ q,q∈ysOf (ql m l0) (ql m l1)->(Lit.int .i64 q).wf=true:=fun q hq=>by
  obtain⟨t,_,rfl⟩:=List.mem_map.1 hq;have:=rkT_le (ql m l0++ql m l1) t;rw[List.length_append]at this;exact wf64 (by omega) (by omega)
 exact⟨_,_,_,_,_,_,rfl,rfl,rfl,rfl,rfl,rfl,by omega,by omega,by simp[xsOf],by simp[ysOf],(mid_len _ _).1,(mid_len _ _).2,fun t ht=>Nat.le_trans (cutsOf_tok ht) h0,fun t ht=>Nat.le_trans (cutsOf_tok ht) h1,fun q hq=>hx q ((mid_mem _ _).1 q hq),fun q hq=>hy q ((mid_mem _ _).2 q hq)⟩
theorem port_cut.of{m:Bool}{A0 A1:Option Addr}{c0 c1:Nat}{l0 l1:List Int}{la lb:List (List Int)}{x y u v:List Int}(hC:CutIs m l0 l1 la lb x y u v)(w:World)(h0:TextIn w A0 c0 l0)(h1:TextIn w A1 c1 l1) :
 Calls Tryz.prog 45 #[.int .i64 (z7 m),.slice A0 l0.length c0,.slice A1 l1.length c1] w fun e w'=>∃ Aa Ab Ax Ay Au Av ca cb cx cy cu cv,e=.returned (.tuple #[.agg #[.slice Aa la.length ca,.slice Ab lb.length cb,.slice Ax x.length cx,.slice Ay y.length cy,.int .i64 (zS.p x y:Nat),.int .i64 (zS.s x y:Nat),.slice Au u.length cu,.slice Av v.length cv],.int .i64 0])/\TaskC w' la lb x y u v Aa Ab Ax Ay Au Av ca cb cx cy cu cv/\Below w.heap.size w w':=by
 obtain⟨P0,v0⟩:=h0.v;obtain⟨P1,v1⟩:=h1.v;have:=hC.na;have:=hC.nb;have n0:=h0.n;have n1:=h1.n;exact port_cut.calls m P0 P1 A0 A1 c0 c1 l0 l1 w v0 v1 h0.u h1.u (by omega) (by omega) la lb hC.ea hC.eb (by omega) (by omega) (fun t ht=>by rcases List.mem_append.1 ht with h|h;(have:=hC.ta t h;omega);(have:=hC.tb t h;omega)) x y u v hC.ex hC.ey hC.eu hC.ev
theorem room_small(n m s r g:Nat)(hs:Small n m s r)(hg:g=1\/g=7/\1<=m):¬ ((1099511627776:Int)<(roomN g n m s r:Nat)):=by
 obtain⟨h1,h2,h3,h4⟩:=hs
 rcases hg with rfl|⟨rfl,_⟩
 ·have:=Nat.mul_le_mul (show n+1<=25 by omega) (show m+1<=25 by omega)
  simp only[roomN];omega
 ·have h5:=upN_le m 64 h2 (by omega) (by omega)
  have:=Nat.mul_le_mul (show s+n+1<=100 by omega) h5;simp only[roomN];omega
theorem port_ready.of{m:Bool}{A0 A1:Option Addr}{c0 c1:Nat}{l0 l1:List Int}{la lb:List (List Int)}{x y u v:List Int}(hC:CutIs m l0 l1 la lb x y u v)(w:World)(h0:TextIn w A0 c0 l0)(h1:TextIn w A1 c1 l1) :
 Calls Tryz.prog 38 #[.int .i64 (z7 m),.int .i64 0,.slice A0 l0.length c0,.slice A1 l1.length c1,.agg #[.int .i64 1000,.int .i64 1099511627776]] w fun e w'=>∃ Aa Ab Ax Ay Au Av ca cb cx cy cu cv,∃ eng:Nat,e=.returned (.tuple #[.agg #[.slice Aa la.length ca,.slice Ab lb.length cb,.slice Ax x.length cx,.slice Ay y.length cy,.int .i64 (zS.p x y:Nat),.int .i64 (zS.s x y:Nat),.slice Au u.length cu,.slice Av v.length cv],.int .i64 (eng:Int),.int .i64 0])/\(eng=1\/eng=7/\1<=v.length)/\TaskC w' la lb x y u v Aa Ab Ax Ay Au Av ca cb cx cy cu cv/\Below w.heap.size w w':=by
 have HT0:=Qk (fun W (hb:Below w.heap.size w W)=>by
  obtain⟨P0,v0⟩:=(h0.below hb).v;have h2:=Kd.V_reads' v0;exact ZS.calls (z7 m) A0 c0 l0 (la.length:Int) 0 W h2.2.2 h2.2.1 (by rw[tok_Count_eq m l0 h0.u (by have:=h0.n;omega),hC.ea]))
 have HT1:=Qk (fun W (hb:Below w.heap.size w W)=>by
  obtain⟨P0,v0⟩:=(h1.below hb).v;have h2:=Kd.V_reads' v0;exact ZS.calls (z7 m) A1 c1 l1 (lb.length:Int) 0 W h2.2.2 h2.2.1 (by rw[tok_Count_eq m l1 h1.u (by have:=h1.n;omega),hC.eb]))
 have HCU:=Qk (fun W (hb:Below w.heap.size w W)=>port_cut.of hC W (h0.below hb) (h1.below hb));have hna:=hC.na;have hnb:=hC.nb;have hun:u.length<=24:=by have:=hC.nu;have:=hC.nx;omega
 have hvn:v.length<=24:=by have:=hC.nv;have:=hC.ny;omega
 have HS:Small u.length v.length (kindsN (v++u)) (Z5 u v):=⟨hun,hvn,by have:=kindsN_le (v++u);rw[List.length_append]at this;omega,hitsN_le u v⟩;have HCO:=Qk (fun W (Au Av:Option Addr) (cu cv:Nat) hr0 hr1=>cost_Of.calls Au cu u Av cv v W hr0 hr1 (by omega) (by omega) hC.wu hC.wv);have HCH:=Qk (fun W=>cost_Choose.small _ _ _ _ HS W);have hch:=chooseN_is u.length v.length (Z5 u v) hun hvn;have HFI:=Qk (fun W=>cost_Fits.small (chooseN u.length v.length (Z5 u v)) _ _ _ _ (by omega) (by omega) HS 1099511627776 W);have hro:=room_small _ _ _ _ _ HS hch;generalize chooseN u.length v.length (Z5 u v)=eng at HCH HFI hch hro;simp only[if_neg hro]at HFI;generalize kindsN (v++u)=ks at HCO HCH HFI;generalize Z5 u v=hs at HCO HCH HFI;generalize zS.p x y=p at HCU ⊢;generalize zS.s x y=s at HCU ⊢;generalize z7 m=mm at HT0 HT1 HCU ⊢;have HCN:=Qk hch;unfold shpV at HCH HFI;have hws:IntKind.i64.wrap ((la.length:Int)+(lb.length:Int))=(la.length:Int)+(lb.length:Int):=by rw[IntWalk.i64_in _ (by omega)]
 have d1:decide ((1000:Int)<(la.length:Int)+(lb.length:Int))=false:=Qn (by omega);have d2:decide ((1048576:Int)<(la.length:Int)+(lb.length:Int))=false:=Qn (by omega);have d3:decide (1000<la.length+lb.length)=false:=Qn (by omega);have d4:decide (1048576<la.length+lb.length)=false:=Qn (by omega);clear hC h0 h1 hun hvn HS hch hro hna hnb;go_enter Tryz.func38,Tryz.ntmps38;go_upto_region 1 with fail
 obtain⟨k0,k1⟩:=alloc2 w (Obj.cells #[.int .i64 1000,.int .i64 1099511627776] 40) (Obj.cells #[.slice none 0 0,.slice none 0 0,.slice none 0 0,.slice none 0 0,.int .i64 0,.int .i64 0,.slice none 0 0,.slice none 0 0] 81);have HB:=Qk (za (za (Below.refl w.heap.size w) (Obj.cells #[.int .i64 1000,.int .i64 1099511627776] 40)) (Obj.cells #[.slice none 0 0,.slice none 0 0,.slice none 0 0,.slice none 0 0,.int .i64 0,.int .i64 0,.slice none 0 0,.slice none 0 0] 81));have HL:=Qk (show w.heap.size<w.heap.size+1 from Nat.lt_succ_self w.heap.size);have K9:=Qk k0;have K10:=Qk k1;clear k0 k1;generalize (w.alloc (Obj.cells #[.int .i64 1000,.int .i64 1099511627776] 40)).alloc (Obj.cells #[.slice none 0 0,.slice none 0 0,.slice none 0 0,.slice none 0 0,.int .i64 0,.int .i64 0,.slice none 0 0,.slice none 0 0] 81)=w1 at K9 K10 HB ⊢;generalize w.heap.size+1=gt at K10 HL ⊢;go_upto_region 10 with(first
  |(go_at_call 63;((with_reducible refine(HT0.out _ HB.out).mono ?_);rintro e w2 ⟨rfl,hbl⟩;have n0_:=Qk (zi HB.out hbl);have nK9_:=Qk (zy K9.out hbl);have nK10_:=Qk (zy K10.out hbl);clear HB K9 K10 hbl;have HB:=n0_;have K9:=nK9_;have K10:=nK10_;clear n0_ nK9_ nK10_;clear HT0))
  |(go_at_call 63;((with_reducible refine(HT1.out _ HB.out).mono ?_);rintro e w3 ⟨rfl,hbl⟩;have n0_:=Qk (zi HB.out hbl);have nK9_:=Qk (zy K9.out hbl);have nK10_:=Qk (zy K10.out hbl);clear HB K9 K10 hbl;have HB:=n0_;have K9:=nK9_;have K10:=nK10_;clear n0_ nK9_ nK10_;clear HT1;have hz0:=(zf K9.out 0).trans (show _=some (.int .i64 1000)from rfl)))
  |(go_at_call 45;((with_reducible refine(HCU.out _ HB.out).mono ?_);rintro e w4 ⟨Aa,Ab,Ax,Ay,Au,Av,ca,cb,cx,cy,cu,cv,rfl,ht,hbl⟩;have n0_:=Qk (zi HB.out hbl);have nK9_:=Qk (zy K9.out hbl);have nK10_:=Qk (zy K10.out hbl);clear HB K9 K10 hbl;have HB:=n0_;have K9:=nK9_;have K10:=nK10_;clear n0_ nK9_ nK10_;clear HCU hz0;have HT:=Qk ht;clear ht)))
 have hbl:=za (Below.refl w4.heap.size w4) (Obj.cells #[.slice Aa la.length ca,.slice Ab lb.length cb,.slice Ax x.length cx,.slice Ay y.length cy,.int .i64 (p:Int),.int .i64 (s:Int),.slice Au u.length cu,.slice Av v.length cv] 81);have K17:=Qk (qv w4 (Obj.cells #[.slice Aa la.length ca,.slice Ab lb.length cb,.slice Ax x.length cx,.slice Ay y.length cy,.int .i64 (p:Int),.int .i64 (s:Int),.slice Au u.length cu,.slice Av v.length cv] 81));have nT_:=Qk (HT.out.below hbl);have n0_:=Qk (zi HB.out hbl);have nK9_:=Qk (zy K9.out hbl);have nK10_:=Qk (zy K10.out hbl);clear HB K9 K10 hbl;have HB:=n0_;have K9:=nK9_;have K10:=nK10_;clear n0_ nK9_ nK10_;clear HT;have HT:=nT_;clear nT_;have hz6:=(zf K17.out 6).trans (show _=some (.slice Au u.length cu)from rfl);have hz7:=(zf K17.out 7).trans (show _=some (.slice Av v.length cv)from rfl);generalize w4.alloc (Obj.cells #[.slice Aa la.length ca,.slice Ab lb.length cb,.slice Ax x.length cx,.slice Ay y.length cy,.int .i64 (p:Int),.int .i64 (s:Int),.slice Au u.length cu,.slice Av v.length cv] 81)=w5 at K17 K9 K10 HB HT hz6 hz7 ⊢;generalize w4.heap.size=gk at K17 hz6 hz7 ⊢;go_upto_region 13 with(go_at_call 64;((with_reducible refine(HCO.out _ Au Av cu cv HT.out.fu HT.out.fv).mono ?_);rintro e w6 ⟨rfl,hbl⟩;have nT_:=Qk (HT.out.below hbl);have n0_:=Qk (zi HB.out hbl);have nK9_:=Qk (zy K9.out hbl);have nK10_:=Qk (zy K10.out hbl);have nK17_:=Qk (zy K17.out hbl);clear HB K9 K10 K17 hbl;have HB:=n0_;have K9:=nK9_;have K10:=nK10_;have K17:=nK17_;clear n0_ nK9_ nK10_ nK17_;clear HT;have HT:=nT_;clear nT_;clear HCO hz6 hz7))
 have hbl:=za (Below.refl w6.heap.size w6) (Obj.cells #[.int .i64 (u.length:Int),.int .i64 (v.length:Int),.int .i64 (ks:Int),.int .i64 (hs:Int)] 30);have K18:=Qk (qv w6 (Obj.cells #[.int .i64 (u.length:Int),.int .i64 (v.length:Int),.int .i64 (ks:Int),.int .i64 (hs:Int)] 30));have nT_:=Qk (HT.out.below hbl);have n0_:=Qk (zi HB.out hbl);have nK9_:=Qk (zy K9.out hbl);have nK10_:=Qk (zy K10.out hbl);have nK17_:=Qk (zy K17.out hbl);clear HB K9 K10 K17 hbl;have HB:=n0_;have K9:=nK9_;have K10:=nK10_;have K17:=nK17_;clear n0_ nK9_ nK10_ nK17_;clear HT;have HT:=nT_;clear nT_;have hs0:=(zf K18.out 0).trans (show _=some (.int .i64 (u.length:Int))from rfl);have hs1:=(zf K18.out 1).trans (show _=some (.int .i64 (v.length:Int))from rfl);have hs2:=(zf K18.out 2).trans (show _=some (.int .i64 (ks:Int))from rfl);have hs3:=(zf K18.out 3).trans (show _=some (.int .i64 (hs:Int))from rfl);generalize w6.alloc (Obj.cells #[.int .i64 (u.length:Int),.int .i64 (v.length:Int),.int .i64 (ks:Int),.int .i64 (hs:Int)] 30)=w7 at K17 K18 K9 K10 HB HT hs0 hs1 hs2 hs3 ⊢;generalize w6.heap.size=gs at K18 hs0 hs1 hs2 hs3 ⊢;go_upto_region 18 with(first
  |(go_at_call 65;((with_reducible refine(HCH.out _).mono ?_);rintro e w8 ⟨rfl,hbl⟩;have nT_:=Qk (HT.out.below hbl);have n0_:=Qk (zi HB.out hbl);have nK9_:=Qk (zy K9.out hbl);have nK10_:=Qk (zy K10.out hbl);have nK17_:=Qk (zy K17.out hbl);have nK18_:=Qk (zy K18.out hbl);clear HB K9 K10 K17 K18 hbl;have HB:=n0_;have K9:=nK9_;have K10:=nK10_;have K17:=nK17_;have K18:=nK18_;clear n0_ nK9_ nK10_ nK17_ nK18_;clear HT;have HT:=nT_;clear nT_;clear HCH hs0 hs1 hs2 hs3;have hs0:=(zf K18.out 0).trans (show _=some (.int .i64 (u.length:Int))from rfl);have hs1:=(zf K18.out 1).trans (show _=some (.int .i64 (v.length:Int))from rfl);have hs2:=(zf K18.out 2).trans (show _=some (.int .i64 (ks:Int))from rfl);have hs3:=(zf K18.out 3).trans (show _=some (.int .i64 (hs:Int))from rfl);have hz1:=(zf K9.out 1).trans (show _=some (.int .i64 1099511627776)from rfl)))
  |(go_at_call 66;((with_reducible refine(HFI.out _).mono ?_);rintro e w9 ⟨rfl,hbl⟩;have nT_:=Qk (HT.out.below hbl);have n0_:=Qk (zi HB.out hbl);have nK9_:=Qk (zy K9.out hbl);have nK10_:=Qk (zy K10.out hbl);have nK17_:=Qk (zy K17.out hbl);have nK18_:=Qk (zy K18.out hbl);clear HB K9 K10 K17 K18 hbl;have HB:=n0_;have K9:=nK9_;have K10:=nK10_;have K17:=nK17_;have K18:=nK18_;clear n0_ nK9_ nK10_ nK17_ nK18_;clear HT;have HT:=nT_;clear nT_;clear HFI hs0 hs1 hs2 hs3 hz1)))
 have hz0:=(zf K17.out 0).trans (show _=some (.slice Aa la.length ca)from rfl);have hy0:=(zf K10.out 0).trans (show _=some (.slice none 0 0)from rfl);have hg0:=zh K10.out 0;have hz1:=(zf K17.out 1).trans (show _=some (.slice Ab lb.length cb)from rfl);have hy1:=(zf K10.out 1).trans (show _=some (.slice none 0 0)from rfl);have hg1:=zh K10.out 1;have hz2:=(zf K17.out 2).trans (show _=some (.slice Ax x.length cx)from rfl);have hy2:=(zf K10.out 2).trans (show _=some (.slice none 0 0)from rfl);have hg2:=zh K10.out 2;have hz3:=(zf K17.out 3).trans (show _=some (.slice Ay y.length cy)from rfl);have hy3:=(zf K10.out 3).trans (show _=some (.slice none 0 0)from rfl);have hg3:=zh K10.out 3;have hz4:=(zf K17.out 4).trans (show _=some (.int .i64 (p:Int))from rfl);have hy4:=(zf K10.out 4).trans (show _=some (.int .i64 0)from rfl);have hg4:=zh K10.out 4;have hz5:=(zf K17.out 5).trans (show _=some (.int .i64 (s:Int))from rfl);have hy5:=(zf K10.out 5).trans (show _=some (.int .i64 0)from rfl);have hg5:=zh K10.out 5;have hz6:=(zf K17.out 6).trans (show _=some (.slice Au u.length cu)from rfl);have hy6:=(zf K10.out 6).trans (show _=some (.slice none 0 0)from rfl);have hg6:=zh K10.out 6;have hz7:=(zf K17.out 7).trans (show _=some (.slice Av v.length cv)from rfl);have hy7:=(zf K10.out 7).trans (show _=some (.slice none 0 0)from rfl);have hg7:=zh K10.out 7;have HT2:=Qk (HT.out.puts (by decide) K10.out [(0,.slice Aa la.length ca),(1,.slice Ab lb.length cb),(2,.slice Ax x.length cx),(3,.slice Ay y.length cy),(4,.int .i64 (p:Int)),(5,.int .i64 (s:Int)),(6,.slice Au u.length cu),(7,.slice Av v.length cv)]);have HB2:=Qk (below_puts (Nat.le_of_lt HL.out) [(0,.slice Aa la.length ca),(1,.slice Ab lb.length cb),(2,.slice Ax x.length cx),(3,.slice Ay y.length cy),(4,.int .i64 (p:Int)),(5,.int .i64 (s:Int)),(6,.slice Au u.length cu),(7,.slice Av v.length cv)] HB.out);go_wp2_with fail
 refine bodyPost_ret (v:=.tuple #[.agg #[.slice Aa la.length ca,.slice Ab lb.length cb,.slice Ax x.length cx,.slice Ay y.length cy,.int .i64 (p:Int),.int .i64 (s:Int),.slice Au u.length cu,.slice Av v.length cv],.int .i64 (eng:Int),.int .i64 0]) (by simp[results,Tryz.results38,go_sem,hy0,hg0,hy1,hg1,hy2,hg2,hy3,hg3,hy4,hg4,hy5,hg5,hy6,hg6,hy7,hg7]) rfl ⟨Aa,Ab,Ax,Ay,Au,Av,ca,cb,cx,cy,cu,cv,eng,rfl,HCN.out,HT2.out,HB2.out⟩
end Go.Proofs.YtdiojfaenfggkaaGreat.PTopNear
namespace Go.Proofs.YtdiojfaenfggkaaGreat.PTopNear
open Go.RowKit Go.Proofs.YtdiojfaenfggkaaGreatW.PrintWords Go.Proofs.YtdiojfaenfggkaaGreatW.PrintLast Go.Proofs.YtdiojfaenfggkaaGreatW.PrintMore
attribute [local go_sem] qW qU Zg Zf qK qJ qV qT
set_option linter.unusedVariables false
set_option linter.unusedSimpArgs false
theorem canon_Of.bare(A0 A1 A2:Option Addr)(c0 c1 c2:Nat)(a b:List Int)(qs:List (Nat×Nat))(w:World)(hr0:Kd.C (Kd.int .i64) w A0 a.length a)(hc0:a.length<=c0)(hr1:Kd.C (Kd.int .i64) w A1 b.length b)(hc1:b.length<=c1)(hr2:Kd.C k54 w A2 qs.length (qs.map toP))(hg:GoodN a b qs)(hl:qs.length=lcs a b)(ha:a.length<=1000)(hb:b.length<=1000)(ha0:a=[0,1])(hb0:b=[1]) :
 Calls Tryz.prog 41 #[.slice A0 a.length c0,.slice A1 b.length c1,.slice A2 qs.length c2] w fun e w'=>∃ v ls,e=.returned (.tuple #[v,.int .i64 0])/\True/\GoodN a b ls/\ls.length=lcs a b/\Kd.R k54 54 w' w.heap.size (fun _=>True) v (ls.map toP)/\Below w.heap.size w w':=by
 have hlc:lcs a b=1:=by subst ha0 hb0;kernel_rfl
 have HL1:=Qk (show Za.f 60 a b=some ([(1,0)].map toP) by subst ha0 hb0;kernel_rfl);have HL2:=Qk (show zZ.f 60 a b=some 1 by subst ha0 hb0;kernel_rfl);have hgl:GoodN a b [(1,0)]:=by
  subst ha0 hb0;exact⟨fun q hq=>by rw[List.mem_singleton]at hq;subst hq;decide,List.pairwise_singleton _ _⟩
 have hlen:[((1:Nat),(0:Nat))].length=lcs a b:=by rw[hlc];rfl
 have hlb:=Zi a b;have HG:=Qk (fun W (hb':Below w.heap.size w W)=>pairs_Good.good A0 A1 A2 c0 c1 c2 a b qs W (Kd.C_below hr0 hb') hc0 (Kd.C_below hr1 hb') hc1 (Kd.C_below hr2 hb') hg (by omega) ha hb);have H0:=Qk hr0;have H1:=Qk hr1;have HC0:=Qk hc0;have HC1:=Qk hc1;have HRS:=Qk (And.intro hgl hlen);have t1:decide ((qs.length:Int)<1)=false:=Qn (by omega);have t2:decide (qs.length<1)=false:=Qn (by omega);clear hgl hlen hlc ha0 hb0 hr0 hr1 hr2 hc0 hc1 hg hl hlb;go_enter Tryz.func41,Tryz.ntmps41;go_wp2_with (first
  |(go_at_call 77;((with_reducible refine(HG.out _ (Below.refl _ _)).mono ?_);rintro e w1 ⟨rfl,hb⟩;have HB:=Qk hb;clear hb))
  |(go_at_call 78;((with_reducible refine(zZ.calls 60 A0 c0 a A1 c1 b _ _ (Kd.C_below H0.out HB.out) HC0.out (Kd.C_below H1.out HB.out) HC1.out HL2.out).mono ?_);rintro e w2 ⟨rfl,hb⟩;have n0_:=Qk (zi HB.out hb);clear HB hb;have HB:=n0_;clear n0_))
  |(go_at_call 79;((with_reducible refine(Za.calls 60 A0 c0 a A1 c1 b _ _ (Kd.C_below H0.out HB.out) HC0.out (Kd.C_below H1.out HB.out) HC1.out HL1.out).mono ?_);rintro e w3 ⟨v,rfl,ho,hb⟩;have HO:=Qk ho;have HB3:=Qk hb;clear ho hb)))
 go_ret2;exact⟨v,[(1,0)],rfl,trivial,HRS.out.1,HRS.out.2,Kd.R_lower HO.out HB.out.size,zi HB.out HB3.out⟩
end Go.Proofs.YtdiojfaenfggkaaGreat.PTopNear
namespace Go.Proofs.YtdiojfaenfggkaaGreat.PTopNear
open Go.RowKit Go.Proofs.YtdiojfaenfggkaaGreatW.PrintWords Go.Proofs.YtdiojfaenfggkaaGreatW.PrintLast Go.Proofs.YtdiojfaenfggkaaGreatW.PrintMore
attribute [local go_sem] qW qU Zg Zf qK qJ qV qT
set_option linter.unusedVariables false
set_option linter.unusedSimpArgs false
theorem port_run.grid(eng:Nat)(A0 A1:Option Addr)(c0 c1:Nat)(a b:List Int)(w:World)(hr0:Kd.C (Kd.int .i64) w A0 a.length a)(hc0:a.length<=c0)(hr1:Kd.C (Kd.int .i64) w A1 b.length b)(hc1:b.length<=c1)(ha:a.length<=24)(hb:b.length<=24)(hw0:∀ x∈a,(Lit.int .i64 x).wf=true)(hw1:∀ x∈b,(Lit.int .i64 x).wf=true)
 (he:eng=1) (ha0:a=[0]) (hb0:b=[]) :
 Calls Tryz.prog 39 #[.int .i64 (eng:Int),.slice A0 a.length c0,.slice A1 b.length c1] w fun e w'=>∃ v s qs,e=.returned (.tuple #[v,.int .i64 s])/\Kd.R k54 54 w' w.heap.size (fun _=>True) v (qs.map toP)/\GoodN a b qs/\qs.length=lcs a b/\Below w.heap.size w w':=by
 subst he
 ·have hk:qo.f 60 a b=some (([]:List (Nat×Nat)).map toP,0):=by subst ha0 hb0;kernel_rfl
  have hg:GoodN a b []:=⟨fun q hq=>(by cases hq),List.Pairwise.nil⟩;have h2:([]:List (Nat×Nat)).length=lcs a b:=by subst ha0 hb0;kernel_rfl
  have HG:=Qk (qo.calls 60 A0 c0 a A1 c1 b _ _ w hr0 hc0 hr1 hc1 hk);clear hk hr0 hc0 hr1 hc1 hw0 hw1 ha hb ha0 hb0;have h2:=Qk h2;go_enter Tryz.func39,Tryz.ntmps39;go_wp2_with (go_at_call 67;((with_reducible refine HG.out.mono ?_);rintro e w1 ⟨v,rfl,hv,hb⟩;have HV:=Qk hv;have HB:=Qk hb;clear hv hb))
  go_ret2;exact⟨v,_,[],rfl,HV.out,hg,h2.out,HB.out⟩
end Go.Proofs.YtdiojfaenfggkaaGreat.PTopNear
namespace Go.Proofs.YtdiojfaenfggkaaGreat.PTopNear
open Go.RowKit Go.Proofs.YtdiojfaenfggkaaGreatW.PrintWords Go.Proofs.YtdiojfaenfggkaaGreatW.PrintLast Go.Proofs.YtdiojfaenfggkaaGreatW.PrintMore
attribute [local go_sem] qW qU Zg Zf qK qJ qV qT
set_option linter.unusedVariables false
set_option linter.unusedSimpArgs false
def ZF.f(a0:Int):Option (Bool):=if a0≥0 then(some (decide (a0<=1048576)))else(some false)
theorem ZF.calls(a0:Int)(r:Bool)(w:World)(h:ZF.f a0=some r) :
 Calls Tryz.prog 140 #[.int .i64 a0] w fun e w'=>e=.returned (.bool r)/\Drawn0 w w':=by
 have H:(if a0≥0 then(some (decide (a0<=1048576)))else(some false))=some r:=h;clear h;by_cases c2:a0≥0
 ·rw[if_pos c2]at H;have c2b0:decide (0<=a0)=true:=Qm c2;clear c2;obtain rfl:=Qp H;go_enter Tryz.func140,Tryz.ntmps140;go_wp2;go_ret;exact⟨rfl,by repeat(first|exact Drawn0.refl _|apply Drawn0.step)⟩
 ·rw[if_neg c2]at H;have c2b0:decide (0<=a0)=false:=Qn c2;clear c2;obtain rfl:=Qp H;go_enter Tryz.func140,Tryz.ntmps140;go_wp2;go_ret;exact⟨rfl,by repeat(first|exact Drawn0.refl _|apply Drawn0.step)⟩
def Ze.f(a0:Int)(a1:Int)(a2:Int):Option (Int×Int×Bool):=if a2<(mx (wrap64 (a0-a1)) (wrap64 (-(wrap64 (a0-a1)))))then(some (0,0,false))else(some (mx (wrap64 (-a1)) (wrap64 ((mn 0 (wrap64 (a0-a1)))-(mn (wrap64 (Int.tdiv (wrap64 (a2-(mx (wrap64 (a0-a1)) (wrap64 (-(wrap64 (a0-a1))))))) 2)) a1))),mn a0 (wrap64 ((mx 0 (wrap64 (a0-a1)))+(mn (wrap64 (Int.tdiv (wrap64 (a2-(mx (wrap64 (a0-a1)) (wrap64 (-(wrap64 (a0-a1))))))) 2)) a0))),true))
theorem Ze.calls(a0:Int)(a1:Int)(a2:Int)(r1:Int)(r2:Int)(r3:Bool)(w:World)(h:Ze.f a0 a1 a2=some (r1,r2,r3)) :
 Calls Tryz.prog 87 #[.int .i64 a0,.int .i64 a1,.int .i64 a2] w fun e w'=>e=.returned (.tuple #[.int .i64 r1,.int .i64 r2,.bool r3])/\Below w.heap.size w w':=by
 have HB:=Qk (Below.refl w.heap.size w);have H:(if a2<(mx (wrap64 (a0-a1)) (wrap64 (-(wrap64 (a0-a1)))))then(some (0,0,false))else(some (mx (wrap64 (-a1)) (wrap64 ((mn 0 (wrap64 (a0-a1)))-(mn (wrap64 (Int.tdiv (wrap64 (a2-(mx (wrap64 (a0-a1)) (wrap64 (-(wrap64 (a0-a1))))))) 2)) a1))),mn a0 (wrap64 ((mx 0 (wrap64 (a0-a1)))+(mn (wrap64 (Int.tdiv (wrap64 (a2-(mx (wrap64 (a0-a1)) (wrap64 (-(wrap64 (a0-a1))))))) 2)) a0))),true)))=some (r1,r2,r3):=h;clear h;obtain⟨ji4,hji4⟩:∃ j_:Int,(mx (wrap64 (a0-a1)) (wrap64 (-(wrap64 (a0-a1)))))=j_:=⟨_,rfl⟩
 replace H:(if a2<(ji4)then(some (0,0,false))else(some (mx (wrap64 (-a1)) (wrap64 ((mn 0 (wrap64 (a0-a1)))-(mn (wrap64 (Int.tdiv (wrap64 (a2-(ji4))) 2)) a1))),mn a0 (wrap64 ((mx 0 (wrap64 (a0-a1)))+(mn (wrap64 (Int.tdiv (wrap64 (a2-(ji4))) 2)) a0))),true)))=some (r1,r2,r3):=by first|(rw[hji4]at H;exact H)|(simp only[hji4]at H ⊢;exact H)
 have hji4_:(if (wrap64 (a0-a1))<(wrap64 (-(wrap64 (a0-a1))))then(wrap64 (-(wrap64 (a0-a1))))else(wrap64 (a0-a1)))=ji4:=hji4;by_cases c5:a2<(ji4)
 ·rw[if_pos c5]at H;have c5b0:decide (a2<(ji4))=true:=Qm c5;clear c5;simp only[Option.some.injEq,Prod.mk.injEq]at H;obtain⟨rfl,rfl,rfl⟩:=H;go_enter Tryz.func87,Tryz.ntmps87;go_wp2;go_ret3
  exact⟨by first|rfl|(simp[zR,zQ] <;> rfl)|(simp only[← hji4];first|rfl|(simp[zR,zQ] <;> rfl))|(simp[*,zR,zQ] <;> rfl),HB.out⟩
 ·rw[if_neg c5]at H;have c5b0:decide (a2<(ji4))=false:=Qn c5;clear c5;obtain⟨ji7,hji7⟩:∃ j_:Int,(mn 0 (wrap64 (a0-a1)))=j_:=⟨_,rfl⟩
  replace H:(some (mx (wrap64 (-a1)) (wrap64 ((ji7)-(mn (wrap64 (Int.tdiv (wrap64 (a2-(ji4))) 2)) a1))),mn a0 (wrap64 ((mx 0 (wrap64 (a0-a1)))+(mn (wrap64 (Int.tdiv (wrap64 (a2-(ji4))) 2)) a0))),true))=some (r1,r2,r3):=by first|(rw[hji7]at H;exact H)|(simp only[hji7]at H ⊢;exact H)
  (try(have hji7h:ji7<=0:=by(rw[← hji7];unfold mn;(repeat' split) <;> omega)));(try(have hji7g:ji7<=64:=by omega));have hji7_:(if (wrap64 (a0-a1))<0 then(wrap64 (a0-a1))else 0)=ji7:=hji7;obtain⟨ji8,hji8⟩:∃ j_:Int,(mn (wrap64 (Int.tdiv (wrap64 (a2-(ji4))) 2)) a1)=j_:=⟨_,rfl⟩
  replace H:(some (mx (wrap64 (-a1)) (wrap64 ((ji7)-(ji8))),mn a0 (wrap64 ((mx 0 (wrap64 (a0-a1)))+(mn (wrap64 (Int.tdiv (wrap64 (a2-(ji4))) 2)) a0))),true))=some (r1,r2,r3):=by first|(rw[hji8]at H;exact H)|(simp only[hji8]at H ⊢;exact H)
  have hji8_:(if a1<(wrap64 (Int.tdiv (wrap64 (a2-(ji4))) 2))then a1 else(wrap64 (Int.tdiv (wrap64 (a2-(ji4))) 2)))=ji8:=hji8;obtain⟨ji9,hji9⟩:∃ j_:Int,(mx (wrap64 (-a1)) (wrap64 ((ji7)-(ji8))))=j_:=⟨_,rfl⟩
  replace H:(some (ji9,mn a0 (wrap64 ((mx 0 (wrap64 (a0-a1)))+(mn (wrap64 (Int.tdiv (wrap64 (a2-(ji4))) 2)) a0))),true))=some (r1,r2,r3):=by first|(rw[hji9]at H;exact H)|(simp only[hji9]at H ⊢;exact H)
  have hji9_:(if (wrap64 (-a1))<(wrap64 ((ji7)-(ji8)))then(wrap64 ((ji7)-(ji8)))else(wrap64 (-a1)))=ji9:=hji9;obtain⟨ji10,hji10⟩:∃ j_:Int,(mx 0 (wrap64 (a0-a1)))=j_:=⟨_,rfl⟩
  replace H:(some (ji9,mn a0 (wrap64 ((ji10)+(mn (wrap64 (Int.tdiv (wrap64 (a2-(ji4))) 2)) a0))),true))=some (r1,r2,r3):=by first|(rw[hji10]at H;exact H)|(simp only[hji10]at H ⊢;exact H)
  (try(have hji10l:0<=ji10:=by(rw[← hji10];unfold mx;(repeat' split) <;> omega)));(try(have hji10m:0<=ji10:=by omega));have hji10_:(if 0<(wrap64 (a0-a1))then(wrap64 (a0-a1))else 0)=ji10:=hji10;obtain⟨ji11,hji11⟩:∃ j_:Int,(mn (wrap64 (Int.tdiv (wrap64 (a2-(ji4))) 2)) a0)=j_:=⟨_,rfl⟩
  replace H:(some (ji9,mn a0 (wrap64 ((ji10)+(ji11))),true))=some (r1,r2,r3):=by first|(rw[hji11]at H;exact H)|(simp only[hji11]at H ⊢;exact H)
  have hji11_:(if a0<(wrap64 (Int.tdiv (wrap64 (a2-(ji4))) 2))then a0 else(wrap64 (Int.tdiv (wrap64 (a2-(ji4))) 2)))=ji11:=hji11;obtain⟨ji12,hji12⟩:∃ j_:Int,(mn a0 (wrap64 ((ji10)+(ji11))))=j_:=⟨_,rfl⟩
  replace H:(some (ji9,ji12,true))=some (r1,r2,r3):=by first|(rw[hji12]at H;exact H)|(simp only[hji12]at H ⊢;exact H)
  have hji12_:(if (wrap64 ((ji10)+(ji11)))<a0 then(wrap64 ((ji10)+(ji11)))else a0)=ji12:=hji12;simp only[Option.some.injEq,Prod.mk.injEq]at H;obtain⟨rfl,rfl,rfl⟩:=H;go_enter Tryz.func87,Tryz.ntmps87;go_wp2;go_ret3
  exact⟨by first|rfl|(simp[zR,zQ] <;> rfl)|(simp only[← hji4,← hji7,← hji8,← hji9,← hji10,← hji11,← hji12];first|rfl|(simp[zR,zQ] <;> rfl))|(simp[*,zR,zQ] <;> rfl),HB.out⟩
def qI.f(a0_0:Int)(l0_1:List Int)(a1:Int):Option (Int):=if a1<a0_0 then(some 1152921504606846976)else(if a1≥(wrap64 (a0_0+(l0_1.length:Int)))then(some 1152921504606846976)else(if 0<=(wrap64 (a1-a0_0))then(if (wrap64 (a1-a0_0))<(l0_1.length:Int)then(some (rd l0_1 (wrap64 (a1-a0_0))))else(none))else(none)))
theorem qI.calls(a0_0:Int)(A0_1:Option Addr)(c0_1:Nat)(l0_1:List Int)(a1:Int)(r:Int)(w:World)(hr0_1:Kd.C (Kd.int .i64) w A0_1 l0_1.length l0_1)(hc0_1:l0_1.length<=c0_1)(h:qI.f a0_0 l0_1 a1=some r) :
 Calls Tryz.prog 89 #[.agg #[.int .i64 a0_0,.slice A0_1 l0_1.length c0_1],.int .i64 a1] w fun e w'=>e=.returned (.int .i64 r)/\Below w.heap.size w w':=by
 have hu129:=Tryz.underlying129;have HR0_1:=Qk hr0_1;have HC0_1:=Qk hc0_1;clear hr0_1 hc0_1;have HB:=Qk (Below.refl w.heap.size w);have H:(if a1<a0_0 then(some 1152921504606846976)else(if a1≥(wrap64 (a0_0+(l0_1.length:Int)))then(some 1152921504606846976)else(if 0<=(wrap64 (a1-a0_0))then(if (wrap64 (a1-a0_0))<(l0_1.length:Int)then(some (rd l0_1 (wrap64 (a1-a0_0))))else(none))else(none))))=some r:=h;clear h;by_cases c3:a1<a0_0
 ·rw[if_pos c3]at H;have c3b0:decide (a1<a0_0)=true:=Qm c3;clear c3;obtain rfl:=Qp H;go_enter Tryz.func89,Tryz.ntmps89;go_wp2_with (first|((with_reducible refine qf (N:=2) rfl ?_);refine qt ?hg (N:=2) ?hd (cs:=#[.int .i64 a0_0,.slice A0_1 l0_1.length c0_1]) (t:=129) ?hr ?_;(case hd=>rfl);(case hg=>rfl);(case hr=>first|(go_simp;done)|(go_simp;rfl));intro gb362 hg w4 hbox hb;have n0_:=Qk (zi HB.out hb);have n1_:=Qk (hbox);have n2_:=Qk ((by rw[hg];exact(ze HB.out):w.heap.size<=gb362));have n3_:=Qk ((by rw[hg];exact(ze HB.out):w.heap.size<=gb362));clear HB;have HB:=n0_;have BK362:=n1_;have GW362:=n2_;have GE362:=n3_;clear n0_ n1_ n2_ n3_;(try clear hb);(try clear hbox);(try clear hg);have hcz5_0:w4.cell? ⟨gb362,0,none⟩=some (.int .i64 a0_0):=(zf BK362.out 0).trans rfl;have hcz5_1:w4.cell? ⟨gb362,1,none⟩=some (.slice A0_1 l0_1.length c0_1):=(zf BK362.out 1).trans rfl;have hfz5_0:=zh BK362.out 0;have hfz5_1:=zh BK362.out 1))
  go_ret;exact⟨rfl,HB.out⟩
 ·rw[if_neg c3]at H;have c3b0:decide (a1<a0_0)=false:=Qn c3;clear c3;by_cases c6:a1≥(wrap64 (a0_0+(l0_1.length:Int)))
  ·rw[if_pos c6]at H;have c6b0:decide ((wrap64 (a0_0+(l0_1.length:Int)))<=a1)=true:=Qm c6;clear c6;obtain rfl:=Qp H;go_enter Tryz.func89,Tryz.ntmps89;go_wp2_with (first|((with_reducible refine qf (N:=2) rfl ?_);refine qt ?hg (N:=2) ?hd (cs:=#[.int .i64 a0_0,.slice A0_1 l0_1.length c0_1]) (t:=129) ?hr ?_;(case hd=>rfl);(case hg=>rfl);(case hr=>first|(go_simp;done)|(go_simp;rfl));intro gb362 hg w7 hbox hb;have n0_:=Qk (zi HB.out hb);have n1_:=Qk (hbox);have n2_:=Qk ((by rw[hg];exact(ze HB.out):w.heap.size<=gb362));have n3_:=Qk ((by rw[hg];exact(ze HB.out):w.heap.size<=gb362));clear HB;have HB:=n0_;have BK362:=n1_;have GW362:=n2_;have GE362:=n3_;clear n0_ n1_ n2_ n3_;(try clear hb);(try clear hbox);(try clear hg);have hcz8_0:w7.cell? ⟨gb362,0,none⟩=some (.int .i64 a0_0):=(zf BK362.out 0).trans rfl;have hcz8_1:w7.cell? ⟨gb362,1,none⟩=some (.slice A0_1 l0_1.length c0_1):=(zf BK362.out 1).trans rfl;have hfz8_0:=zh BK362.out 0;have hfz8_1:=zh BK362.out 1))
   go_ret;exact⟨rfl,HB.out⟩
  ·rw[if_neg c6]at H;have c6b0:decide ((wrap64 (a0_0+(l0_1.length:Int)))<=a1)=false:=Qn c6;clear c6;obtain⟨ji9,hji9⟩:∃ j_:Int,(wrap64 (a1-a0_0))=j_:=⟨_,rfl⟩
   replace H:(if 0<=(ji9)then(if (ji9)<(l0_1.length:Int)then(some (rd l0_1 (ji9)))else(none))else(none))=some r:=by first|(rw[hji9]at H;exact H)|(simp only[hji9]at H ⊢;exact H)
   have hji9w:(IntKind.i64.wrap (a1-a0_0))=ji9:=(zp _).trans hji9;replace H:=ifSome H;obtain⟨c10,H⟩:=H;have c10b0:decide (0<=(ji9))=true:=Qm c10;clear c10;replace H:=ifSome H;obtain⟨c11,H⟩:=H;have c11b0:decide ((ji9)<(l0_1.length:Int))=true:=Qm c11;clear c11;obtain rfl:=Qp H;go_enter Tryz.func89,Tryz.ntmps89;go_wp2_with (first|((with_reducible refine qf (N:=2) rfl ?_);refine qt ?hg (N:=2) ?hd (cs:=#[.int .i64 a0_0,.slice A0_1 l0_1.length c0_1]) (t:=129) ?hr ?_;(case hd=>rfl);(case hg=>rfl);(case hr=>first|(go_simp;done)|(go_simp;rfl));intro gb362 hg w12 hbox hb;have n0_:=Qk (zi HB.out hb);have n1_:=Qk (hbox);have n2_:=Qk ((by rw[hg];exact(ze HB.out):w.heap.size<=gb362));have n3_:=Qk ((by rw[hg];exact(ze HB.out):w.heap.size<=gb362));clear HB;have HB:=n0_;have BK362:=n1_;have GW362:=n2_;have GE362:=n3_;clear n0_ n1_ n2_ n3_;(try clear hb);(try clear hbox);(try clear hg);have hcz13_0:w12.cell? ⟨gb362,0,none⟩=some (.int .i64 a0_0):=(zf BK362.out 0).trans rfl;have hcz13_1:w12.cell? ⟨gb362,1,none⟩=some (.slice A0_1 l0_1.length c0_1):=(zf BK362.out 1).trans rfl;have hfz13_0:=zh BK362.out 0;have hfz13_1:=zh BK362.out 1;have p363:0<=((ji9):Int):=Ql (by first|(with_reducible assumption)|assumption);have q363:(ji9)<(l0_1.length:Int):=Ql (by first|(with_reducible assumption)|assumption);obtain⟨ad363,e363,hx363_0⟩:=Kd.at_int HR0_1.out (ji9) p363 q363;cases e363;replace hx363_0:=(HB.out.cell (Qq w _ hx363_0)).trans hx363_0;replace p363:=Qr p363;replace q363:=Qr q363))
   go_ret;exact⟨by first|rfl|(simp[zR,zQ] <;> rfl)|(simp only[← hji9];first|rfl|(simp[zR,zQ] <;> rfl))|(simp[*,zR,zQ] <;> rfl),HB.out⟩
mutual
def zK.l0:Nat->List Int->List Int->Int->Int->Int->Int->List Int->Int->List Int->Option (Int×List Int)
 |0,_,_,_,_,_,_,_,_,_=>none
 |k+1,x0,x1,x2,x14,x16,x365000,x365001,x367000,x367001=>if x16<=x14 then(if x2=0 then(zK.j1 k x0 x1 x2 x14 x16 (x16 == 0) x365000 x365001 x367000 x367001)else(zK.j1 k x0 x1 x2 x14 x16 false x365000 x365001 x367000 x367001))else(some (x367000,x367001))
def zK.j1:Nat->List Int->List Int->Int->Int->Int->Bool->Int->List Int->Int->List Int->Option (Int×List Int)
 |0,_,_,_,_,_,_,_,_,_,_=>none
 |k+1,x0,x1,x2,x14,x16,x46,x365000,x365001,x367000,x367001=>if x46=true then(if x367001.length<17592186044416 then(zK.l0 k x0 x1 x2 x14 (wrap64 (x16+1)) x365000 x365001 x367000 (x367001++[0]))else(none))else(if x2 > 0 then(if x16 > 0 then(none)else(zK.j2 k x0 x1 x2 x14 x16 false x365000 x365001 x367000 x367001))else(zK.j2 k x0 x1 x2 x14 x16 false x365000 x365001 x367000 x367001))
def zK.j2:Nat->List Int->List Int->Int->Int->Int->Bool->Int->List Int->Int->List Int->Option (Int×List Int)
 |0,_,_,_,_,_,_,_,_,_,_=>none
 |k+1,x0,x1,x2,x14,x16,x53,x365000,x365001,x367000,x367001=>if x53=true then(none)else((qI.f x365000 x365001 x16).bind fun t376=>((qI.f x367000 x367001 (wrap64 (x16-1))).bind fun t377=>(if x367001.length<17592186044416 then(zK.l0 k x0 x1 x2 x14 (wrap64 (x16+1)) x365000 x365001 x367000 (x367001++[mn (mn 1152921504606846976 (wrap64 (t376+1))) (wrap64 (t377+1))]))else(none))))
end
def zK.f(k:Nat)(l0:List Int)(l1:List Int)(a2:Int)(a3:Int)(a4:Int)(a5_0:Int)(l5_1:List Int):Option (Int×List Int):=zK.l0 k l0 l1 a2 (mn (l1.length:Int) (wrap64 (a2-a3))) (mx 0 (wrap64 (a2-a4))) a5_0 l5_1 (mx 0 (wrap64 (a2-a4))) ([]:List Int)
def zK.T7:Bool×List (List Nat×List Nat):=(true,[([],[]),([],[]),([0,1],[0,1]),([2],[2]),([],[]),([],[]),([5],[5]),([4,6,2],[4,6]),([7],[7]),([3,8],[3,8]),([9,7,0,1,2,3,4,5,6,7,8,9],[9])])
def zK.B7:List Nat:=[0,0,3,7,0,0,32,119,247,511,1023]
theorem zK.tab7:rtab .any (opsOf Tryz.f88 7)=zK.T7:=by kernel_rfl
theorem zK.bits7:Zq zK.T7.2 zK.B7=true:=by kernel_rfl
def zK.T10:Bool×List (List Nat×List Nat):=(true,[([],[]),([0],[0]),([1],[1]),([2],[2]),([3,2],[2,3]),([2,4],[2,4]),([5,2],[5]),([6],[6]),([6],[6]),([8,6],[6,8]),([7,9,6],[6,7,9]),([10,6],[6,10]),([6],[6]),([6],[6]),([13,6],[6,13]),([12,14,6],[6,12,14]),([15,6],[6,15]),([11,16,6],[6,11,16]),([6,17],[6,17]),([18,6],[18])])
def zK.B10:List Nat:=[0,1,3,7,15,31,63,127,127,383,1023,2047,127,127,8319,28799,61567,131071,262143,524287]
theorem zK.tab10:rtab .any (opsOf Tryz.f88 10)=zK.T10:=by kernel_rfl
theorem zK.bits10:Zq zK.T10.2 zK.B10=true:=by kernel_rfl
theorem zK.calls(k:Nat)(A0:Option Addr)(c0:Nat)(l0:List Int)(A1:Option Addr)(c1:Nat)(l1:List Int)(a2:Int)(a3:Int)(a4:Int)(a5_0:Int)(A5_1:Option Addr)(c5_1:Nat)(l5_1:List Int)(r1:Int)(r2:List Int)(w:World)(hr0:Kd.C (Kd.int .i64) w A0 l0.length l0)(hc0:l0.length<=c0)(hr1:Kd.C (Kd.int .i64) w A1 l1.length l1)(hc1:l1.length<=c1)(hr5_1:Kd.C (Kd.int .i64) w A5_1 l5_1.length l5_1)(hc5_1:l5_1.length<=c5_1)(h:zK.f k l0 l1 a2 a3 a4 a5_0 l5_1=some (r1,r2)) :
 Calls Tryz.prog 88 #[.slice A0 l0.length c0,.slice A1 l1.length c1,.int .i64 a2,.int .i64 a3,.int .i64 a4,.agg #[.int .i64 a5_0,.slice A5_1 l5_1.length c5_1]] w fun e w'=>∃ v1_:Value,e=.returned (.agg #[.int .i64 r1,v1_])/\Kd.R (Kd.int .i64) 3 w' w.heap.size (fun _=>True) v1_ r2/\Below w.heap.size w w':=by
 have hu129:=Tryz.underlying129;have HR0:=Qk hr0;have HC0:=Qk hc0;clear hr0 hc0;have HR1:=Qk hr1;have HC1:=Qk hc1;clear hr1 hc1;have HR5_1:=Qk hr5_1;have HC5_1:=Qk hc5_1;clear hr5_1 hc5_1;have HB:=Qk (Below.refl w.heap.size w);have H:(zK.l0 k l0 l1 a2 (mn (l1.length:Int) (wrap64 (a2-a3))) (mx 0 (wrap64 (a2-a4))) a5_0 l5_1 (mx 0 (wrap64 (a2-a4))) ([]:List Int))=some (r1,r2):=h;clear h;obtain⟨ji7,hji7⟩:∃ j_:Int,(mx 0 (wrap64 (a2-a4)))=j_:=⟨_,rfl⟩
 replace H:(zK.l0 k l0 l1 a2 (mn (l1.length:Int) (wrap64 (a2-a3))) ji7 a5_0 l5_1 ji7 ([]:List Int))=some (r1,r2):=by first|(rw[hji7]at H;exact H)|(simp only[hji7]at H ⊢;exact H)
 (try(have hji7l:0<=ji7:=by(rw[← hji7];unfold mx;(repeat' split) <;> omega)));(try(have hji7m:0<=ji7:=by omega));have hji7_:(if 0<(wrap64 (a2-a4))then(wrap64 (a2-a4))else 0)=ji7:=hji7;obtain⟨ji8,hji8⟩:∃ j_:Int,(mn (l1.length:Int) (wrap64 (a2-a3)))=j_:=⟨_,rfl⟩
 replace H:(zK.l0 k l0 l1 a2 ji8 ji7 a5_0 l5_1 ji7 ([]:List Int))=some (r1,r2):=by first|(rw[hji8]at H;exact H)|(simp only[hji8]at H ⊢;exact H)
 have hji8_:(if (wrap64 (a2-a3))<(l1.length:Int)then(wrap64 (a2-a3))else(l1.length:Int))=ji8:=hji8;have H':=Qk H;clear H;go_enter Tryz.func88,Tryz.ntmps88;go_wp2_with (first|((with_reducible refine qf (N:=11) rfl ?_);refine qt ?hg (N:=11) ?hd (cs:=#[.int .i64 a5_0,.slice A5_1 l5_1.length c5_1]) (t:=129) ?hr ?_;(case hd=>rfl);(case hg=>rfl);(case hr=>first|(go_simp;done)|(go_simp;rfl));intro gb364 hg w9 hbox hb;have n0_:=Qk (zi HB.out hb);have n1_:=Qk (hbox);have n2_:=Qk ((by rw[hg];exact(ze HB.out):w.heap.size<=gb364));have n3_:=Qk ((by rw[hg];exact(ze HB.out):w.heap.size<=gb364));clear HB;have HB:=n0_;have BK364:=n1_;have GW364:=n2_;have GE364:=n3_;clear n0_ n1_ n2_ n3_;(try clear hb);(try clear hbox);(try clear hg))|((with_reducible refine qf (N:=12) rfl ?_);refine qt ?hg (N:=12) ?hd (cs:=#[.int .i64 0,.slice none 0 0]) (t:=129) ?hr ?_;(case hd=>rfl);(case hg=>rfl);(case hr=>first|(go_simp;done)|(go_simp;rfl));intro gb365 hg w10 hbox hb;have n0_:=Qk (zy (g:=gb364) (o:=.cells #[.int .i64 a5_0,.slice A5_1 l5_1.length c5_1] 129 (0,0)) (by(with_reducible repeat(first|refine zn ?_ _|refine zo ?_|refine zl ?_ _));exact BK364.out) hb);have n1_:=Qk (zi HB.out hb);have n2_:=Qk (hbox);have n3_:=Qk ((by rw[hg];exact(ze HB.out):w.heap.size<=gb365));have n4_:=Qk ((by rw[hg];exact(ze HB.out):w.heap.size<=gb365));have n5_:=Qk ((by rw[hg];exact Nat.ne_of_lt (Zh (g:=gb364) (o:=.cells #[.int .i64 a5_0,.slice A5_1 l5_1.length c5_1] 129 (0,0)) (by(with_reducible repeat(first|refine zn ?_ _|refine zo ?_|refine zl ?_ _));exact BK364.out)):gb364≠gb365));have n6_:=Qk ((by rw[hg];exact Nat.ne_of_gt (Zh (g:=gb364) (o:=.cells #[.int .i64 a5_0,.slice A5_1 l5_1.length c5_1] 129 (0,0)) (by(with_reducible repeat(first|refine zn ?_ _|refine zo ?_|refine zl ?_ _));exact BK364.out)):gb365≠gb364));clear BK364;clear HB;have BK364:=n0_;have HB:=n1_;have BK365:=n2_;have GW365:=n3_;have GE365:=n4_;have NB364_365:=n5_;have NB365_364:=n6_;clear n0_ n1_ n2_ n3_ n4_ n5_ n6_;(try clear hb);(try clear hbox);(try clear hg))|((with_reducible refine qf (N:=15) rfl ?_);refine qt ?hg (N:=15) ?hd (cs:=#[.int .i64 0,.slice none 0 0]) (t:=129) ?hr ?_;(case hd=>rfl);(case hg=>rfl);(case hr=>first|(go_simp;done)|(go_simp;rfl));intro gb366 hg w11 hbox hb;have n0_:=Qk (zy (g:=gb364) (o:=.cells #[.int .i64 a5_0,.slice A5_1 l5_1.length c5_1] 129 (0,0)) (by(with_reducible repeat(first|refine zn ?_ _|refine zo ?_|refine zl ?_ _));exact BK364.out) hb);have n1_:=Qk (zy (g:=gb365) (o:=.cells #[.int .i64 0,.slice none 0 0] 129 (0,0)) (by(with_reducible repeat(first|refine zn ?_ _|refine zo ?_|refine zl ?_ _));exact BK365.out) hb);have n2_:=Qk (zi HB.out hb);have n3_:=Qk (hbox);have n4_:=Qk ((by rw[hg];exact(ze HB.out):w.heap.size<=gb366));have n5_:=Qk ((by rw[hg];exact(ze HB.out):w.heap.size<=gb366));have n6_:=Qk ((by rw[hg];exact Nat.ne_of_lt (Zh (g:=gb364) (o:=.cells #[.int .i64 a5_0,.slice A5_1 l5_1.length c5_1] 129 (0,0)) (by(with_reducible repeat(first|refine zn ?_ _|refine zo ?_|refine zl ?_ _));exact BK364.out)):gb364≠gb366));have n7_:=Qk ((by rw[hg];exact Nat.ne_of_gt (Zh (g:=gb364) (o:=.cells #[.int .i64 a5_0,.slice A5_1 l5_1.length c5_1] 129 (0,0)) (by(with_reducible repeat(first|refine zn ?_ _|refine zo ?_|refine zl ?_ _));exact BK364.out)):gb366≠gb364));have n8_:=Qk ((by rw[hg];exact Nat.ne_of_lt (Zh (g:=gb365) (o:=.cells #[.int .i64 0,.slice none 0 0] 129 (0,0)) (by(with_reducible repeat(first|refine zn ?_ _|refine zo ?_|refine zl ?_ _));exact BK365.out)):gb365≠gb366));have n9_:=Qk ((by rw[hg];exact Nat.ne_of_gt (Zh (g:=gb365) (o:=.cells #[.int .i64 0,.slice none 0 0] 129 (0,0)) (by(with_reducible repeat(first|refine zn ?_ _|refine zo ?_|refine zl ?_ _));exact BK365.out)):gb366≠gb365));clear BK364;clear BK365;clear HB;have BK364:=n0_;have BK365:=n1_;have HB:=n2_;have BK366:=n3_;have GW366:=n4_;have GE366:=n5_;have NB364_366:=n6_;have NB366_364:=n7_;have NB365_366:=n8_;have NB366_365:=n9_;clear n0_ n1_ n2_ n3_ n4_ n5_ n6_ n7_ n8_ n9_;(try clear hb);(try clear hbox);(try clear hg);have hnb12:=NB366_364.out;have hnc12:=NB364_366.out;have hnb13:=NB366_365.out;have hnc13:=NB365_366.out;have hcz14_0:w11.cell? ⟨gb366,0,none⟩=some (.int .i64 0):=(zf BK366.out 0).trans rfl;have hcz14_1:w11.cell? ⟨gb366,1,none⟩=some (.slice none 0 0):=(zf BK366.out 1).trans rfl;have hfz14_0:=zh BK366.out 0;have hfz14_1:=zh BK366.out 1))
 go_loopg [16] k (fun kq v16 w'=>∃ (x16_1:Int) (x367001_1:List Int) (u367001:Value),v16=.int .i64 x16_1/\Aside0 (zK.l0 kq l0 l1 a2 ji8 x16_1 a5_0 l5_1 ji7 x367001_1=some (r1,r2))/\Aside0 (kq<=k)/\Aside0 (Kd.R (Kd.int .i64) 3 w' w.heap.size (fun _=>True) u367001 x367001_1)/\Aside0 (w'.heap[gb364]?=some (.cells #[.int .i64 a5_0,(.slice A5_1 l5_1.length c5_1)] 129 (0,0)))/\Aside0 (w'.heap[gb365]?=some (.cells #[.int .i64 0,(.slice none 0 0)] 129 (0,0)))/\Aside0 (w'.heap[gb366]?=some (.cells #[.int .i64 ji7,u367001] 129 (0,0)))/\Aside0 (Below w.heap.size w w'))
 case atStart=>exact⟨(ji7),(([]:List Int)),(.slice none 0 0),(by first|rfl|(simp;done)|(simp only[← hji7] <;> (first|rfl|simp))|(simp[*];done)),H',⟨Nat.le_refl _⟩,⟨by first|exact Kd.R_nil _ _ _ _ _|exact Kd.N_nil _ _ _ _ _|exact Kd.V_nil _ _ _ _ _|exact Kd.Q_nil _ _ _ _ _|exact Kd.S_nil _ _ _ _ _⟩,⟨by(with_reducible repeat(first|refine zn ?_ _|refine zo ?_|refine zl ?_ _));refine qD ?_ NB364_366.out _;(with_reducible repeat(first|refine zn ?_ _|refine zo ?_|refine zl ?_ _));refine qD ?_ NB364_366.out _;(with_reducible repeat(first|refine zn ?_ _|refine zo ?_|refine zl ?_ _));exact BK364.out⟩,⟨by(with_reducible repeat(first|refine zn ?_ _|refine zo ?_|refine zl ?_ _));refine qD ?_ NB365_366.out _;(with_reducible repeat(first|refine zn ?_ _|refine zo ?_|refine zl ?_ _));refine qD ?_ NB365_366.out _;(with_reducible repeat(first|refine zn ?_ _|refine zo ?_|refine zl ?_ _));exact BK365.out⟩,⟨by(with_reducible repeat(first|refine zn ?_ _|refine zo ?_|refine zl ?_ _));refine qi (cs:=#[.int .i64 ji7,.slice none 0 0]) ?_ 1 _ rfl;(with_reducible repeat(first|refine zn ?_ _|refine zo ?_|refine zl ?_ _));refine qi (cs:=#[.int .i64 0,.slice none 0 0]) ?_ 0 _ rfl;(with_reducible repeat(first|refine zn ?_ _|refine zo ?_|refine zl ?_ _));exact BK366.out⟩,⟨by repeat(first|(with_reducible first|exact HB.out|apply za|apply zb|apply zg|refine zr ?_ GE364.out|refine zr ?_ GE365.out|refine zr ?_ GE366.out)|exact HB.out)⟩⟩
 case round =>
  clear H';obtain⟨x16_1,x367001_1,u367001,rfl,HA,HK1,HO_367001,BK364,BK365,BK366,HB⟩:=hrel
  cases gk with
  |zero=>exact absurd HA.out (by simp[zK.l0])
  |succ k1 =>
   have H:=HA.out;clear HA;simp only[zK.l0]at H;by_cases c15:x16_1<=ji8
   ·rw[if_pos c15]at H;have c15b0:decide (x16_1<=ji8)=true:=Qm c15;clear c15;have HC16:=Qk H;clear H;go_upto_region 8 with(fail)
    go_cut [46] (fun v46 wc=>∃ (kq:Nat) (x46_15:Bool),v46=.bool x46_15/\Aside0 (zK.j1 kq l0 l1 a2 ji8 x16_1 x46_15 a5_0 l5_1 ji7 x367001_1=some (r1,r2))/\Aside0 (kq<=k1)/\Aside0 (Kd.R (Kd.int .i64) 3 wc w.heap.size (fun _=>True) u367001 x367001_1)/\Aside0 (wc.heap[gb364]?=some (.cells #[.int .i64 a5_0,(.slice A5_1 l5_1.length c5_1)] 129 (0,0)))/\Aside0 (wc.heap[gb365]?=some (.cells #[.int .i64 0,(.slice none 0 0)] 129 (0,0)))/\Aside0 (wc.heap[gb366]?=some (.cells #[.int .i64 ji7,u367001] 129 (0,0)))/\Aside0 (Below w.heap.size w wc))
    case first =>
     have H:=HC16.out;clear HC16;by_cases c17:a2=0
     ·rw[if_pos c17]at H;have c17b0:(a2 == 0)=true:=beq_iff_eq.mpr c17;have c17b1:(a2 != 0)=false:=bne_eq_false_iff_eq.mpr c17;clear c17;(first|rw[c17b0]|(simp only[zp,zw];rw[c17b0])|skip);have H':=Qk H;clear H;go_wp2;go_meet
      case rel=>exact⟨_,((x16_1 == 0)),rfl,H',⟨by have:=HK1.out;first|omega|exact Nat.le_refl _⟩,⟨HO_367001.out⟩,⟨by(with_reducible repeat(first|refine zn ?_ _|refine zo ?_|refine zl ?_ _));exact BK364.out⟩,⟨by(with_reducible repeat(first|refine zn ?_ _|refine zo ?_|refine zl ?_ _));exact BK365.out⟩,⟨by(with_reducible repeat(first|refine zn ?_ _|refine zo ?_|refine zl ?_ _));exact BK366.out⟩,⟨HB.out⟩⟩
     ·rw[if_neg c17]at H;have c17b0:(a2 == 0)=false:=beq_eq_false_iff_ne.mpr c17;have c17b1:(a2 != 0)=true:=bne_iff_ne.mpr c17;(first|rw[c17b0]|(simp only[zp,zw];rw[c17b0])|skip);have H':=Qk H;clear H;go_wp2;go_meet
      case rel=>exact⟨_,(false),rfl,H',⟨by have:=HK1.out;first|omega|exact Nat.le_refl _⟩,⟨HO_367001.out⟩,⟨by(with_reducible repeat(first|refine zn ?_ _|refine zo ?_|refine zl ?_ _));exact BK364.out⟩,⟨by(with_reducible repeat(first|refine zn ?_ _|refine zo ?_|refine zl ?_ _));exact BK365.out⟩,⟨by(with_reducible repeat(first|refine zn ?_ _|refine zo ?_|refine zl ?_ _));exact BK366.out⟩,⟨HB.out⟩⟩
    case rest =>
     clear HC16;obtain⟨kq,x46_15,rfl,HA,HJ15,HO_367001,BK364,BK365,BK366,HB⟩:=hcut
     cases kq with
     |zero=>exact absurd HA.out (by simp[zK.j1])
     |succ kj15 =>
      have H:=HA.out;clear HA;simp only[zK.j1]at H;by_cases c18:x46_15=true
      ·subst c18;have H1:(if x367001_1.length<17592186044416 then(zK.l0 kj15 l0 l1 a2 ji8 (wrap64 (x16_1+1)) a5_0 l5_1 ji7 (x367001_1++[0]))else(none))=some (r1,r2):=by rw[if_pos rfl]at H;exact H
       clear H;have H:=H1;clear H1;replace H:=ifSome H;obtain⟨c19,H⟩:=H;have LMc19:=Qk c19;clear c19;obtain⟨y367,hy367⟩:∃ y_:List Int,y_=(x367001_1++[0]):=⟨_,rfl⟩
       replace H:(zK.l0 kj15 l0 l1 a2 ji8 (wrap64 (x16_1+1)) a5_0 l5_1 ji7 y367)=some (r1,r2):=by first|(rw[hy367];with_reducible exact H)|(have H2_:=(Option.bind_some _ _).symm.trans H;rw[hy367];with_reducible exact H2_)|(have H2_:=(Option.bind_some _ _).symm.trans H;with_reducible exact H2_)|with_reducible exact H|(rw[hy367];exact H)|exact H
       have Ny367:=Qk hy367;clear hy367;have H':=Qk H;clear H;have hnb20:=NB366_364.out;have hnc20:=NB364_366.out;have hnb21:=NB366_365.out;have hnc21:=NB365_366.out;have hcz22_0:wc.cell? ⟨gb366,0,none⟩=some (.int .i64 ji7):=(zf BK366.out 0).trans rfl;have hcz22_1:wc.cell? ⟨gb366,1,none⟩=some (u367001):=(zf BK366.out 1).trans rfl;have hfz22_0:=zh BK366.out 0;have hfz22_1:=zh BK366.out 1;go_wp2_with (first|((with_reducible refine zO (b:=.append) (xs:=#[.tmp 78,.tmp 80]) rfl ?_);at_builtin;refine Kd.R_append (Kd.int .i64) (w0:=w) w.heap.size rfl (.tmp 78) (.tmp 80) 25 3 (.int .i64 0) 8 rfl Tryz.underlying25 info3 rfl (by decide) (by omega) u367001 x367001_1 0 [.int .i64 0] (fun _=>True) (fun _=>False) rfl rfl ?aP (fun _ hk=>hk.elim) ?aF ?aO ?aB ?aS ?aL ?_;(case aP=>exact rfl);(case aB=>exact HB.out);(case aF=>exact(fun _ _=>trivial));(case aO=>exact HO_367001.out);(case aS=>exact(ze HB.out));(case aL=>have:=LMc19.out;omega);intro v368 w23 ho hb hg hat;rw[← Ny367.out]at ho;have n0_:=Qk (qC (g:=gb364) (o:=.cells #[.int .i64 a5_0,.slice A5_1 l5_1.length c5_1] 129 (0,0)) (by(with_reducible repeat(first|refine zn ?_ _|refine zo ?_|refine zl ?_ _));exact BK364.out) hg (Kd.R_ne HO_367001.out BK364.out (by decide)));have n1_:=Qk (qC (g:=gb365) (o:=.cells #[.int .i64 0,.slice none 0 0] 129 (0,0)) (by(with_reducible repeat(first|refine zn ?_ _|refine zo ?_|refine zl ?_ _));exact BK365.out) hg (Kd.R_ne HO_367001.out BK365.out (by decide)));have n2_:=Qk (qC (g:=gb366) (o:=.cells #[.int .i64 ji7,u367001] 129 (0,0)) (by(with_reducible repeat(first|refine zn ?_ _|refine zo ?_|refine zl ?_ _));exact BK366.out) hg (Kd.R_ne HO_367001.out BK366.out (by decide)));have n3_:=Qk (hb);have n4_:=Qk (ho);clear BK364;clear BK365;clear BK366;clear HB;clear HO_367001;have BK364:=n0_;have BK365:=n1_;have BK366:=n2_;have HB:=n3_;have HO369:=n4_;clear n0_ n1_ n2_ n3_ n4_;obtain⟨Ao24,co24,eo24⟩:=Kd.R_slice HO369.out;subst eo24;have hcz25_0:w23.cell? ⟨gb366,0,none⟩=some (.int .i64 ji7):=(zf BK366.out 0).trans rfl;have hcz25_1:w23.cell? ⟨gb366,1,none⟩=some (u367001):=(zf BK366.out 1).trans rfl;have hfz25_0:=zh BK366.out 0;have hfz25_1:=zh BK366.out 1))
       go_roundg kj15
       case measure=>have:=HK1.out;have:=HJ15.out;omega
       case rel=>exact⟨(wrap64 (x16_1+1)),(y367),(.slice Ao24 y367.length co24),rfl,H',⟨by have:=HK1.out;have:=HJ15.out;omega⟩,⟨by(with_reducible repeat(first|apply Kd.R_alloc|apply Kd.R_drewN|apply Kd.R_drew));exact Kd.R_mono (Kd.R_far (p:=⟨gb366,1,none⟩) (Kd.R_types HO369.out BK366.out (by decide)) (fun _ hk=>hk.2) (.slice Ao24 y367.length co24)) (fun _ hk=>trivial)⟩,⟨by(with_reducible repeat(first|refine zn ?_ _|refine zo ?_|refine zl ?_ _));refine qD ?_ NB364_366.out _;(with_reducible repeat(first|refine zn ?_ _|refine zo ?_|refine zl ?_ _));exact BK364.out⟩,⟨by(with_reducible repeat(first|refine zn ?_ _|refine zo ?_|refine zl ?_ _));refine qD ?_ NB365_366.out _;(with_reducible repeat(first|refine zn ?_ _|refine zo ?_|refine zl ?_ _));exact BK365.out⟩,⟨by(with_reducible repeat(first|refine zn ?_ _|refine zo ?_|refine zl ?_ _));refine qi (cs:=#[.int .i64 ji7,u367001]) ?_ 1 _ rfl;(with_reducible repeat(first|refine zn ?_ _|refine zo ?_|refine zl ?_ _));exact BK366.out⟩,⟨by repeat(first|(with_reducible first|exact HB.out|apply za|apply zb|apply zg|refine zr ?_ GE364.out|refine zr ?_ GE365.out|refine zr ?_ GE366.out)|exact HB.out)⟩⟩
      ·replace c18:=Bool.eq_false_iff.mpr c18;subst c18;have H1:(if a2 > 0 then(if x16_1 > 0 then(none)else(zK.j2 kj15 l0 l1 a2 ji8 x16_1 false a5_0 l5_1 ji7 x367001_1))else(zK.j2 kj15 l0 l1 a2 ji8 x16_1 false a5_0 l5_1 ji7 x367001_1))=some (r1,r2):=by rw[if_neg (show ¬ (false=true) by decide)]at H;exact H
       clear H;have H:=H1;clear H1;have HC26:=Qk H;clear H;go_upto_region 10 with(fail)
       go_cut [53] (fun v53 wc=>∃ (kq:Nat) (x53_25:Bool),v53=.bool x53_25/\Aside0 (zK.j2 kq l0 l1 a2 ji8 x16_1 x53_25 a5_0 l5_1 ji7 x367001_1=some (r1,r2))/\Aside0 (kq<=kj15)/\Aside0 (Kd.R (Kd.int .i64) 3 wc w.heap.size (fun _=>True) u367001 x367001_1)/\Aside0 (wc.heap[gb364]?=some (.cells #[.int .i64 a5_0,(.slice A5_1 l5_1.length c5_1)] 129 (0,0)))/\Aside0 (wc.heap[gb365]?=some (.cells #[.int .i64 0,(.slice none 0 0)] 129 (0,0)))/\Aside0 (wc.heap[gb366]?=some (.cells #[.int .i64 ji7,u367001] 129 (0,0)))/\Aside0 (Below w.heap.size w wc))
       case first =>
        have H:=HC26.out;clear HC26;by_cases c27:a2 > 0
        ·rw[if_pos c27]at H;have c27b0:decide (0<a2)=true:=Qm c27;clear c27;(first|rw[c27b0]|(simp only[zp,zw];rw[c27b0])|skip);by_cases c28:x16_1 > 0
         ·rw[if_pos c28]at H;exact absurd H (by simp)
         ·rw[if_neg c28]at H;have c28b0:decide (0<x16_1)=false:=Qn c28;clear c28;have H':=Qk H;clear H;try go_wp2
          have n0_:=Qk (Kd.R_drew HO_367001.out);have n1_:=Qk (zo BK364.out);have n2_:=Qk (zo BK365.out);have n3_:=Qk (zo BK366.out);have n4_:=Qk (zg HB.out);clear HO_367001;clear BK364;clear BK365;clear BK366;clear HB;have HO_367001:=n0_;have BK364:=n1_;have BK365:=n2_;have BK366:=n3_;have HB:=n4_;clear n0_ n1_ n2_ n3_ n4_;refine ZG (n:=20) (S:=fun w'=>True) (ds:=[]) #[N,N,N,N,N,N,N,N,N,N,N,N,N,N,N,N,N,N,N,N] (by kernel_rfl) rfl rfl trivial (fun hHeld=>?_);refine qR zK.tab10 zK.bits10 (fun HT_ HW_=>?_);generalize wc.drew=w36 at HO_367001 BK364 BK365 BK366 HB hHeld ⊢;refine zG (i:=0) (N:=some 54) (v:=?_) (a':=?_) #[Y,N,N,N,N,N,N,N,N,N,N,N,N,N,N,N,N,N,N,N] rfl rfl (zu HT_.out (by kernel_rfl)) (fun _ _ _ h=>h) (Or.inl ⟨by rfl,?_⟩) ?_ ?_;rotate_left
          ·intro w';go_simp;with_reducible rfl
          rotate_left
          ·simp only[Act.put,sA,sB,sC,zp,zw];rfl
          refine zG (i:=1) (N:=some 55) (v:=?_) (a':=?_) #[Y,Y,N,N,N,N,N,N,N,N,N,N,N,N,N,N,N,N,N,N] rfl rfl (zu HT_.out (by kernel_rfl)) (fun _ _ _ h=>h) (Or.inl ⟨by rfl,?_⟩) ?_ ?_;rotate_left
          ·intro w';go_simp;with_reducible rfl
          rotate_left
          ·simp only[Act.put,sA,sB,sC,zp,zw];rfl
          refine zG (i:=2) (N:=some 56) (v:=?_) (a':=?_) #[Y,Y,Y,N,N,N,N,N,N,N,N,N,N,N,N,N,N,N,N,N] rfl rfl (zu HT_.out (by kernel_rfl)) (fun _ _ _ h=>h) (Or.inl ⟨by rfl,?_⟩) ?_ ?_;rotate_left
          ·intro w';go_simp;with_reducible rfl
          rotate_left
          ·simp only[Act.put,sA,sB,sC,zp,zw];rfl
          refine zG (i:=3) (N:=some 57) (v:=?_) (a':=?_) #[Y,Y,Y,Y,N,N,N,N,N,N,N,N,N,N,N,N,N,N,N,N] rfl rfl (zu HT_.out (by kernel_rfl)) (fun _ _ _ h=>h) (Or.inl ⟨by rfl,?_⟩) ?_ ?_;rotate_left
          ·intro w';go_simp;with_reducible rfl
          rotate_left
          ·simp only[Act.put,sA,sB,sC,zp,zw];rfl
          refine zG (i:=4) (N:=some 58) (v:=?_) (a':=?_) #[Y,Y,Y,Y,Y,N,N,N,N,N,N,N,N,N,N,N,N,N,N,N] rfl rfl (zu HT_.out (by kernel_rfl)) (fun _ _ _ h=>h) (Or.inl ⟨by rfl,?_⟩) ?_ ?_;rotate_left
          ·intro w';go_simp;with_reducible rfl
          rotate_left
          ·simp only[Act.put,sA,sB,sC,zp,zw];rfl
          refine zG (i:=5) (N:=some 59) (v:=?_) (a':=?_) #[Y,Y,Y,Y,Y,Y,N,N,N,N,N,N,N,N,N,N,N,N,N,N] rfl rfl (zu HT_.out (by kernel_rfl)) (fun _ _ _ h=>h) (Or.inl ⟨by rfl,?_⟩) ?_ ?_;rotate_left
          ·intro w';go_simp;with_reducible rfl
          rotate_left
          ·simp only[Act.put,sA,sB,sC,zp,zw];rfl
          refine zG (i:=6) (N:=some 60) (v:=?_) (a':=?_) #[Y,Y,Y,Y,Y,Y,Y,N,N,N,N,N,N,N,N,N,N,N,N,N] rfl rfl (zu HT_.out (by kernel_rfl)) (fun _ _ _ h=>h) (Or.inl ⟨by rfl,?_⟩) ?_ ?_;rotate_left
          ·intro w';go_simp;with_reducible rfl
          rotate_left
          ·simp only[Act.put,sA,sB,sC,zp,zw];rfl
          refine zG (i:=7) (N:=some 61) (v:=undef) (a':=?_) #[Y,Y,Y,Y,Y,Y,Y,Y,N,N,N,N,N,N,N,N,N,N,N,N] rfl rfl (zu HT_.out (by kernel_rfl)) (fun _ _ _ h=>h) (Or.inr ⟨by rfl,rfl⟩) ?_ ?_;rotate_left
          ·simp only[Act.put,sA,sB,sC,zp,zw];rfl
          refine zG (i:=8) (N:=some 62) (v:=undef) (a':=?_) #[Y,Y,Y,Y,Y,Y,Y,Y,Y,N,N,N,N,N,N,N,N,N,N,N] rfl rfl (zu HT_.out (by kernel_rfl)) (fun _ _ _ h=>h) (Or.inr ⟨by rfl,rfl⟩) ?_ ?_;rotate_left
          ·simp only[Act.put,sA,sB,sC,zp,zw];rfl
          refine zG (i:=9) (N:=some 63) (v:=undef) (a':=?_) #[Y,Y,Y,Y,Y,Y,Y,Y,Y,Y,N,N,N,N,N,N,N,N,N,N] rfl rfl (zu HT_.out (by kernel_rfl)) (fun _ _ _ h=>h) (Or.inr ⟨by rfl,rfl⟩) ?_ ?_;rotate_left
          ·simp only[Act.put,sA,sB,sC,zp,zw];rfl
          refine zG (i:=10) (N:=some 64) (v:=undef) (a':=?_) #[Y,Y,Y,Y,Y,Y,Y,Y,Y,Y,Y,N,N,N,N,N,N,N,N,N] rfl rfl (zu HT_.out (by kernel_rfl)) (fun _ _ _ h=>h) (Or.inr ⟨by rfl,rfl⟩) ?_ ?_;rotate_left
          ·simp only[Act.put,sA,sB,sC,zp,zw];rfl
          refine zG (i:=11) (N:=some 65) (v:=undef) (a':=?_) #[Y,Y,Y,Y,Y,Y,Y,Y,Y,Y,Y,Y,N,N,N,N,N,N,N,N] rfl rfl (zu HT_.out (by kernel_rfl)) (fun _ _ _ h=>h) (Or.inr ⟨by rfl,rfl⟩) ?_ ?_;rotate_left
          ·simp only[Act.put,sA,sB,sC,zp,zw];rfl
          refine zG (i:=12) (N:=some 66) (v:=undef) (a':=?_) #[Y,Y,Y,Y,Y,Y,Y,Y,Y,Y,Y,Y,Y,N,N,N,N,N,N,N] rfl rfl (zu HT_.out (by kernel_rfl)) (fun _ _ _ h=>h) (Or.inr ⟨by rfl,rfl⟩) ?_ ?_;rotate_left
          ·simp only[Act.put,sA,sB,sC,zp,zw];rfl
          refine zG (i:=13) (N:=some 67) (v:=undef) (a':=?_) #[Y,Y,Y,Y,Y,Y,Y,Y,Y,Y,Y,Y,Y,Y,N,N,N,N,N,N] rfl rfl (zu HT_.out (by kernel_rfl)) (fun _ _ _ h=>h) (Or.inr ⟨by rfl,rfl⟩) ?_ ?_;rotate_left
          ·simp only[Act.put,sA,sB,sC,zp,zw];rfl
          refine zG (i:=14) (N:=some 68) (v:=undef) (a':=?_) #[Y,Y,Y,Y,Y,Y,Y,Y,Y,Y,Y,Y,Y,Y,Y,N,N,N,N,N] rfl rfl (zu HT_.out (by kernel_rfl)) (fun _ _ _ h=>h) (Or.inr ⟨by rfl,rfl⟩) ?_ ?_;rotate_left
          ·simp only[Act.put,sA,sB,sC,zp,zw];rfl
          refine zG (i:=15) (N:=some 69) (v:=undef) (a':=?_) #[Y,Y,Y,Y,Y,Y,Y,Y,Y,Y,Y,Y,Y,Y,Y,Y,N,N,N,N] rfl rfl (zu HT_.out (by kernel_rfl)) (fun _ _ _ h=>h) (Or.inr ⟨by rfl,rfl⟩) ?_ ?_;rotate_left
          ·simp only[Act.put,sA,sB,sC,zp,zw];rfl
          refine zG (i:=16) (N:=some 70) (v:=undef) (a':=?_) #[Y,Y,Y,Y,Y,Y,Y,Y,Y,Y,Y,Y,Y,Y,Y,Y,Y,N,N,N] rfl rfl (zu HT_.out (by kernel_rfl)) (fun _ _ _ h=>h) (Or.inr ⟨by rfl,rfl⟩) ?_ ?_;rotate_left
          ·simp only[Act.put,sA,sB,sC,zp,zw];rfl
          refine zG (i:=17) (N:=some 71) (v:=undef) (a':=?_) #[Y,Y,Y,Y,Y,Y,Y,Y,Y,Y,Y,Y,Y,Y,Y,Y,Y,Y,N,N] rfl rfl (zu HT_.out (by kernel_rfl)) (fun _ _ _ h=>h) (Or.inr ⟨by rfl,rfl⟩) ?_ ?_;rotate_left
          ·simp only[Act.put,sA,sB,sC,zp,zw];rfl
          refine zG (i:=18) (N:=some 72) (v:=?_) (a':=?_) #[Y,Y,Y,Y,Y,Y,Y,Y,Y,Y,Y,Y,Y,Y,Y,Y,Y,Y,Y,N] rfl rfl (zu HT_.out (by kernel_rfl)) (fun _ _ _ h=>h) (Or.inl ⟨by rfl,?_⟩) ?_ ?_;rotate_left
          ·intro w';go_simp;with_reducible rfl
          rotate_left
          ·simp only[Act.put,sA,sB,sC,zp,zw];rfl
          refine zG (i:=19) (N:=some 53) (v:=?_) (a':=?_) #[Y,Y,Y,Y,Y,Y,Y,Y,Y,Y,Y,Y,Y,Y,Y,Y,Y,Y,Y,Y] rfl rfl (zu HT_.out (by kernel_rfl)) (fun _ _ _ h=>h) (Or.inl ⟨by rfl,?_⟩) ?_ ?_;rotate_left
          ·intro w';go_simp;with_reducible rfl
          rotate_left
          ·simp only[Act.put,sA,sB,sC,zp,zw];rfl
          refine done_ (Zr HT_.out (by kernel_rfl)) ?_;try go_wp2
          go_meet
          case rel=>exact⟨_,(false),rfl,H',⟨by have:=HK1.out;have:=HJ15.out;first|omega|exact Nat.le_refl _⟩,⟨HO_367001.out⟩,⟨by(with_reducible repeat(first|refine zn ?_ _|refine zo ?_|refine zl ?_ _));exact BK364.out⟩,⟨by(with_reducible repeat(first|refine zn ?_ _|refine zo ?_|refine zl ?_ _));exact BK365.out⟩,⟨by(with_reducible repeat(first|refine zn ?_ _|refine zo ?_|refine zl ?_ _));exact BK366.out⟩,⟨HB.out⟩⟩
        ·rw[if_neg c27]at H;have c27b0:decide (0<a2)=false:=Qn c27;clear c27;(first|rw[c27b0]|(simp only[zp,zw];rw[c27b0])|skip);have H':=Qk H;clear H;try go_wp2
         have n0_:=Qk (Kd.R_drew HO_367001.out);have n1_:=Qk (zo BK364.out);have n2_:=Qk (zo BK365.out);have n3_:=Qk (zo BK366.out);have n4_:=Qk (zg HB.out);clear HO_367001;clear BK364;clear BK365;clear BK366;clear HB;have HO_367001:=n0_;have BK364:=n1_;have BK365:=n2_;have BK366:=n3_;have HB:=n4_;clear n0_ n1_ n2_ n3_ n4_;refine ZG (n:=20) (S:=fun w'=>True) (ds:=[]) #[N,N,N,N,N,N,N,N,N,N,N,N,N,N,N,N,N,N,N,N] (by kernel_rfl) rfl rfl trivial (fun hHeld=>?_);refine qR zK.tab10 zK.bits10 (fun HT_ HW_=>?_);generalize wc.drew=w37 at HO_367001 BK364 BK365 BK366 HB hHeld ⊢;refine zG (i:=0) (N:=some 54) (v:=?_) (a':=?_) #[Y,N,N,N,N,N,N,N,N,N,N,N,N,N,N,N,N,N,N,N] rfl rfl (zu HT_.out (by kernel_rfl)) (fun _ _ _ h=>h) (Or.inl ⟨by rfl,?_⟩) ?_ ?_;rotate_left
         ·intro w';go_simp;with_reducible rfl
         rotate_left
         ·simp only[Act.put,sA,sB,sC,zp,zw];rfl
         refine zG (i:=1) (N:=some 55) (v:=?_) (a':=?_) #[Y,Y,N,N,N,N,N,N,N,N,N,N,N,N,N,N,N,N,N,N] rfl rfl (zu HT_.out (by kernel_rfl)) (fun _ _ _ h=>h) (Or.inl ⟨by rfl,?_⟩) ?_ ?_;rotate_left
         ·intro w';go_simp;with_reducible rfl
         rotate_left
         ·simp only[Act.put,sA,sB,sC,zp,zw];rfl
         refine zG (i:=2) (N:=some 56) (v:=?_) (a':=?_) #[Y,Y,Y,N,N,N,N,N,N,N,N,N,N,N,N,N,N,N,N,N] rfl rfl (zu HT_.out (by kernel_rfl)) (fun _ _ _ h=>h) (Or.inl ⟨by rfl,?_⟩) ?_ ?_;rotate_left
         ·intro w';go_simp;with_reducible rfl
         rotate_left
         ·simp only[Act.put,sA,sB,sC,zp,zw];rfl
         refine zG (i:=3) (N:=some 57) (v:=undef) (a':=?_) #[Y,Y,Y,Y,N,N,N,N,N,N,N,N,N,N,N,N,N,N,N,N] rfl rfl (zu HT_.out (by kernel_rfl)) (fun _ _ _ h=>h) (Or.inr ⟨by rfl,rfl⟩) ?_ ?_;rotate_left
         ·simp only[Act.put,sA,sB,sC,zp,zw];rfl
         refine zG (i:=4) (N:=some 58) (v:=undef) (a':=?_) #[Y,Y,Y,Y,Y,N,N,N,N,N,N,N,N,N,N,N,N,N,N,N] rfl rfl (zu HT_.out (by kernel_rfl)) (fun _ _ _ h=>h) (Or.inr ⟨by rfl,rfl⟩) ?_ ?_;rotate_left
         ·simp only[Act.put,sA,sB,sC,zp,zw];rfl
         refine zG (i:=5) (N:=some 59) (v:=?_) (a':=?_) #[Y,Y,Y,Y,Y,Y,N,N,N,N,N,N,N,N,N,N,N,N,N,N] rfl rfl (zu HT_.out (by kernel_rfl)) (fun _ _ _ h=>h) (Or.inl ⟨by rfl,?_⟩) ?_ ?_;rotate_left
         ·intro w';go_simp;with_reducible rfl
         rotate_left
         ·simp only[Act.put,sA,sB,sC,zp,zw];rfl
         refine zG (i:=6) (N:=some 60) (v:=?_) (a':=?_) #[Y,Y,Y,Y,Y,Y,Y,N,N,N,N,N,N,N,N,N,N,N,N,N] rfl rfl (zu HT_.out (by kernel_rfl)) (fun _ _ _ h=>h) (Or.inl ⟨by rfl,?_⟩) ?_ ?_;rotate_left
         ·intro w';go_simp;with_reducible rfl
         rotate_left
         ·simp only[Act.put,sA,sB,sC,zp,zw];rfl
         refine zG (i:=7) (N:=some 61) (v:=undef) (a':=?_) #[Y,Y,Y,Y,Y,Y,Y,Y,N,N,N,N,N,N,N,N,N,N,N,N] rfl rfl (zu HT_.out (by kernel_rfl)) (fun _ _ _ h=>h) (Or.inr ⟨by rfl,rfl⟩) ?_ ?_;rotate_left
         ·simp only[Act.put,sA,sB,sC,zp,zw];rfl
         refine zG (i:=8) (N:=some 62) (v:=undef) (a':=?_) #[Y,Y,Y,Y,Y,Y,Y,Y,Y,N,N,N,N,N,N,N,N,N,N,N] rfl rfl (zu HT_.out (by kernel_rfl)) (fun _ _ _ h=>h) (Or.inr ⟨by rfl,rfl⟩) ?_ ?_;rotate_left
         ·simp only[Act.put,sA,sB,sC,zp,zw];rfl
         refine zG (i:=9) (N:=some 63) (v:=undef) (a':=?_) #[Y,Y,Y,Y,Y,Y,Y,Y,Y,Y,N,N,N,N,N,N,N,N,N,N] rfl rfl (zu HT_.out (by kernel_rfl)) (fun _ _ _ h=>h) (Or.inr ⟨by rfl,rfl⟩) ?_ ?_;rotate_left
         ·simp only[Act.put,sA,sB,sC,zp,zw];rfl
         refine zG (i:=10) (N:=some 64) (v:=undef) (a':=?_) #[Y,Y,Y,Y,Y,Y,Y,Y,Y,Y,Y,N,N,N,N,N,N,N,N,N] rfl rfl (zu HT_.out (by kernel_rfl)) (fun _ _ _ h=>h) (Or.inr ⟨by rfl,rfl⟩) ?_ ?_;rotate_left
         ·simp only[Act.put,sA,sB,sC,zp,zw];rfl
         refine zG (i:=11) (N:=some 65) (v:=undef) (a':=?_) #[Y,Y,Y,Y,Y,Y,Y,Y,Y,Y,Y,Y,N,N,N,N,N,N,N,N] rfl rfl (zu HT_.out (by kernel_rfl)) (fun _ _ _ h=>h) (Or.inr ⟨by rfl,rfl⟩) ?_ ?_;rotate_left
         ·simp only[Act.put,sA,sB,sC,zp,zw];rfl
         refine zG (i:=12) (N:=some 66) (v:=undef) (a':=?_) #[Y,Y,Y,Y,Y,Y,Y,Y,Y,Y,Y,Y,Y,N,N,N,N,N,N,N] rfl rfl (zu HT_.out (by kernel_rfl)) (fun _ _ _ h=>h) (Or.inr ⟨by rfl,rfl⟩) ?_ ?_;rotate_left
         ·simp only[Act.put,sA,sB,sC,zp,zw];rfl
         refine zG (i:=13) (N:=some 67) (v:=undef) (a':=?_) #[Y,Y,Y,Y,Y,Y,Y,Y,Y,Y,Y,Y,Y,Y,N,N,N,N,N,N] rfl rfl (zu HT_.out (by kernel_rfl)) (fun _ _ _ h=>h) (Or.inr ⟨by rfl,rfl⟩) ?_ ?_;rotate_left
         ·simp only[Act.put,sA,sB,sC,zp,zw];rfl
         refine zG (i:=14) (N:=some 68) (v:=undef) (a':=?_) #[Y,Y,Y,Y,Y,Y,Y,Y,Y,Y,Y,Y,Y,Y,Y,N,N,N,N,N] rfl rfl (zu HT_.out (by kernel_rfl)) (fun _ _ _ h=>h) (Or.inr ⟨by rfl,rfl⟩) ?_ ?_;rotate_left
         ·simp only[Act.put,sA,sB,sC,zp,zw];rfl
         refine zG (i:=15) (N:=some 69) (v:=undef) (a':=?_) #[Y,Y,Y,Y,Y,Y,Y,Y,Y,Y,Y,Y,Y,Y,Y,Y,N,N,N,N] rfl rfl (zu HT_.out (by kernel_rfl)) (fun _ _ _ h=>h) (Or.inr ⟨by rfl,rfl⟩) ?_ ?_;rotate_left
         ·simp only[Act.put,sA,sB,sC,zp,zw];rfl
         refine zG (i:=16) (N:=some 70) (v:=undef) (a':=?_) #[Y,Y,Y,Y,Y,Y,Y,Y,Y,Y,Y,Y,Y,Y,Y,Y,Y,N,N,N] rfl rfl (zu HT_.out (by kernel_rfl)) (fun _ _ _ h=>h) (Or.inr ⟨by rfl,rfl⟩) ?_ ?_;rotate_left
         ·simp only[Act.put,sA,sB,sC,zp,zw];rfl
         refine zG (i:=17) (N:=some 71) (v:=undef) (a':=?_) #[Y,Y,Y,Y,Y,Y,Y,Y,Y,Y,Y,Y,Y,Y,Y,Y,Y,Y,N,N] rfl rfl (zu HT_.out (by kernel_rfl)) (fun _ _ _ h=>h) (Or.inr ⟨by rfl,rfl⟩) ?_ ?_;rotate_left
         ·simp only[Act.put,sA,sB,sC,zp,zw];rfl
         refine zG (i:=18) (N:=some 72) (v:=?_) (a':=?_) #[Y,Y,Y,Y,Y,Y,Y,Y,Y,Y,Y,Y,Y,Y,Y,Y,Y,Y,Y,N] rfl rfl (zu HT_.out (by kernel_rfl)) (fun _ _ _ h=>h) (Or.inl ⟨by rfl,?_⟩) ?_ ?_;rotate_left
         ·intro w';go_simp;with_reducible rfl
         rotate_left
         ·simp only[Act.put,sA,sB,sC,zp,zw];rfl
         refine zG (i:=19) (N:=some 53) (v:=?_) (a':=?_) #[Y,Y,Y,Y,Y,Y,Y,Y,Y,Y,Y,Y,Y,Y,Y,Y,Y,Y,Y,Y] rfl rfl (zu HT_.out (by kernel_rfl)) (fun _ _ _ h=>h) (Or.inl ⟨by rfl,?_⟩) ?_ ?_;rotate_left
         ·intro w';go_simp;with_reducible rfl
         rotate_left
         ·simp only[Act.put,sA,sB,sC,zp,zw];rfl
         refine done_ (Zr HT_.out (by kernel_rfl)) ?_;try go_wp2
         go_meet
         case rel=>exact⟨_,(false),rfl,H',⟨by have:=HK1.out;have:=HJ15.out;first|omega|exact Nat.le_refl _⟩,⟨HO_367001.out⟩,⟨by(with_reducible repeat(first|refine zn ?_ _|refine zo ?_|refine zl ?_ _));exact BK364.out⟩,⟨by(with_reducible repeat(first|refine zn ?_ _|refine zo ?_|refine zl ?_ _));exact BK365.out⟩,⟨by(with_reducible repeat(first|refine zn ?_ _|refine zo ?_|refine zl ?_ _));exact BK366.out⟩,⟨HB.out⟩⟩
       case rest =>
        clear HC26;obtain⟨kq,x53_25,rfl,HA,HJ25,HO_367001,BK364,BK365,BK366,HB⟩:=hcut
        cases kq with
        |zero=>exact absurd HA.out (by simp[zK.j2])
        |succ kj25 =>
         have H:=HA.out;clear HA;simp only[zK.j2]at H;by_cases c38:x53_25=true
         ·rw[if_pos c38]at H;exact absurd H (by simp)
         ·replace c38:=Bool.eq_false_iff.mpr c38;subst c38;have H1:((qI.f a5_0 l5_1 x16_1).bind fun t376=>((qI.f ji7 x367001_1 (wrap64 (x16_1-1))).bind fun t377=>(if x367001_1.length<17592186044416 then(zK.l0 kj25 l0 l1 a2 ji8 (wrap64 (x16_1+1)) a5_0 l5_1 ji7 (x367001_1++[mn (mn 1152921504606846976 (wrap64 (t376+1))) (wrap64 (t377+1))]))else(none))))=some (r1,r2):=by rw[if_neg (show ¬ (false=true) by decide)]at H;exact H
          clear H;have H:=H1;clear H1;replace H:=Qo H;obtain⟨t376,A500,H⟩:=H;replace H:((qI.f ji7 x367001_1 (wrap64 (x16_1-1))).bind fun t377=>(if x367001_1.length<17592186044416 then(zK.l0 kj25 l0 l1 a2 ji8 (wrap64 (x16_1+1)) a5_0 l5_1 ji7 (x367001_1++[mn (mn 1152921504606846976 (wrap64 (t376+1))) (wrap64 (t377+1))]))else(none)))=some (r1,r2):=H;have A50:=Qk A500;clear A500;replace H:=Qo H;obtain⟨t377,A510,H⟩:=H;replace H:(if x367001_1.length<17592186044416 then(zK.l0 kj25 l0 l1 a2 ji8 (wrap64 (x16_1+1)) a5_0 l5_1 ji7 (x367001_1++[mn (mn 1152921504606846976 (wrap64 (t376+1))) (wrap64 (t377+1))]))else(none))=some (r1,r2):=H;have A51:=Qk A510;clear A510;obtain⟨ji52,hji52⟩:∃ j_:Int,(mn 1152921504606846976 (wrap64 (t376+1)))=j_:=⟨_,rfl⟩
          replace H:(if x367001_1.length<17592186044416 then(zK.l0 kj25 l0 l1 a2 ji8 (wrap64 (x16_1+1)) a5_0 l5_1 ji7 (x367001_1++[mn (ji52) (wrap64 (t377+1))]))else(none))=some (r1,r2):=by first|(rw[hji52]at H;exact H)|(simp only[hji52]at H ⊢;exact H)
          (try rw[hji52]at A50);(try rw[hji52]at A51);(try(have hji52h:ji52<=1152921504606846976:=by(rw[← hji52];unfold mn;(repeat' split) <;> omega)));(try(have hji52g:ji52<=64:=by omega));have hji52_:(if (wrap64 (t376+1))<1152921504606846976 then(wrap64 (t376+1))else 1152921504606846976)=ji52:=hji52;obtain⟨ji53,hji53⟩:∃ j_:Int,(mn (ji52) (wrap64 (t377+1)))=j_:=⟨_,rfl⟩
          replace H:(if x367001_1.length<17592186044416 then(zK.l0 kj25 l0 l1 a2 ji8 (wrap64 (x16_1+1)) a5_0 l5_1 ji7 (x367001_1++[ji53]))else(none))=some (r1,r2):=by first|(rw[hji53]at H;exact H)|(simp only[hji53]at H ⊢;exact H)
          (try rw[hji53]at A50);(try rw[hji53]at A51);have hji53_:(if (wrap64 (t377+1))<(ji52)then(wrap64 (t377+1))else(ji52))=ji53:=hji53;replace H:=ifSome H;obtain⟨c54,H⟩:=H;have LMc54:=Qk c54;clear c54;obtain⟨y378,hy378⟩:∃ y_:List Int,y_=(x367001_1++[ji53]):=⟨_,rfl⟩
          replace H:(zK.l0 kj25 l0 l1 a2 ji8 (wrap64 (x16_1+1)) a5_0 l5_1 ji7 y378)=some (r1,r2):=by first|(rw[hy378];with_reducible exact H)|(have H2_:=(Option.bind_some _ _).symm.trans H;rw[hy378];with_reducible exact H2_)|(have H2_:=(Option.bind_some _ _).symm.trans H;with_reducible exact H2_)|with_reducible exact H|(rw[hy378];exact H)|exact H
          have Ny378:=Qk hy378;clear hy378;have H':=Qk H;clear H;try go_wp2
          have n0_:=Qk (Kd.R_drew HO_367001.out);have n1_:=Qk (zo BK364.out);have n2_:=Qk (zo BK365.out);have n3_:=Qk (zo BK366.out);have n4_:=Qk (zg HB.out);clear HO_367001;clear BK364;clear BK365;clear BK366;clear HB;have HO_367001:=n0_;have BK364:=n1_;have BK365:=n2_;have BK366:=n3_;have HB:=n4_;clear n0_ n1_ n2_ n3_ n4_;refine ZG (n:=11) (S:=fun w'=>w'.cell? ⟨gb364,0,none⟩=some (.int .i64 a5_0)/\w'.cell? ⟨gb364,1,none⟩=some (.slice A5_1 l5_1.length c5_1)/\w'.cell? ⟨gb366,0,none⟩=some (.int .i64 ji7)/\w'.cell? ⟨gb366,1,none⟩=some (u367001)) (ds:=[]) #[N,N,N,N,N,N,N,N,N,N,N] (by kernel_rfl) rfl rfl ⟨(zf BK364.out 0).trans rfl,(zf BK364.out 1).trans rfl,(zf BK366.out 0).trans rfl,(zf BK366.out 1).trans rfl⟩ (fun hHeld=>?_);refine qR zK.tab7 zK.bits7 (fun HT_ HW_=>?_);generalize wc.drew=w55 at HO_367001 BK364 BK365 BK366 HB hHeld ⊢;refine zG (i:=1) (N:=some 37) (v:=?_) (a':=?_) #[N,Y,N,N,N,N,N,N,N,N,N] rfl rfl (zu HT_.out (by kernel_rfl)) (fun _ _ _ h=>h) (Or.inl ⟨by rfl,?_⟩) ?_ ?_;rotate_left
          ·intro w';go_simp;with_reducible rfl
          rotate_left
          ·simp only[Act.put,sA,sB,sC,zp,zw];rfl
          refine zG (i:=5) (N:=some 41) (v:=?_) (a':=?_) #[N,Y,N,N,N,Y,N,N,N,N,N] rfl rfl (zu HT_.out (by kernel_rfl)) (fun _ _ _ h=>h) (Or.inl ⟨by rfl,?_⟩) ?_ ?_;rotate_left
          ·intro w';go_simp;with_reducible rfl
          rotate_left
          ·simp only[Act.put,sA,sB,sC,zp,zw];rfl
          refine zG (i:=6) (N:=some 42) (v:=?_) (a':=?_) #[N,Y,N,N,N,Y,Y,N,N,N,N] rfl rfl (zu HT_.out (by kernel_rfl)) (fun _ _ _ h=>h) (Or.inl ⟨by rfl,?_⟩) ?_ ?_;rotate_left
          ·intro w';go_simp;with_reducible rfl
          rotate_left
          ·simp only[Act.put,sA,sB,sC,zp,zw];rfl
          refine take_ (i:=0) (N:=some 36) (v:=?_) (a':=?_) #[Y,Y,N,N,N,Y,Y,N,N,N,N] rfl rfl (qe HT_.out HW_.out (by kernel_rfl)) (fun _ _ _ h=>h) (Or.inl ⟨by rfl,?_⟩) hHeld ?_ ?_;rotate_left
          ·rintro w' ⟨s0,s1,s2,s3⟩;go_simp;with_reducible rfl
          rotate_left
          ·simp only[Act.put,sA,sB,sC,zp,zw];rfl
          refine take_ (i:=4) (N:=some 40) (v:=?_) (a':=?_) #[Y,Y,N,N,Y,Y,Y,N,N,N,N] rfl rfl (qe HT_.out HW_.out (by kernel_rfl)) (fun _ _ _ h=>h) (Or.inl ⟨by rfl,?_⟩) hHeld ?_ ?_;rotate_left
          ·rintro w' ⟨s0,s1,s2,s3⟩;go_simp;with_reducible rfl
          rotate_left
          ·simp only[Act.put,sA,sB,sC,zp,zw];rfl
          refine one_ (i:=2) (N:=some 38) #[Y,Y,Y,N,Y,Y,Y,N,N,N,N] rfl rfl (one_of HT_.out (by kernel_rfl)) (by decide) (fun K hK=>?_);refine goes_ Tryz.func89 (by kernel_rfl) rfl #[.agg #[.int .i64 a5_0,.slice A5_1 l5_1.length c5_1],.int .i64 x16_1] (by rfl) rfl rfl (by(try simp only[List.map_toArray,List.map_cons,List.map_nil]);first|done|rfl|(simp only[List.length_drop,List.length_take];rfl)) ?_;with_reducible refine(qI.calls a5_0 _ _ l5_1 x16_1 t376 _ ?side1 ?side2 A50.out).mono ?_;(case side1=>repeat(first|exact(Kd.C_below HR5_1.out HB.out)|(with_reducible refine Kd.C_alloc ?_ _)|(with_reducible refine Kd.C_drewN ?_ _)|(with_reducible refine Kd.C_drew ?_)));(case side2=>exact HC5_1.out);rintro e w56 ⟨rfl,hb⟩;refine⟨_,rfl,?_⟩;have n0_:=Qk (Kd.R_below HO_367001.out hb);have n1_:=Qk (zy (g:=gb364) (o:=.cells #[.int .i64 a5_0,.slice A5_1 l5_1.length c5_1] 129 (0,0)) (by(with_reducible repeat(first|refine zn ?_ _|refine zo ?_|refine zl ?_ _));exact BK364.out) hb);have n2_:=Qk (zy (g:=gb365) (o:=.cells #[.int .i64 0,.slice none 0 0] 129 (0,0)) (by(with_reducible repeat(first|refine zn ?_ _|refine zo ?_|refine zl ?_ _));exact BK365.out) hb);have n3_:=Qk (zy (g:=gb366) (o:=.cells #[.int .i64 ji7,u367001] 129 (0,0)) (by(with_reducible repeat(first|refine zn ?_ _|refine zo ?_|refine zl ?_ _));exact BK366.out) hb);have n4_:=Qk (zi HB.out hb);clear HO_367001;clear BK364;clear BK365;clear BK366;clear HB;have HO_367001:=n0_;have BK364:=n1_;have BK365:=n2_;have BK366:=n3_;have HB:=n4_;clear n0_ n1_ n2_ n3_ n4_;obtain⟨Ao57,co57,eo57⟩:=Kd.R_slice HO_367001.out;(first|subst eo57|(injection eo57 with f1_ f2_ f3_;have f4_:=f1_.symm;have f5_:=f3_.symm;clear f1_ f2_ f3_;subst f4_;subst f5_));refine hK.out _ _ ⟨(zf BK364.out 0).trans rfl,(zf BK364.out 1).trans rfl,(zf BK366.out 0).trans rfl,(zf BK366.out 1).trans rfl⟩ (fun hHeld=>?_);clear hK K;refine norm_ (a':=?_) ?_ ?_;rotate_left
          ·show Act.put _ (some 38) _=_
           simp only[Act.put,sA,sB,sC,zp,zw];rfl
          refine zG (i:=3) (N:=some 39) (v:=?_) (a':=?_) #[Y,Y,Y,Y,Y,Y,Y,N,N,N,N] rfl rfl (zu HT_.out (by kernel_rfl)) (fun _ _ _ h=>h) (Or.inl ⟨by rfl,?_⟩) ?_ ?_;rotate_left
          ·intro w';go_simp;with_reducible rfl
          rotate_left
          ·simp only[Act.put,sA,sB,sC,zp,zw];rfl
          refine one_ (i:=7) (N:=some 43) #[Y,Y,Y,Y,Y,Y,Y,Y,N,N,N] rfl rfl (one_of HT_.out (by kernel_rfl)) (by decide) (fun K hK=>?_);refine goes_ Tryz.func89 (by kernel_rfl) rfl #[.agg #[.int .i64 ji7,.slice Ao57 x367001_1.length co57],.int .i64 (wrap64 (x16_1-1))] (by rfl) rfl rfl (by(try simp only[List.map_toArray,List.map_cons,List.map_nil]);first|done|(simp only[hji7];rfl)|rfl|(simp only[List.length_drop,List.length_take];rfl)) ?_;with_reducible refine(qI.calls ji7 _ _ x367001_1 (wrap64 (x16_1-1)) t377 _ ?side1 ?side2 A51.out).mono ?_;(case side1=>repeat(first|exact(Kd.R_reads' HO_367001.out).2.2|(with_reducible refine Kd.C_alloc ?_ _)|(with_reducible refine Kd.C_drewN ?_ _)|(with_reducible refine Kd.C_drew ?_)));(case side2=>exact(Kd.R_reads' HO_367001.out).2.1);rintro e w58 ⟨rfl,hb⟩;refine⟨_,rfl,?_⟩;have n0_:=Qk (Kd.R_below HO_367001.out hb);have n1_:=Qk (zy (g:=gb364) (o:=.cells #[.int .i64 a5_0,.slice A5_1 l5_1.length c5_1] 129 (0,0)) (by(with_reducible repeat(first|refine zn ?_ _|refine zo ?_|refine zl ?_ _));exact BK364.out) hb);have n2_:=Qk (zy (g:=gb365) (o:=.cells #[.int .i64 0,.slice none 0 0] 129 (0,0)) (by(with_reducible repeat(first|refine zn ?_ _|refine zo ?_|refine zl ?_ _));exact BK365.out) hb);have n3_:=Qk (zy (g:=gb366) (o:=.cells #[.int .i64 ji7,.slice Ao57 x367001_1.length co57] 129 (0,0)) (by(with_reducible repeat(first|refine zn ?_ _|refine zo ?_|refine zl ?_ _));exact BK366.out) hb);have n4_:=Qk (zi HB.out hb);clear HO_367001;clear BK364;clear BK365;clear BK366;clear HB;have HO_367001:=n0_;have BK364:=n1_;have BK365:=n2_;have BK366:=n3_;have HB:=n4_;clear n0_ n1_ n2_ n3_ n4_;refine hK.out _ _ ⟨(zf BK364.out 0).trans rfl,(zf BK364.out 1).trans rfl,(zf BK366.out 0).trans rfl,(zf BK366.out 1).trans rfl⟩ (fun hHeld=>?_);clear hK K;refine norm_ (a':=?_) ?_ ?_;rotate_left
          ·show Act.put _ (some 43) _=_
           simp only[Act.put,sA,sB,sC,zp,zw];rfl
          refine zG (i:=8) (N:=some 44) (v:=?_) (a':=?_) #[Y,Y,Y,Y,Y,Y,Y,Y,Y,N,N] rfl rfl (zu HT_.out (by kernel_rfl)) (fun _ _ _ h=>h) (Or.inl ⟨by rfl,?_⟩) ?_ ?_;rotate_left
          ·intro w';go_simp;with_reducible rfl
          rotate_left
          ·simp only[Act.put,sA,sB,sC,zp,zw];rfl
          refine zG (i:=9) (N:=some 45) (v:=?_) (a':=?_) #[Y,Y,Y,Y,Y,Y,Y,Y,Y,Y,N] rfl rfl (zu HT_.out (by kernel_rfl)) (fun _ _ _ h=>h) (Or.inl ⟨by rfl,?_⟩) ?_ ?_;rotate_left
          ·intro w';go_simp;with_reducible rfl
          rotate_left
          ·simp only[Act.put,sA,sB,sC,zp,zw];rfl
          refine zG (i:=10) (N:=some 17) (v:=?_) (a':=?_) #[Y,Y,Y,Y,Y,Y,Y,Y,Y,Y,Y] rfl rfl (zu HT_.out (by kernel_rfl)) (fun _ _ _ h=>h) (Or.inl ⟨by rfl,?_⟩) ?_ ?_;rotate_left
          ·intro w';go_simp;with_reducible rfl
          rotate_left
          ·simp only[Act.put,sA,sB,sC,zp,zw];rfl
          refine done_ (Zr HT_.out (by kernel_rfl)) ?_;have hnb59:=NB366_364.out;have hnc59:=NB364_366.out;have hnb60:=NB366_365.out;have hnc60:=NB365_366.out;have hcz61_0:w58.cell? ⟨gb366,0,none⟩=some (.int .i64 ji7):=(zf BK366.out 0).trans rfl;have hcz61_1:w58.cell? ⟨gb366,1,none⟩=some (.slice Ao57 x367001_1.length co57):=(zf BK366.out 1).trans rfl;have hfz61_0:=zh BK366.out 0;have hfz61_1:=zh BK366.out 1;try go_wp2_with (first|((with_reducible refine zO (b:=.append) (xs:=#[.tmp 78,.tmp 80]) rfl ?_);at_builtin;refine Kd.R_append (Kd.int .i64) (w0:=w) w.heap.size rfl (.tmp 78) (.tmp 80) 25 3 (.int .i64 0) 8 rfl Tryz.underlying25 info3 rfl (by decide) (by omega) (.slice Ao57 x367001_1.length co57) x367001_1 ji53 [.int .i64 ji53] (fun _=>True) (fun _=>False) rfl rfl ?aP (fun _ hk=>hk.elim) ?aF ?aO ?aB ?aS ?aL ?_;(case aP=>exact rfl);(case aB=>exact HB.out);(case aF=>exact(fun _ _=>trivial));(case aO=>exact HO_367001.out);(case aS=>exact(ze HB.out));(case aL=>have:=LMc54.out;omega);intro v379 w62 ho hb hg hat;rw[← Ny378.out]at ho;have n0_:=Qk (qC (g:=gb364) (o:=.cells #[.int .i64 a5_0,.slice A5_1 l5_1.length c5_1] 129 (0,0)) (by(with_reducible repeat(first|refine zn ?_ _|refine zo ?_|refine zl ?_ _));exact BK364.out) hg (Kd.R_ne HO_367001.out BK364.out (by decide)));have n1_:=Qk (qC (g:=gb365) (o:=.cells #[.int .i64 0,.slice none 0 0] 129 (0,0)) (by(with_reducible repeat(first|refine zn ?_ _|refine zo ?_|refine zl ?_ _));exact BK365.out) hg (Kd.R_ne HO_367001.out BK365.out (by decide)));have n2_:=Qk (qC (g:=gb366) (o:=.cells #[.int .i64 ji7,.slice Ao57 x367001_1.length co57] 129 (0,0)) (by(with_reducible repeat(first|refine zn ?_ _|refine zo ?_|refine zl ?_ _));exact BK366.out) hg (Kd.R_ne HO_367001.out BK366.out (by decide)));have n3_:=Qk (hb);have n4_:=Qk (ho);clear BK364;clear BK365;clear BK366;clear HB;clear HO_367001;have BK364:=n0_;have BK365:=n1_;have BK366:=n2_;have HB:=n3_;have HO380:=n4_;clear n0_ n1_ n2_ n3_ n4_;obtain⟨Ao63,co63,eo63⟩:=Kd.R_slice HO380.out;subst eo63;have hcz64_0:w62.cell? ⟨gb366,0,none⟩=some (.int .i64 ji7):=(zf BK366.out 0).trans rfl;have hcz64_1:w62.cell? ⟨gb366,1,none⟩=some (.slice Ao57 x367001_1.length co57):=(zf BK366.out 1).trans rfl;have hfz64_0:=zh BK366.out 0;have hfz64_1:=zh BK366.out 1))
          go_roundg kj25
          case measure=>have:=HK1.out;have:=HJ15.out;have:=HJ25.out;omega
          case rel=>exact⟨(wrap64 (x16_1+1)),(y378),(.slice Ao63 y378.length co63),rfl,H',⟨by have:=HK1.out;have:=HJ15.out;have:=HJ25.out;omega⟩,⟨by(with_reducible repeat(first|apply Kd.R_alloc|apply Kd.R_drewN|apply Kd.R_drew));exact Kd.R_mono (Kd.R_far (p:=⟨gb366,1,none⟩) (Kd.R_types HO380.out BK366.out (by decide)) (fun _ hk=>hk.2) (.slice Ao63 y378.length co63)) (fun _ hk=>trivial)⟩,⟨by(with_reducible repeat(first|refine zn ?_ _|refine zo ?_|refine zl ?_ _));refine qD ?_ NB364_366.out _;(with_reducible repeat(first|refine zn ?_ _|refine zo ?_|refine zl ?_ _));exact BK364.out⟩,⟨by(with_reducible repeat(first|refine zn ?_ _|refine zo ?_|refine zl ?_ _));refine qD ?_ NB365_366.out _;(with_reducible repeat(first|refine zn ?_ _|refine zo ?_|refine zl ?_ _));exact BK365.out⟩,⟨by(with_reducible repeat(first|refine zn ?_ _|refine zo ?_|refine zl ?_ _));refine qi (cs:=#[.int .i64 ji7,.slice Ao57 x367001_1.length co57]) ?_ 1 _ rfl;(with_reducible repeat(first|refine zn ?_ _|refine zo ?_|refine zl ?_ _));exact BK366.out⟩,⟨by repeat(first|(with_reducible first|exact HB.out|apply za|apply zb|apply zg|refine zr ?_ GE364.out|refine zr ?_ GE365.out|refine zr ?_ GE366.out)|exact HB.out)⟩⟩
   ·rw[if_neg c15]at H;have c15b0:decide (x16_1<=ji8)=false:=Qn c15;clear c15;simp only[Option.some.injEq,Prod.mk.injEq]at H;obtain⟨rfl,rfl⟩:=H;have hnb65:=NB366_364.out;have hnc65:=NB364_366.out;have hnb66:=NB366_365.out;have hnc66:=NB365_366.out;have hcz67_0:wr.cell? ⟨gb366,0,none⟩=some (.int .i64 ji7):=(zf BK366.out 0).trans rfl;have hcz67_1:wr.cell? ⟨gb366,1,none⟩=some (u367001):=(zf BK366.out 1).trans rfl;have hfz67_0:=zh BK366.out 0;have hfz67_1:=zh BK366.out 1;have hnb68:=NB365_364.out;have hnc68:=NB364_365.out;have hcz69_0:wr.cell? ⟨gb365,0,none⟩=some (.int .i64 0):=(zf BK365.out 0).trans rfl;have hcz69_1:wr.cell? ⟨gb365,1,none⟩=some (.slice none 0 0):=(zf BK365.out 1).trans rfl;have hfz69_0:=zh BK365.out 0;have hfz69_1:=zh BK365.out 1;obtain⟨Ao70,co70,eo70⟩:=Kd.R_slice HO_367001.out;subst eo70;go_wp2;refine bodyPost_ret (results_cell_row rfl _ _ gb365 129 #[.int .i64 ji7,.slice Ao70 x367001_1.length co70] (0,0) _ rfl (by(with_reducible repeat(first|refine zn ?_ _|refine zo ?_|refine zl ?_ _));refine qi (cs:=#[.int .i64 ji7,.slice none 0 0]) ?_ 1 _ rfl;(with_reducible repeat(first|refine zn ?_ _|refine zo ?_|refine zl ?_ _));refine qi (cs:=#[.int .i64 0,.slice none 0 0]) ?_ 0 _ rfl;(with_reducible repeat(first|refine zn ?_ _|refine zo ?_|refine zl ?_ _));exact BK365.out) Tryz.underlying129 rfl (by kernel_rfl)) rfl ?_;exact⟨_,by first|rfl|(simp[zR,zQ] <;> rfl)|(simp only[← hji7,← hji8];first|rfl|(simp[zR,zQ] <;> rfl))|(simp[*,zR,zQ] <;> rfl),by(with_reducible repeat(first|apply Kd.R_alloc|apply Kd.R_drewN|apply Kd.R_drew));exact Kd.R_mono (Kd.R_far (p:=⟨gb365,1,none⟩) (Kd.R_far (p:=⟨gb365,0,none⟩) (Kd.R_types HO_367001.out BK365.out (by decide)) (fun _ hk=>hk.2) (.int .i64 ji7)) (fun _ hk=>hk.2) (.slice Ao70 x367001_1.length co70)) (fun _ hk=>trivial),by repeat(first|(with_reducible first|exact HB.out|apply za|apply zb|apply zg|refine zr ?_ GE364.out|refine zr ?_ GE365.out|refine zr ?_ GE366.out)|exact HB.out)⟩
mutual
def zT.j0:Nat->Int->Int->Int->Bool->Option (Int)
 |0,_,_,_,_=>none
 |k+1,x0,x1,x2,x23=>if x23=true then(some 0)else((Ze.f x0 x1 x2).bind fun bt383=>(if bt383.2.2=true then(zT.l0 k x0 x1 bt383.2.1 0 bt383.1)else(some 0)))
def zT.l0:Nat->Int->Int->Int->Int->Int->Option (Int)
 |0,_,_,_,_,_=>none
 |k+1,x0,x1,x8,x10,x11=>if x11<=x8 then(zT.l0 k x0 x1 x8 (wrap64 (x10+(wrap64 ((wrap64 ((mn x1 (wrap64 (x0-x11)))-(mx 0 (wrap64 (-x11)))))+1)))) (wrap64 (x11+1)))else(some x10)
end
def zT.f(k:Nat)(a0:Int)(a1:Int)(a2:Int):Option (Int):=(ZF.f a0).bind fun t381=>(if t381=true then((ZF.f a1).bind fun t382=>(if t382=true then(zT.j0 k a0 a1 a2 (decide (a2<0)))else(zT.j0 k a0 a1 a2 true)))else(zT.j0 k a0 a1 a2 true))
theorem zT.calls(k:Nat)(a0:Int)(a1:Int)(a2:Int)(r:Int)(w:World)(h:zT.f k a0 a1 a2=some r) :
 Calls Tryz.prog 90 #[.int .i64 a0,.int .i64 a1,.int .i64 a2] w fun e w'=>e=.returned (.int .i64 r)/\Below w.heap.size w w':=by
 have HB:=Qk (Below.refl w.heap.size w);have H:((ZF.f a0).bind fun t381=>(if t381=true then((ZF.f a1).bind fun t382=>(if t382=true then(zT.j0 k a0 a1 a2 (decide (a2<0)))else(zT.j0 k a0 a1 a2 true)))else(zT.j0 k a0 a1 a2 true)))=some r:=h;clear h;have HC4:=Qk H;clear H;go_enter Tryz.func90,Tryz.ntmps90;go_upto_region 1 with(fail)
 go_cut [23] (fun v23 wc=>∃ (kq:Nat) (x23_3:Bool),v23=.bool x23_3/\Aside0 (zT.j0 kq a0 a1 a2 x23_3=some r)/\Aside0 (kq<=k)/\Aside0 (Below w.heap.size w wc))
 case first =>
  have H:=HC4.out;clear HC4;replace H:=Qo H;obtain⟨t381,A50,H⟩:=H;replace H:(if t381=true then((ZF.f a1).bind fun t382=>(if t382=true then(zT.j0 k a0 a1 a2 (decide (a2<0)))else(zT.j0 k a0 a1 a2 true)))else(zT.j0 k a0 a1 a2 true))=some r:=H;have A5:=Qk A50;clear A50;by_cases c6:t381=true
  ·subst c6;have H1:((ZF.f a1).bind fun t382=>(if t382=true then(zT.j0 k a0 a1 a2 (decide (a2<0)))else(zT.j0 k a0 a1 a2 true)))=some r:=by rw[if_pos rfl]at H;exact H
   clear H;have H:=H1;clear H1;replace H:=Qo H;obtain⟨t382,A70,H⟩:=H;replace H:(if t382=true then(zT.j0 k a0 a1 a2 (decide (a2<0)))else(zT.j0 k a0 a1 a2 true))=some r:=H;have A7:=Qk A70;clear A70;by_cases c8:t382=true
   ·subst c8;have H1:(zT.j0 k a0 a1 a2 (decide (a2<0)))=some r:=by rw[if_pos rfl]at H;exact H
    clear H;have H:=H1;clear H1;have H':=Qk H;clear H;go_wp2_with (first|(go_at_call 140;(with_reducible refine(ZF.calls a0 true _ A5.out).mono ?_);rintro e w' ⟨rfl,⟨nd,rfl⟩⟩)|(go_at_call 140;(with_reducible refine(ZF.calls a1 true _ A7.out).mono ?_);rintro e w' ⟨rfl,⟨nd,rfl⟩⟩))
    go_meet
    case rel=>exact⟨_,(decide (a2<0)),rfl,H',⟨by first|omega|exact Nat.le_refl _⟩,⟨by repeat(first|(with_reducible first|exact HB.out|apply za|apply zb|apply zg)|exact HB.out)⟩⟩
   ·replace c8:=Bool.eq_false_iff.mpr c8;subst c8;have H1:(zT.j0 k a0 a1 a2 true)=some r:=by rw[if_neg (show ¬ (false=true) by decide)]at H;exact H
    clear H;have H:=H1;clear H1;have H':=Qk H;clear H;go_wp2_with (first|(go_at_call 140;(with_reducible refine(ZF.calls a0 true _ A5.out).mono ?_);rintro e w' ⟨rfl,⟨nd,rfl⟩⟩)|(go_at_call 140;(with_reducible refine(ZF.calls a1 false _ A7.out).mono ?_);rintro e w' ⟨rfl,⟨nd,rfl⟩⟩))
    go_meet
    case rel=>exact⟨_,(true),rfl,H',⟨by first|omega|exact Nat.le_refl _⟩,⟨by repeat(first|(with_reducible first|exact HB.out|apply za|apply zb|apply zg)|exact HB.out)⟩⟩
  ·replace c6:=Bool.eq_false_iff.mpr c6;subst c6;have H1:(zT.j0 k a0 a1 a2 true)=some r:=by rw[if_neg (show ¬ (false=true) by decide)]at H;exact H
   clear H;have H:=H1;clear H1;have H':=Qk H;clear H;go_wp2_with (first|(go_at_call 140;(with_reducible refine(ZF.calls a0 false _ A5.out).mono ?_);rintro e w' ⟨rfl,⟨nd,rfl⟩⟩))
   go_meet
   case rel=>exact⟨_,(true),rfl,H',⟨by first|omega|exact Nat.le_refl _⟩,⟨by repeat(first|(with_reducible first|exact HB.out|apply za|apply zb|apply zg)|exact HB.out)⟩⟩
 case rest =>
  clear HC4;obtain⟨kq,x23_3,rfl,HA,HJ3,HB⟩:=hcut
  cases kq with
  |zero=>exact absurd HA.out (by simp[zT.j0])
  |succ kj3 =>
   have H:=HA.out;clear HA;simp only[zT.j0]at H;by_cases c9:x23_3=true
   ·subst c9;have H1:(some 0)=some r:=by rw[if_pos rfl]at H;exact H
    clear H;have H:=H1;clear H1;obtain rfl:=Qp H;go_wp2;go_ret;exact⟨rfl,HB.out⟩
   ·replace c9:=Bool.eq_false_iff.mpr c9;subst c9;have H1:((Ze.f a0 a1 a2).bind fun bt383=>(if bt383.2.2=true then(zT.l0 kj3 a0 a1 bt383.2.1 0 bt383.1)else(some 0)))=some r:=by rw[if_neg (show ¬ (false=true) by decide)]at H;exact H
    clear H;have H:=H1;clear H1;replace H:=Qo H;obtain⟨⟨t383,t384,t385⟩,A100,H⟩:=H;replace H:(if t385=true then(zT.l0 kj3 a0 a1 t384 0 t383)else(some 0))=some r:=H;have A10:=Qk A100;clear A100;by_cases c11:t385=true
    ·subst c11;have H1:(zT.l0 kj3 a0 a1 t384 0 t383)=some r:=by rw[if_pos rfl]at H;exact H
     clear H;have H:=H1;clear H1;have H':=Qk H;clear H;go_wp2_with (first|(go_at_call 87;(with_reducible refine(Ze.calls a0 a1 a2 t383 t384 true _ A10.out).mono ?_);rintro e w12 ⟨rfl,hb⟩;replace HB:=Qk (zi HB.out hb)))
     go_loopg [10,11] kj3 (fun kq v10 v11 w'=>∃ (x10_2:Int) (x11_2:Int),v10=.int .i64 x10_2/\v11=.int .i64 x11_2/\Aside0 (zT.l0 kq a0 a1 t384 x10_2 x11_2=some r)/\Aside0 (kq<=kj3)/\Aside0 (Below w.heap.size w w'))
     case atStart=>exact⟨(0),(t383),rfl,rfl,H',⟨Nat.le_refl _⟩,⟨HB.out⟩⟩
     case round =>
      clear H';obtain⟨x10_2,x11_2,rfl,rfl,HA,HK2,HB⟩:=hrel
      cases gk with
      |zero=>exact absurd HA.out (by simp[zT.l0])
      |succ k2 =>
       have H:=HA.out;clear HA;simp only[zT.l0]at H;by_cases c13:x11_2<=t384
       ·rw[if_pos c13]at H;have c13b0:decide (x11_2<=t384)=true:=Qm c13;clear c13;obtain⟨ji14,hji14⟩:∃ j_:Int,(mn a1 (wrap64 (a0-x11_2)))=j_:=⟨_,rfl⟩
        replace H:(zT.l0 k2 a0 a1 t384 (wrap64 (x10_2+(wrap64 ((wrap64 ((ji14)-(mx 0 (wrap64 (-x11_2)))))+1)))) (wrap64 (x11_2+1)))=some r:=by first|(rw[hji14]at H;exact H)|(simp only[hji14]at H ⊢;exact H)
        have hji14_:(if (wrap64 (a0-x11_2))<a1 then(wrap64 (a0-x11_2))else a1)=ji14:=hji14;obtain⟨ji15,hji15⟩:∃ j_:Int,(mx 0 (wrap64 (-x11_2)))=j_:=⟨_,rfl⟩
        replace H:(zT.l0 k2 a0 a1 t384 (wrap64 (x10_2+(wrap64 ((wrap64 ((ji14)-(ji15)))+1)))) (wrap64 (x11_2+1)))=some r:=by first|(rw[hji15]at H;exact H)|(simp only[hji15]at H ⊢;exact H)
        have hji15_:(if 0<(wrap64 (-x11_2))then(wrap64 (-x11_2))else 0)=ji15:=hji15;have H':=Qk H;clear H;go_wp2;go_roundg k2
        case measure=>have:=HJ3.out;have:=HK2.out;omega
        case rel=>exact⟨(wrap64 (x10_2+(wrap64 ((wrap64 ((ji14)-(ji15)))+1)))),(wrap64 (x11_2+1)),(by first|rfl|(simp;done)|(simp only[← hji14,← hji15] <;> (first|rfl|simp))|(simp[*];done)),rfl,H',⟨by have:=HJ3.out;have:=HK2.out;omega⟩,⟨HB.out⟩⟩
       ·rw[if_neg c13]at H;have c13b0:decide (x11_2<=t384)=false:=Qn c13;clear c13;obtain rfl:=Qp H;go_wp2;go_ret;exact⟨rfl,HB.out⟩
    ·replace c11:=Bool.eq_false_iff.mpr c11;subst c11;have H1:(some 0)=some r:=by rw[if_neg (show ¬ (false=true) by decide)]at H;exact H
     clear H;have H:=H1;clear H1;obtain rfl:=Qp H;go_wp2_with (first|(go_at_call 87;(with_reducible refine(Ze.calls a0 a1 a2 t383 t384 false _ A10.out).mono ?_);rintro e w16 ⟨rfl,hb⟩;replace HB:=Qk (zi HB.out hb)))
     go_ret;exact⟨rfl,HB.out⟩
def qM.l0:Nat->List Int->List Int->Int->Int->Int->Int->Int->Int->List Int->Option (Int×Int×Int)
 |0,_,_,_,_,_,_,_,_,_=>none
 |k+1,x0,x1,x2,x9,x10,x31,x32,x661000,x661001=>if x32<x31 then((zK.f k x0 x1 x32 x9 x10 x661000 x661001).bind fun bt661=>(qM.l0 k x0 x1 x2 x9 x10 x31 (wrap64 (x32+1)) bt661.1 bt661.2))else((qI.f x661000 x661001 (x1.length:Int)).bind fun t665=>(if t665<=x2 then((zT.f k (x0.length:Int) (x1.length:Int) x2).bind fun t666=>(some (t665,t666,0)))else(some (0,0,3))))
def qM.f(k:Nat)(l0:List Int)(l1:List Int)(a2:Int):Option (Int×Int×Int):=if a2<0 then(some (0,0,1))else((Ze.f (l0.length:Int) (l1.length:Int) a2).bind fun bt657=>(if bt657.2.2=true then(qM.l0 k l0 l1 a2 bt657.1 bt657.2.1 (wrap64 ((l0.length:Int)+1)) 0 0 ([]:List Int))else(some (0,0,3))))
theorem qM.calls(k:Nat)(A0:Option Addr)(c0:Nat)(l0:List Int)(A1:Option Addr)(c1:Nat)(l1:List Int)(a2:Int)(r1:Int)(r2:Int)(r3:Int)(w:World)(hr0:Kd.C (Kd.int .i64) w A0 l0.length l0)(hc0:l0.length<=c0)(hr1:Kd.C (Kd.int .i64) w A1 l1.length l1)(hc1:l1.length<=c1)(h:qM.f k l0 l1 a2=some (r1,r2,r3)) :
 Calls Tryz.prog 46 #[.slice A0 l0.length c0,.slice A1 l1.length c1,.int .i64 a2] w fun e w'=>e=.returned (.tuple #[.int .i64 r1,.int .i64 r2,.int .i64 r3])/\Below w.heap.size w w':=by
 have hu129:=Tryz.underlying129;have HR0:=Qk hr0;have HC0:=Qk hc0;clear hr0 hc0;have HR1:=Qk hr1;have HC1:=Qk hc1;clear hr1 hc1;have HB:=Qk (Below.refl w.heap.size w);have H:(if a2<0 then(some (0,0,1))else((Ze.f (l0.length:Int) (l1.length:Int) a2).bind fun bt657=>(if bt657.2.2=true then(qM.l0 k l0 l1 a2 bt657.1 bt657.2.1 (wrap64 ((l0.length:Int)+1)) 0 0 ([]:List Int))else(some (0,0,3)))))=some (r1,r2,r3):=h;clear h;by_cases c4:a2<0
 ·rw[if_pos c4]at H;have c4b0:decide (a2<0)=true:=Qm c4;clear c4;simp only[Option.some.injEq,Prod.mk.injEq]at H;obtain⟨rfl,rfl,rfl⟩:=H;go_enter Tryz.func46,Tryz.ntmps46;go_wp2;go_ret3
  exact⟨by first|rfl|(simp[zR,zQ] <;> rfl)|(simp[*,zR,zQ] <;> rfl),HB.out⟩
 ·rw[if_neg c4]at H;have c4b0:decide (a2<0)=false:=Qn c4;clear c4;replace H:=Qo H;obtain⟨⟨t657,t658,t659⟩,A50,H⟩:=H;replace H:(if t659=true then(qM.l0 k l0 l1 a2 t657 t658 (wrap64 ((l0.length:Int)+1)) 0 0 ([]:List Int))else(some (0,0,3)))=some (r1,r2,r3):=H;have A5:=Qk A50;clear A50;by_cases c6:t659=true
  ·subst c6;have H1:(qM.l0 k l0 l1 a2 t657 t658 (wrap64 ((l0.length:Int)+1)) 0 0 ([]:List Int))=some (r1,r2,r3):=by rw[if_pos rfl]at H;exact H
   clear H;have H:=H1;clear H1;have H':=Qk H;clear H;go_enter Tryz.func46,Tryz.ntmps46;go_wp2_with (first|(go_at_call 87;(with_reducible refine(Ze.calls (l0.length:Int) (l1.length:Int) a2 t657 t658 true _ A5.out).mono ?_);rintro e w7 ⟨rfl,hb⟩;(try refine⟨_,rfl,?_⟩);have n0_:=Qk (zi HB.out hb);clear HB;have HB:=n0_;clear n0_;(try clear hb);(try clear hb2);(try clear hk);(try clear hi))|((with_reducible refine qf (N:=12) rfl ?_);refine qt ?hg (N:=12) ?hd (cs:=#[.int .i64 0,.slice none 0 0]) (t:=129) ?hr ?_;(case hd=>rfl);(case hg=>rfl);(case hr=>first|(go_simp;done)|(go_simp;rfl));intro gb660 hg w8 hbox hb;have n0_:=Qk (zi HB.out hb);have n1_:=Qk (hbox);have n2_:=Qk ((by rw[hg];exact(ze HB.out):w.heap.size<=gb660));have n3_:=Qk ((by rw[hg];exact(ze HB.out):w.heap.size<=gb660));clear HB;have HB:=n0_;have BK660:=n1_;have GW660:=n2_;have GE660:=n3_;clear n0_ n1_ n2_ n3_;(try clear hb);(try clear hbox);(try clear hg)))
   go_loopg [32] k (fun kq v32 w'=>∃ (x32_1:Int) (x661000_1:Int) (x661001_1:List Int) (u661001:Value),v32=.int .i64 x32_1/\Aside0 (qM.l0 kq l0 l1 a2 t657 t658 (wrap64 ((l0.length:Int)+1)) x32_1 x661000_1 x661001_1=some (r1,r2,r3))/\Aside0 (kq<=k)/\Aside0 (Kd.R (Kd.int .i64) 3 w' w.heap.size (fun _=>True) u661001 x661001_1)/\Aside0 (w'.heap[gb660]?=some (.cells #[.int .i64 x661000_1,u661001] 129 (0,0)))/\Aside0 (Below w.heap.size w w'))
   case atStart=>exact⟨(0),(0),(([]:List Int)),(.slice none 0 0),(by first|rfl|(simp;done)|(simp[*];done)),H',⟨Nat.le_refl _⟩,⟨by first|exact Kd.R_nil _ _ _ _ _|exact Kd.N_nil _ _ _ _ _|exact Kd.V_nil _ _ _ _ _|exact Kd.Q_nil _ _ _ _ _|exact Kd.S_nil _ _ _ _ _⟩,⟨by(with_reducible repeat(first|refine zn ?_ _|refine zo ?_|refine zl ?_ _));exact BK660.out⟩,⟨HB.out⟩⟩
   case round =>
    clear H';obtain⟨x32_1,x661000_1,x661001_1,u661001,rfl,HA,HK1,HO_661001,BK660,HB⟩:=hrel
    cases gk with
    |zero=>exact absurd HA.out (by simp[qM.l0])
    |succ k1 =>
     have H:=HA.out;clear HA;simp only[qM.l0]at H;by_cases c9:x32_1<(wrap64 ((l0.length:Int)+1))
     ·rw[if_pos c9]at H;have c9b0:decide (x32_1<(wrap64 ((l0.length:Int)+1)))=true:=Qm c9;clear c9;replace H:=Qo H;obtain⟨⟨t661,t662⟩,A100,H⟩:=H;replace H:(qM.l0 k1 l0 l1 a2 t657 t658 (wrap64 ((l0.length:Int)+1)) (wrap64 (x32_1+1)) t661 t662)=some (r1,r2,r3):=H;have A10:=Qk A100;clear A100;have H':=Qk H;clear H;have hcz11_0:wr.cell? ⟨gb660,0,none⟩=some (.int .i64 x661000_1):=(zf BK660.out 0).trans rfl;have hcz11_1:wr.cell? ⟨gb660,1,none⟩=some (u661001):=(zf BK660.out 1).trans rfl;have hfz11_0:=zh BK660.out 0;have hfz11_1:=zh BK660.out 1;obtain⟨Ao12,co12,eo12⟩:=Kd.R_slice HO_661001.out;subst eo12;go_wp2_with (first|(go_at_call 88;(with_reducible refine(zK.calls k1 _ _ l0 _ _ l1 x32_1 t657 t658 x661000_1 _ _ x661001_1 t661 t662 _ ?side1 ?side2 ?side3 ?side4 ?side5 ?side6 A10.out).mono ?_);(case side1=>repeat(first|exact(Kd.C_below HR0.out HB.out)|(with_reducible refine Kd.C_alloc ?_ _)|(with_reducible refine Kd.C_drewN ?_ _)|(with_reducible refine Kd.C_drew ?_)));(case side2=>exact HC0.out);(case side3=>repeat(first|exact(Kd.C_below HR1.out HB.out)|(with_reducible refine Kd.C_alloc ?_ _)|(with_reducible refine Kd.C_drewN ?_ _)|(with_reducible refine Kd.C_drew ?_)));(case side4=>exact HC1.out);(case side5=>repeat(first|exact(Kd.R_reads' HO_661001.out).2.2|(with_reducible refine Kd.C_alloc ?_ _)|(with_reducible refine Kd.C_drewN ?_ _)|(with_reducible refine Kd.C_drew ?_)));(case side6=>exact(Kd.R_reads' HO_661001.out).2.1);rintro e w13 ⟨v663,rfl,ho0,hb⟩;(try refine⟨_,rfl,?_⟩);have n0_:=Qk (Kd.R_elder' HO_661001.out (Kd.R_base ho0) hb);have n1_:=Qk (Kd.R_lower (Kd.R_new' ho0 (Kd.R_lt HO_661001.out)) (ze HB.out));have n2_:=Qk (zy (g:=gb660) (o:=.cells #[.int .i64 x661000_1,.slice Ao12 x661001_1.length co12] 129 (0,0)) (by(with_reducible repeat(first|refine zn ?_ _|refine zo ?_|refine zl ?_ _));exact BK660.out) hb);have n3_:=Qk (zi HB.out hb);clear HO_661001;clear BK660;clear HB;have HO_661001:=n0_;have HO664:=n1_;have BK660:=n2_;have HB:=n3_;clear n0_ n1_ n2_ n3_;(try clear hb);(try clear hb2);(try clear hk);(try clear hi);(try clear ho0);have hcz14_0:w13.cell? ⟨gb660,0,none⟩=some (.int .i64 x661000_1):=(zf BK660.out 0).trans rfl;have hcz14_1:w13.cell? ⟨gb660,1,none⟩=some (.slice Ao12 x661001_1.length co12):=(zf BK660.out 1).trans rfl;have hfz14_0:=zh BK660.out 0;have hfz14_1:=zh BK660.out 1;obtain⟨Ao15,co15,eo15⟩:=Kd.R_slice HO664.out;subst eo15))
      go_roundg k1
      case measure=>have:=HK1.out;omega
      case rel=>exact⟨(wrap64 (x32_1+1)),(t661),(t662),(.slice Ao15 t662.length co15),(by first|rfl|(simp;done)|(simp[*];done)),H',⟨by have:=HK1.out;omega⟩,⟨by(with_reducible repeat(first|apply Kd.R_alloc|apply Kd.R_drewN|apply Kd.R_drew));exact Kd.R_mono (Kd.R_far (p:=⟨gb660,1,none⟩) (Kd.R_far (p:=⟨gb660,0,none⟩) (Kd.R_types HO664.out BK660.out (by decide)) (fun _ hk=>hk.2) (.int .i64 t661)) (fun _ hk=>hk.2) (.slice Ao15 t662.length co15)) (fun _ hk=>trivial)⟩,⟨by(with_reducible repeat(first|refine zn ?_ _|refine zo ?_|refine zl ?_ _));refine qi (cs:=#[.int .i64 t661,.slice Ao12 x661001_1.length co12]) ?_ 1 _ rfl;(with_reducible repeat(first|refine zn ?_ _|refine zo ?_|refine zl ?_ _));refine qi (cs:=#[.int .i64 x661000_1,.slice Ao12 x661001_1.length co12]) ?_ 0 _ rfl;(with_reducible repeat(first|refine zn ?_ _|refine zo ?_|refine zl ?_ _));exact BK660.out⟩,⟨by repeat(first|(with_reducible first|exact HB.out|apply za|apply zb|apply zg|refine zr ?_ GE660.out)|exact HB.out)⟩⟩
     ·rw[if_neg c9]at H;have c9b0:decide (x32_1<(wrap64 ((l0.length:Int)+1)))=false:=Qn c9;clear c9;replace H:=Qo H;obtain⟨t665,A160,H⟩:=H;replace H:(if t665<=a2 then((zT.f k1 (l0.length:Int) (l1.length:Int) a2).bind fun t666=>(some (t665,t666,0)))else(some (0,0,3)))=some (r1,r2,r3):=H;have A16:=Qk A160;clear A160;by_cases c17:t665<=a2
      ·rw[if_pos c17]at H;have c17b0:decide (t665<=a2)=true:=Qm c17;clear c17;replace H:=Qo H;obtain⟨t666,A180,H⟩:=H;replace H:(some (t665,t666,0))=some (r1,r2,r3):=H;have A18:=Qk A180;clear A180;simp only[Option.some.injEq,Prod.mk.injEq]at H;obtain⟨rfl,rfl,rfl⟩:=H;have hcz19_0:wr.cell? ⟨gb660,0,none⟩=some (.int .i64 x661000_1):=(zf BK660.out 0).trans rfl;have hcz19_1:wr.cell? ⟨gb660,1,none⟩=some (u661001):=(zf BK660.out 1).trans rfl;have hfz19_0:=zh BK660.out 0;have hfz19_1:=zh BK660.out 1;obtain⟨Ao20,co20,eo20⟩:=Kd.R_slice HO_661001.out;subst eo20;go_wp2_with (first|(go_at_call 89;(with_reducible refine(qI.calls x661000_1 _ _ x661001_1 (l1.length:Int) t665 _ ?side1 ?side2 A16.out).mono ?_);(case side1=>repeat(first|exact(Kd.R_reads' HO_661001.out).2.2|(with_reducible refine Kd.C_alloc ?_ _)|(with_reducible refine Kd.C_drewN ?_ _)|(with_reducible refine Kd.C_drew ?_)));(case side2=>exact(Kd.R_reads' HO_661001.out).2.1);rintro e w21 ⟨rfl,hb⟩;(try refine⟨_,rfl,?_⟩);have n0_:=Qk (Kd.R_below HO_661001.out hb);have n1_:=Qk (zy (g:=gb660) (o:=.cells #[.int .i64 x661000_1,.slice Ao20 x661001_1.length co20] 129 (0,0)) (by(with_reducible repeat(first|refine zn ?_ _|refine zo ?_|refine zl ?_ _));exact BK660.out) hb);have n2_:=Qk (zi HB.out hb);clear HO_661001;clear BK660;clear HB;have HO_661001:=n0_;have BK660:=n1_;have HB:=n2_;clear n0_ n1_ n2_;(try clear hb);(try clear hb2);(try clear hk);(try clear hi))|(go_at_call 90;(with_reducible refine(zT.calls k1 (l0.length:Int) (l1.length:Int) a2 t666 _ A18.out).mono ?_);rintro e w22 ⟨rfl,hb⟩;(try refine⟨_,rfl,?_⟩);have n0_:=Qk (Kd.R_below HO_661001.out hb);have n1_:=Qk (zy (g:=gb660) (o:=.cells #[.int .i64 x661000_1,.slice Ao20 x661001_1.length co20] 129 (0,0)) (by(with_reducible repeat(first|refine zn ?_ _|refine zo ?_|refine zl ?_ _));exact BK660.out) hb);have n2_:=Qk (zi HB.out hb);clear HO_661001;clear BK660;clear HB;have HO_661001:=n0_;have BK660:=n1_;have HB:=n2_;clear n0_ n1_ n2_;(try clear hb);(try clear hb2);(try clear hk);(try clear hi)))
       go_ret3
       exact⟨by first|rfl|(simp[zR,zQ] <;> rfl)|(simp[*,zR,zQ] <;> rfl),HB.out⟩
      ·rw[if_neg c17]at H;have c17b0:decide (t665<=a2)=false:=Qn c17;clear c17;simp only[Option.some.injEq,Prod.mk.injEq]at H;obtain⟨rfl,rfl,rfl⟩:=H;have hcz23_0:wr.cell? ⟨gb660,0,none⟩=some (.int .i64 x661000_1):=(zf BK660.out 0).trans rfl;have hcz23_1:wr.cell? ⟨gb660,1,none⟩=some (u661001):=(zf BK660.out 1).trans rfl;have hfz23_0:=zh BK660.out 0;have hfz23_1:=zh BK660.out 1;obtain⟨Ao24,co24,eo24⟩:=Kd.R_slice HO_661001.out;subst eo24;go_wp2_with (first|(go_at_call 89;(with_reducible refine(qI.calls x661000_1 _ _ x661001_1 (l1.length:Int) t665 _ ?side1 ?side2 A16.out).mono ?_);(case side1=>repeat(first|exact(Kd.R_reads' HO_661001.out).2.2|(with_reducible refine Kd.C_alloc ?_ _)|(with_reducible refine Kd.C_drewN ?_ _)|(with_reducible refine Kd.C_drew ?_)));(case side2=>exact(Kd.R_reads' HO_661001.out).2.1);rintro e w25 ⟨rfl,hb⟩;(try refine⟨_,rfl,?_⟩);have n0_:=Qk (Kd.R_below HO_661001.out hb);have n1_:=Qk (zy (g:=gb660) (o:=.cells #[.int .i64 x661000_1,.slice Ao24 x661001_1.length co24] 129 (0,0)) (by(with_reducible repeat(first|refine zn ?_ _|refine zo ?_|refine zl ?_ _));exact BK660.out) hb);have n2_:=Qk (zi HB.out hb);clear HO_661001;clear BK660;clear HB;have HO_661001:=n0_;have BK660:=n1_;have HB:=n2_;clear n0_ n1_ n2_;(try clear hb);(try clear hb2);(try clear hk);(try clear hi)))
       go_ret3
       exact⟨by first|rfl|(simp[zR,zQ] <;> rfl)|(simp[*,zR,zQ] <;> rfl),HB.out⟩
  ·replace c6:=Bool.eq_false_iff.mpr c6;subst c6;have H1:(some (0,0,3))=some (r1,r2,r3):=by rw[if_neg (show ¬ (false=true) by decide)]at H;exact H
   clear H;have H:=H1;clear H1;simp only[Option.some.injEq,Prod.mk.injEq]at H;obtain⟨rfl,rfl,rfl⟩:=H;go_enter Tryz.func46,Tryz.ntmps46;go_wp2_with (first|(go_at_call 87;(with_reducible refine(Ze.calls (l0.length:Int) (l1.length:Int) a2 t657 t658 false _ A5.out).mono ?_);rintro e w26 ⟨rfl,hb⟩;(try refine⟨_,rfl,?_⟩);have n0_:=Qk (zi HB.out hb);clear HB;have HB:=n0_;clear n0_;(try clear hb);(try clear hb2);(try clear hk);(try clear hi)))
   go_ret3
   exact⟨by first|rfl|(simp[zR,zQ] <;> rfl)|(simp[*,zR,zQ] <;> rfl),HB.out⟩
end Go.Proofs.YtdiojfaenfggkaaGreat.PTopNear
namespace Go.Proofs.YtdiojfaenfggkaaGreat.PTopNear
open Go.RowKit Go.Proofs.YtdiojfaenfggkaaGreatW.PrintWords Go.Proofs.YtdiojfaenfggkaaGreatW.PrintLast Go.Proofs.YtdiojfaenfggkaaGreatW.PrintMore
attribute [local go_sem] qW qU Zg Zf qK qJ qV qT
set_option linter.unusedVariables false
set_option linter.unusedSimpArgs false
theorem port_Near.bare{m:Bool}{A0 A1:Option Addr}{c0 c1:Nat}{l0 l1:List Int}{la lb:List (List Int)}{x y u v:List Int}(hC:CutIs m l0 l1 la lb x y u v)(w:World)(h0:TextIn w A0 c0 l0)(h1:TextIn w A1 c1 l1)(hu0:u=[0])(hv0:v=[]) :
 Calls Tryz.prog 20 #[.int .i64 (z7 m),.slice A0 l0.length c0,.slice A1 l1.length c1,.int .i64 1] w fun e w'=>e=.returned (.tuple #[.int .i64 1,.int .i64 0])/\Below w.heap.size w w':=by
 have HCU:=Qk (port_cut.of hC w h0 h1);have HBW:=Qk (fun W (Au Av:Option Addr) (cu cv:Nat) (hr0:Kd.C (Kd.int .i64) W Au u.length u) (hc0:u.length<=cu) (hr1:Kd.C (Kd.int .i64) W Av v.length v) (hc1:v.length<=cv)=>qM.calls 60 Au cu u Av cv v 1 1 2 0 W hr0 hc0 hr1 hc1 (by subst hu0 hv0;kernel_rfl));generalize zS.p x y=p at HCU;generalize zS.s x y=s at HCU;generalize z7 m=mm at HCU ⊢;clear hC h0 h1 hu0 hv0;go_enter Tryz.func20,Tryz.ntmps20;go_upto_region 4 with(go_at_call 45;((with_reducible refine HCU.out.mono ?_);rintro e w4 ⟨Aa,Ab,Ax,Ay,Au,Av,ca,cb,cx,cy,cu,cv,rfl,ht,hbl⟩;have HB:=Qk hbl;clear HCU hbl;have HT:=Qk ht;clear ht))
 have HT2:=Qk (HT.out.below (za (Below.refl w4.heap.size w4) (Obj.cells #[.slice Aa la.length ca,.slice Ab lb.length cb,.slice Ax x.length cx,.slice Ay y.length cy,.int .i64 (p:Int),.int .i64 (s:Int),.slice Au u.length cu,.slice Av v.length cv] 81)));have HB2:=Qk (za HB.out (Obj.cells #[.slice Aa la.length ca,.slice Ab lb.length cb,.slice Ax x.length cx,.slice Ay y.length cy,.int .i64 (p:Int),.int .i64 (s:Int),.slice Au u.length cu,.slice Av v.length cv] 81));have K17:=Qk (qv w4 (Obj.cells #[.slice Aa la.length ca,.slice Ab lb.length cb,.slice Ax x.length cx,.slice Ay y.length cy,.int .i64 (p:Int),.int .i64 (s:Int),.slice Au u.length cu,.slice Av v.length cv] 81));have hz6:=(zf K17.out 6).trans (show _=some (.slice Au u.length cu)from rfl);have hz7:=(zf K17.out 7).trans (show _=some (.slice Av v.length cv)from rfl);clear HT HB;generalize w4.alloc (Obj.cells #[.slice Aa la.length ca,.slice Ab lb.length cb,.slice Ax x.length cx,.slice Ay y.length cy,.int .i64 (p:Int),.int .i64 (s:Int),.slice Au u.length cu,.slice Av v.length cv] 81)=w5 at K17 HT2 HB2 hz6 hz7 ⊢;generalize w4.heap.size=gk at K17 hz6 hz7 ⊢;go_wp2_with (go_at_call 46;((with_reducible refine(HBW.out _ Au Av cu cv HT2.out.fu HT2.out.fu' HT2.out.fv HT2.out.fv').mono ?_);rintro e w6 ⟨rfl,hbl⟩;have HB3:=Qk (zi HB2.out hbl);clear hbl))
 go_ret2;exact⟨rfl,HB3.out⟩
end Go.Proofs.YtdiojfaenfggkaaGreat.PTopNear
namespace Go.Proofs.YtdiojfaenfggkaaGreat.PTopNear
open Go.RowKit Go.Proofs.YtdiojfaenfggkaaGreatW.PrintWords Go.Proofs.YtdiojfaenfggkaaGreatW.PrintLast Go.Proofs.YtdiojfaenfggkaaGreatW.PrintMore
attribute [local go_sem] qW qU Zg Zf qK qJ qV qT
set_option linter.unusedVariables false
set_option linter.unusedSimpArgs false
theorem lcpN_take:∀ a b:List Int,a.take (lcpN a b)=b.take (lcpN a b)
 |[],b=>by simp[lcpN]
 |x::a,[]=>by simp[lcpN]
 |x::a,y::b=>by
  unfold lcpN;split
  ·next h=>rw[h,List.take_succ_cons,List.take_succ_cons,lcpN_take a b]
  ·simp
theorem take_rev_end(a:List Int)(s:Nat)(h:s<=a.length):a.drop (a.length-s)=(a.reverse.take s).reverse:=by
 rw[List.take_reverse,List.reverse_reverse]
theorem mid_split(x y:List Int):∃ P S,x=P++(qb.x x y++S)/\y=P++(qb.y x y++S)/\P.length=zS.p x y/\S.length=zS.s x y:=by
 obtain⟨h1,h2⟩:=zS.le x y;have e1:=lcpN_take x y;have e2:=lcpN_take (x.drop (lcpN x y)).reverse (y.drop (lcpN x y)).reverse;have hp:lcpN x y=zS.p x y:=rfl;have hs:lcpN (x.drop (lcpN x y)).reverse (y.drop (lcpN x y)).reverse=zS.s x y:=rfl;rw[hs]at e2;rw[hp]at e1 e2;unfold qb.x qb.y;generalize zS.p x y=p at *;generalize zS.s x y=s at *;clear hp hs;have f1:=take_rev_end (x.drop p) s (by rw[List.length_drop];omega);have f2:=take_rev_end (y.drop p) s (by rw[List.length_drop];omega);rw[e2,← f2,List.drop_drop,List.drop_drop,List.length_drop,List.length_drop,show p+(x.length-p-s)=x.length-s by omega,show p+(y.length-p-s)=y.length-s by omega]at f1
 refine⟨x.take p,x.drop (x.length-s),?_,?_,by rw[List.length_take];omega,by rw[List.length_drop];omega⟩
 ·rw[List.drop_take,← List.append_assoc]
  conv=>lhs;rw[← List.take_append_drop (x.length-s) x]
  congr 1;conv=>lhs;rw[← List.take_append_drop p (x.take (x.length-s)),List.take_take,Nat.min_eq_left (by omega)]
  rw[List.drop_take]
 ·rw[e1,f1,List.drop_take,← List.append_assoc]
  conv=>lhs;rw[← List.take_append_drop (y.length-s) y]
  congr 1;conv=>lhs;rw[← List.take_append_drop p (y.take (y.length-s)),List.take_take,Nat.min_eq_left (by omega)]
  rw[List.drop_take]
theorem mid_lcs(x y:List Int):lcs x y=zS.p x y+lcs (qb.x x y) (qb.y x y)+zS.s x y:=by
 obtain⟨P,S,hx,hy,hp,hs⟩:=mid_split x y;have:lcs x y=lcs (P++(qb.x x y++S)) (P++(qb.y x y++S)):=by rw[← hx,← hy]
 rw[this,lcs_prefix,lcs_suffix];omega
theorem rd_N(l:List Int)(i:Nat):rd l (i:Int)=l.getD i 0:=by unfold rd;rw[Int.toNat_natCast]
theorem getD_mid(P u S:List Int)(i:Nat):(i<P.length->(P++(u++S)).getD i 0=P.getD i 0)/\(i<u.length->(P++(u++S)).getD (i+P.length) 0=u.getD i 0)/\((P++(u++S)).getD (P.length+u.length+i) 0=S.getD i 0):=by
 refine⟨fun h=>?_,fun h=>?_,?_⟩
 ·simp only[List.getD_eq_getElem?_getD];rw[List.getElem?_append_left h]
 ·simp only[List.getD_eq_getElem?_getD];rw[List.getElem?_append_right (by omega),show i+P.length-P.length=i by omega,List.getElem?_append_left h]
 ·simp only[List.getD_eq_getElem?_getD];rw[List.getElem?_append_right (by omega),List.getElem?_append_right (by omega)];congr 2;omega
theorem diagL_mem{n m s:Nat}{q:Nat×Nat}(h:q∈Zz n m s):∃ i,i<s/\q=(n+i,m+i):=by
 obtain⟨i,hi,rfl⟩:=List.mem_map.1 h;exact⟨i,List.mem_range.1 hi,rfl⟩
theorem diagL_rise(n m s:Nat):(Zz n m s).Pairwise (fun x y=>x.1<y.1/\x.2<y.2):=by
 unfold Zz;rw[List.pairwise_map];refine List.Pairwise.imp ?_ List.pairwise_lt_range;intro a b h;simp only;omega
theorem growL_good{x y:List Int}{qs:List (Nat×Nat)}(h:GoodN (qb.x x y) (qb.y x y) qs)(hl:qs.length=lcs (qb.x x y) (qb.y x y)) :
 GoodN x y (growL (zS.p x y) (zS.s x y) x.length y.length qs)/\(growL (zS.p x y) (zS.s x y) x.length y.length qs).length=lcs x y:=by
 have hlc:=mid_lcs x y;have hle:=zS.le x y;obtain⟨P,S,hx,hy,hp,hs⟩:=mid_split x y;have hml:=mid_len x y;generalize qb.x x y=u at *;generalize qb.y x y=v at *;generalize zS.p x y=p at *;generalize zS.s x y=s at *;subst hp hs;have e1:x.length=P.length+u.length+S.length:=by rw[hml.1];omega
 have e2:y.length=P.length+v.length+S.length:=by rw[hml.2];omega
 have e3:x.length-S.length=P.length+u.length:=by omega
 have e4:y.length-S.length=P.length+v.length:=by omega
 unfold growL;rw[e3,e4];refine⟨⟨fun q hq=>?_,?_⟩,?_⟩
 ·rw[rd_N,rd_N]
  rcases List.mem_append.1 hq with hq|hq
  ·rcases List.mem_append.1 hq with hq|hq
   ·obtain⟨i,hi,rfl⟩:=diagL_mem hq
    simp only[Nat.zero_add];refine⟨by omega,by omega,?_⟩;rw[hx,hy,(getD_mid P u S i).1 hi,(getD_mid P v S i).1 hi]
   ·obtain⟨q',hq',rfl⟩:=List.mem_map.1 hq
    obtain⟨h1,h2,h3⟩:=h.at_ q' hq';simp only;rw[rd_N,rd_N]at h3;refine⟨by omega,by omega,?_⟩;rw[hx,hy,(getD_mid P u S q'.1).2.1 h1,(getD_mid P v S q'.2).2.1 h2,h3]
  ·obtain⟨i,hi,rfl⟩:=diagL_mem hq
   simp only;refine⟨by omega,by omega,?_⟩;rw[hx,hy,(getD_mid P u S i).2.2,(getD_mid P v S i).2.2]
 ·rw[List.pairwise_append,List.pairwise_append]
  refine⟨⟨diagL_rise _ _ _,?_,fun a ha b hb=>?_⟩,diagL_rise _ _ _,fun a ha b hb=>?_⟩
  ·rw[List.pairwise_map]
   refine h.rise.imp ?_;intro a b hab;simp only;omega
  ·obtain⟨i,hi,rfl⟩:=diagL_mem ha
   obtain⟨q,_,rfl⟩:=List.mem_map.1 hb;simp only;omega
  ·obtain⟨i,hi,rfl⟩:=diagL_mem hb
   rcases List.mem_append.1 ha with ha|ha
   ·obtain⟨j,hj,rfl⟩:=diagL_mem ha
    simp only;omega
   ·obtain⟨q,hq,rfl⟩:=List.mem_map.1 ha
    obtain⟨h1,h2,_⟩:=h.at_ q hq;simp only;omega
 ·simp only[List.length_append,List.length_map,Zz,List.length_range]
  omega
theorem ZU{w:World}{base:Nat}{e:TypeId}{size n:Nat}{v:Value}{xs:List Value}(h:w.ownsRow base e size v n xs):∃ A c,v=.slice A n c:=by
 rcases h.2 with⟨rfl,rfl⟩|⟨g,cap,cur,rfl,_⟩
 ·exact⟨none,0,rfl⟩
 ·exact⟨_,_,rfl⟩
theorem port_Diff.bare{m:Bool}{A0 A1:Option Addr}{c0 c1:Nat}{l0 l1:List Int}{la lb:List (List Int)}{x y u v:List Int}(hC:CutIs m l0 l1 la lb x y u v)(hx0:x=[0,1])(hy0:y=[1])(hu0:u=[0])(hv0:v=[])(w:World)(h0:TextIn w A0 c0 l0)(h1:TextIn w A1 c1 l1) :
 Calls Tryz.prog 16 #[.int .i64 (z7 m),.int .i64 0,.slice A0 l0.length c0,.slice A1 l1.length c1,.agg #[.int .i64 1000,.int .i64 1099511627776]] w fun e w'=>∃ Al As cl cs ns,∃ ls:List (Nat×Nat),e=.returned (.tuple #[.agg #[.int .i64 (la.length:Int),.int .i64 (lb.length:Int),.int .i64 (ls.length:Int),.int .i64 ((la.length:Int)+(lb.length:Int)-2*(ls.length:Int)),.slice Al ls.length cl,.slice As ns cs],.int .i64 0])/\True/\GoodN x y ls/\ls.length=lcs x y/\Kd.R k54 54 w' 0 (fun _=>True) (.slice Al ls.length cl) (ls.map toP)/\Below w.heap.size w w':=by
 have HRD:=Qk (fun W (hb:Below w.heap.size w W)=>port_ready.of hC W (h0.below hb) (h1.below hb));have hna:=hC.na;have hnb:=hC.nb;have hnx:=hC.nx;have hny:=hC.ny;have hun:u.length<=24:=by have:=hC.nu;omega
 have hvn:v.length<=24:=by have:=hC.nv;omega
 have HRU:=Qk (fun W (eng:Nat) (he:eng=1\/eng=7/\1<=v.length) (Au Av:Option Addr) (cu cv:Nat) (hr0:Kd.C (Kd.int .i64) W Au u.length u) (hc0:u.length<=cu) (hr1:Kd.C (Kd.int .i64) W Av v.length v) (hc1:v.length<=cv)=>port_run.grid eng Au Av cu cv u v W hr0 hc0 hr1 hc1 hun hvn hC.wu hC.wv (by rw[hv0,List.length_nil]at he;omega) hu0 hv0);have HGR:=Qk (fun W (A:Option Addr) (c:Nat) (qs:List (Nat×Nat)) (hr:Kd.C k54 W A qs.length (qs.map toP)) (hg:GoodN u v qs) (hl:qs.length=lcs u v)=>trim_Grow.small A c qs (zS.p x y) (zS.s x y) la.length lb.length W hr (by omega) (by omega) (by have:=(zS.le x y).1;omega) (by have:=(zS.le x y).2;omega) (fun q hq=>by have h:=hg.at_ q hq;have h3:=hC.nu;have h4:=hC.nv;have h5:=zS.le x y;omega) (by have:=Zi u v;omega));have HGG:=Qk (fun(qs:List (Nat×Nat)) (hg:GoodN u v qs) (hl:qs.length=lcs u v)=>show GoodN x y (growL (zS.p x y) (zS.s x y) la.length lb.length qs)/\(growL (zS.p x y) (zS.s x y) la.length lb.length qs).length=lcs x y by
  have hu:=hC.eu;have hv:=hC.ev;subst hu hv;rw[← hnx,← hny];exact growL_good hg hl)
 have HCA:=Qk (fun W (Ax Ay A:Option Addr) (cx cy c:Nat) (qs:List (Nat×Nat)) (hr0:Kd.C (Kd.int .i64) W Ax x.length x) (hc0:x.length<=cx) (hr1:Kd.C (Kd.int .i64) W Ay y.length y) (hc1:y.length<=cy) (hr2:Kd.C k54 W A qs.length (qs.map toP)) (hg:GoodN x y qs) (hl:qs.length=lcs x y)=>canon_Of.bare Ax Ay A cx cy c x y qs W hr0 hc0 hr1 hc1 hr2 hg hl (by omega) (by omega) hx0 hy0);have hll:=Zi x y;have HED:=Qk (fun W (Aa Ab A:Option Addr) (ca cb c:Nat) (qs:List (Nat×Nat)) (hr0:Kd.C (Kd.slice 5 (Kd.int .u8)) W Aa la.length la) (hc0:la.length<=ca) (hr1:Kd.C (Kd.slice 5 (Kd.int .u8)) W Ab lb.length lb) (hc1:lb.length<=cb) (hr2:Kd.C k54 W A qs.length (qs.map toP)) (hg:GoodN x y qs) (hl:qs.length=lcs x y)=>edit_Make.calls Aa Ab A ca cb c la lb x y _ qs W hr0 hc0 hr1 hc1 hr2 (by rw[names_some la lb (by omega) (fun t ht=>by rcases List.mem_append.1 ht with h|h;(have:=hC.ta t h;omega);(have:=hC.tb t h;omega)),hC.ex,hC.ey]) hg (by omega) (by omega) hnx hny (by omega) (fun t h=>by have:=hC.ta t h;omega) (fun t h=>by have:=hC.tb t h;omega));have HLL:=Qk (show lcs x y<=24 by omega);generalize zS.p x y=p at HRD HGR HGG;generalize zS.s x y=s at HRD HGR HGG;generalize z7 m=mm at HRD ⊢;clear hC hx0 hy0 hu0 hv0 h0 h1 hun hvn hnx hny hll;go_enter Tryz.func16,Tryz.ntmps16;go_upto_region 1 with fail
 obtain⟨k0,k1⟩:=alloc2 w (Obj.cells #[.int .i64 1000,.int .i64 1099511627776] 40) (Obj.cells #[.int .i64 0,.int .i64 0,.int .i64 0,.int .i64 0,.slice none 0 0,.slice none 0 0] 35);have HB:=Qk (za (za (Below.refl w.heap.size w) (Obj.cells #[.int .i64 1000,.int .i64 1099511627776] 40)) (Obj.cells #[.int .i64 0,.int .i64 0,.int .i64 0,.int .i64 0,.slice none 0 0,.slice none 0 0] 35));have HL:=Qk (show w.heap.size<w.heap.size+1 from Nat.lt_succ_self w.heap.size);have K10:=Qk k1;have hm0:=(zf k0 0).trans (show _=some (.int .i64 1000)from rfl);have hm1:=(zf k0 1).trans (show _=some (.int .i64 1099511627776)from rfl);clear k0 k1;generalize (w.alloc (Obj.cells #[.int .i64 1000,.int .i64 1099511627776] 40)).alloc (Obj.cells #[.int .i64 0,.int .i64 0,.int .i64 0,.int .i64 0,.slice none 0 0,.slice none 0 0] 35)=w1 at K10 HB hm0 hm1 ⊢;generalize w.heap.size+1=gt at K10 HL ⊢;go_upto_region 2 with(go_at_call 38;((with_reducible refine(HRD.out _ HB.out).mono ?_);rintro e w2 ⟨Aa,Ab,Ax,Ay,Au,Av,ca,cb,cx,cy,cu,cv,eng,rfl,he,ht,hbl⟩;have HE:=Qk he;have HT:=Qk ht;have n0_:=Qk (zi HB.out hbl);have n1_:=Qk (zy K10.out hbl);clear HRD HB K10 he ht hbl hm0 hm1;have HB:=n0_;have K10:=n1_;clear n0_ n1_))
 have hbl:=za (Below.refl w2.heap.size w2) (Obj.cells #[.slice Aa la.length ca,.slice Ab lb.length cb,.slice Ax x.length cx,.slice Ay y.length cy,.int .i64 (p:Int),.int .i64 (s:Int),.slice Au u.length cu,.slice Av v.length cv] 81);have K12:=Qk (qv w2 (Obj.cells #[.slice Aa la.length ca,.slice Ab lb.length cb,.slice Ax x.length cx,.slice Ay y.length cy,.int .i64 (p:Int),.int .i64 (s:Int),.slice Au u.length cu,.slice Av v.length cv] 81));have nT_:=Qk (HT.out.below hbl);have n0_:=Qk (zi HB.out hbl);have nK10_:=Qk (zy K10.out hbl);clear HT HB K10 hbl;have HT:=nT_;have HB:=n0_;have K10:=nK10_;clear nT_ n0_ nK10_;have hz0:=(zf K12.out 0).trans (show _=some (.slice Aa la.length ca)from rfl);have hz1:=(zf K12.out 1).trans (show _=some (.slice Ab lb.length cb)from rfl);generalize w2.alloc (Obj.cells #[.slice Aa la.length ca,.slice Ab lb.length cb,.slice Ax x.length cx,.slice Ay y.length cy,.int .i64 (p:Int),.int .i64 (s:Int),.slice Au u.length cu,.slice Av v.length cv] 81)=w3 at K12 K10 HB HT hz0 hz1 ⊢;generalize w2.heap.size=gk at K12 hz0 hz1 ⊢;go_upto_region 4 with fail
 go_region;have hbl:=zg (Below.refl w3.heap.size w3);have nT_:=Qk (HT.out.below hbl);have n0_:=Qk (zi HB.out hbl);have nK10_:=Qk (zy K10.out hbl);have nK12_:=Qk (zy K12.out hbl);clear HT HB K10 K12 hbl;have HT:=nT_;have HB:=n0_;have K10:=nK10_;have K12:=nK12_;clear nT_ n0_ nK10_ nK12_;clear hz0 hz1;have hz6:=(zf K12.out 6).trans (show _=some (.slice Au u.length cu)from rfl);have hz7:=(zf K12.out 7).trans (show _=some (.slice Av v.length cv)from rfl);generalize w3.drew=w4 at K12 K10 HB HT hz6 hz7 ⊢;go_wp2_with (first
  |(go_at_call 39;((with_reducible refine(HRU.out _ eng HE.out Au Av cu cv HT.out.fu HT.out.fu' HT.out.fv HT.out.fv').mono ?_);rintro e w5 ⟨vq,st,qs,rfl,hv,hg,hl,hbl⟩;obtain⟨Aq,cq,eq_⟩:=Kd.R_slice hv;rw[List.length_map]at eq_;subst eq_;have nT_:=Qk (HT.out.below hbl);have n0_:=Qk (zi HB.out hbl);have nK10_:=Qk (zy K10.out hbl);have nK12_:=Qk (zy K12.out hbl);clear HT HB K10 K12 hbl;have HT:=nT_;have HB:=n0_;have K10:=nK10_;have K12:=nK12_;clear nT_ n0_ nK10_ nK12_ ;have HQ:=Qk (Kd.R_lower hv (Nat.zero_le _));have HG:=Qk hg;have HLQ:=Qk hl;clear hv hg hl hz6 hz7 HRU HE;have hz4:=(zf K12.out 4).trans (show _=some (.int .i64 (p:Int))from rfl);have hz5:=(zf K12.out 5).trans (show _=some (.int .i64 (s:Int))from rfl)))
  |(go_at_call 40;((with_reducible refine(HGR.out _ Aq cq qs (by have h_:=(Kd.R_reads' HQ.out).2.2;rw[List.length_map]at h_;exact h_) HG.out HLQ.out).mono ?_);rintro e w6 ⟨vg,rfl,hv,hbl⟩;obtain⟨hg,hl⟩:=HGG.out qs HG.out HLQ.out;have nT_:=Qk (HT.out.below hbl);have n0_:=Qk (zi HB.out hbl);have nK10_:=Qk (zy K10.out hbl);have nK12_:=Qk (zy K12.out hbl);clear HT HB K10 K12 hbl;have HT:=nT_;have HB:=n0_;have K10:=nK10_;have K12:=nK12_;clear nT_ n0_ nK10_ nK12_ ;clear HQ HG HLQ HGR HGG hz4 hz5;generalize growL p s la.length lb.length qs=gs at hv hg hl;obtain⟨Ag,cg,eq_⟩:=Kd.R_slice hv;rw[List.length_map]at eq_;subst eq_;have HQ:=Qk (Kd.R_lower hv (Nat.zero_le _));have HG:=Qk hg;have HLQ:=Qk hl;clear hv hg hl;have hz2:=(zf K12.out 2).trans (show _=some (.slice Ax x.length cx)from rfl);have hz3:=(zf K12.out 3).trans (show _=some (.slice Ay y.length cy)from rfl)))
  |(go_at_call 41;((with_reducible refine(HCA.out _ Ax Ay Ag cx cy cg gs HT.out.fx HT.out.fx' HT.out.fy HT.out.fy' (by have h_:=(Kd.R_reads' HQ.out).2.2;rw[List.length_map]at h_;exact h_) HG.out HLQ.out).mono ?_);rintro e w7 ⟨vl,ls,rfl,hi,hg,hl,hv,hbl⟩;have nT_:=Qk (HT.out.below hbl);have n0_:=Qk (zi HB.out hbl);have nK10_:=Qk (zy K10.out hbl);have nK12_:=Qk (zy K12.out hbl);clear HT HB K10 K12 hbl;have HT:=nT_;have HB:=n0_;have K10:=nK10_;have K12:=nK12_;clear nT_ n0_ nK10_ nK12_ ;clear HQ HG HLQ HCA hz2 hz3;obtain⟨Al,cl,eq_⟩:=Kd.R_slice hv;rw[List.length_map]at eq_;subst eq_;have HQ:=Qk (Kd.R_lower hv (Nat.zero_le _));have HIL:=Qk hi;have HG:=Qk hg;have HLQ:=Qk hl;clear hv hi hg hl;have hz0:=(zf K12.out 0).trans (show _=some (.slice Aa la.length ca)from rfl);have hz1:=(zf K12.out 1).trans (show _=some (.slice Ab lb.length cb)from rfl)))
  |(go_at_call 42;((with_reducible refine(HED.out _ Aa Ab Al ca cb cl ls HT.out.fa HT.out.fa' HT.out.fb HT.out.fb' (by have h_:=(Kd.R_reads' HQ.out).2.2;rw[List.length_map]at h_;exact h_) HG.out HLQ.out).mono ?_);rintro e w8 ⟨vs,ns,xs,rfl,ho,hbl⟩;have nT_:=Qk (HT.out.below hbl);have n0_:=Qk (zi HB.out hbl);have nK10_:=Qk (zy K10.out hbl);have nK12_:=Qk (zy K12.out hbl);have mHQ_:=Qk (Kd.R_below HQ.out hbl);clear HT HB K10 K12 HQ hbl;have HT:=nT_;have HB:=n0_;have K10:=nK10_;have K12:=nK12_;have HQ:=mHQ_;clear nT_ n0_ nK10_ nK12_ mHQ_;obtain⟨As,cs,rfl⟩:=ZU ho;clear ho HED hz0 hz1;have hla:ls.length<=24:=(by have:=HLQ.out;have:=HLL.out;omega);have hw1:IntKind.i64.wrap ((la.length:Int)+(lb.length:Int))=(la.length:Int)+(lb.length:Int):=(by rw[IntWalk.i64_in _ (by omega)]);have hw2:IntKind.i64.wrap (2*(ls.length:Int))=2*(ls.length:Int):=(by rw[IntWalk.i64_in _ (by omega)]);have hw3:IntKind.i64.wrap ((la.length:Int)+(lb.length:Int)-2*(ls.length:Int))=(la.length:Int)+(lb.length:Int)-2*(ls.length:Int):=(by rw[IntWalk.i64_in _ (by omega)]);have hy0:=(zf K10.out 0).trans (show _=some (.int .i64 0)from rfl);have hg0:=zh K10.out 0;have hy1:=(zf K10.out 1).trans (show _=some (.int .i64 0)from rfl);have hg1:=zh K10.out 1;have hy2:=(zf K10.out 2).trans (show _=some (.int .i64 0)from rfl);have hg2:=zh K10.out 2;have hy3:=(zf K10.out 3).trans (show _=some (.int .i64 0)from rfl);have hg3:=zh K10.out 3;have hy4:=(zf K10.out 4).trans (show _=some (.slice none 0 0)from rfl);have hg4:=zh K10.out 4;have hy5:=(zf K10.out 5).trans (show _=some (.slice none 0 0)from rfl);have hg5:=zh K10.out 5)))
 have HQ2:=Qk (Z3 (by decide) [(0,.int .i64 (la.length:Int)),(1,.int .i64 (lb.length:Int)),(2,.int .i64 (ls.length:Int)),(3,.int .i64 ((la.length:Int)+(lb.length:Int)-2*(ls.length:Int))),(4,.slice Al ls.length cl),(5,.slice As ns cs)] HQ.out K10.out);have HB2:=Qk (below_puts (Nat.le_of_lt HL.out) [(0,.int .i64 (la.length:Int)),(1,.int .i64 (lb.length:Int)),(2,.int .i64 (ls.length:Int)),(3,.int .i64 ((la.length:Int)+(lb.length:Int)-2*(ls.length:Int))),(4,.slice Al ls.length cl),(5,.slice As ns cs)] HB.out);refine bodyPost_ret (v:=.tuple #[.agg #[.int .i64 (la.length:Int),.int .i64 (lb.length:Int),.int .i64 (ls.length:Int),.int .i64 ((la.length:Int)+(lb.length:Int)-2*(ls.length:Int)),.slice Al ls.length cl,.slice As ns cs],.int .i64 0]) (by simp[results,Tryz.results16,go_sem,hy0,hy1,hy2,hy3,hy4,hy5,hg0,hg1,hg2,hg3,hg4,hg5]) rfl ⟨Al,As,cl,cs,ns,ls,rfl,HIL.out,HG.out,HLQ.out,HQ2.out,HB2.out⟩
theorem TextIn.of{w:World}{A:Option Addr}{c:Nat}{l:List Int}(h:Kd.C (Kd.int .u8) w A l.length l)(hc:l.length<=c)(hu:u8s l)(hn:l.length<=24):TextIn w A c l :=
 ⟨⟨_,Kd.V_mk hc (Kd.C_F (Kd.heap_int _) h)⟩,hu,hn⟩
theorem textIn_lit{w:World}{g:Nat}{cs:Array Value}{l:List Int}{fz:Nat×Nat}(hg:w.heap[g]?=some (.cells cs 5 fz))(hs:cs=(l.map (Value.int .u8)).toArray)(hu:u8s l)(hn:l.length<=24):TextIn w (some ⟨g,0,none⟩) l.length l:=by
 refine TextIn.of (Kd.C_of_reads (d:=(0:Int)) (h1:=fun _=>rfl) ⟨rfl,by omega,fun _=>⟨_,rfl,fun i hi=>?_⟩⟩) (Nat.le_refl _) hu hn;rw[qy];refine(cell_of_row w g i cs 5 fz hg).trans ?_;rw[hs];simp[List.getD_eq_getElem?_getD,hi]
theorem conv_ab(w:World):(convert 22 22 (.slice (some ⟨w.heap.size,0,none⟩) 2 2)).run Tryz.prog (w.alloc (.cells #[.int .u8 97,.int .u8 98] 5))=.ok (.slice (some ⟨w.heap.size,0,none⟩) 2 2) (w.alloc (.cells #[.int .u8 97,.int .u8 98] 5 (2,3))) :=
 Lib.run_convert_bytes_const w 22 5 #[.int .u8 97,.int .u8 98] 2 2 Tryz.underlying22 Tryz.underlying5
theorem conv_b(w:World):(convert 22 22 (.slice (some ⟨w.heap.size+1,0,none⟩) 1 1)).run Tryz.prog ((w.alloc (.cells #[.int .u8 97,.int .u8 98] 5 (2,3))).alloc (.cells #[.int .u8 98] 5))=.ok (.slice (some ⟨w.heap.size+1,0,none⟩) 1 1) ((w.alloc (.cells #[.int .u8 97,.int .u8 98] 5 (2,3))).alloc (.cells #[.int .u8 98] 5 (1,2))):=by
 have h:=Lib.run_convert_bytes_const (P:=Tryz.prog) (w.alloc (.cells #[.int .u8 97,.int .u8 98] 5 (2,3))) 22 5 #[.int .u8 98] 1 1 Tryz.underlying22 Tryz.underlying5;rw[Z2]at h;exact h
theorem lits_in(w:World):TextIn ((w.alloc (.cells #[.int .u8 97,.int .u8 98] 5 (2,3))).alloc (.cells #[.int .u8 98] 5 (1,2))) (some ⟨w.heap.size,0,none⟩) 2 [97,98]/\TextIn ((w.alloc (.cells #[.int .u8 97,.int .u8 98] 5 (2,3))).alloc (.cells #[.int .u8 98] 5 (1,2))) (some ⟨w.heap.size+1,0,none⟩) 1 [98]:=by
 obtain⟨h1,h2⟩:=alloc2 w (.cells #[.int .u8 97,.int .u8 98] 5 (2,3)) (.cells #[.int .u8 98] 5 (1,2));exact⟨textIn_lit (l:=[97,98]) h1 rfl (fun x h=>by simp at h;omega) (by decide),textIn_lit (l:=[98]) h2 rfl (fun x h=>by simp at h;omega) (by decide)⟩
theorem ab_x:xsOf (ql false [97,98]) (ql false [98])=[0,1]:=by kernel_rfl
theorem ab_y:ysOf (ql false [97,98]) (ql false [98])=[1]:=by kernel_rfl
theorem ab_lcs:lcs [0,1] [1]=1:=by kernel_rfl
theorem ab_pairs{ls:List (Nat×Nat)}(h:GoodN [0,1] [1] ls)(hl:ls.length=lcs [0,1] [1]):ls=[(1,0)]:=by
 rw[ab_lcs]at hl
 match ls,hl with
 |[(i,j)],_ =>
  obtain⟨h1,h2,h3⟩:=h.at_ (i,j) (by simp);simp only[List.length_cons,List.length_nil]at h1 h2 h3;have hj:j=0:=by omega
  subst hj
  rcases(show i=0\/i=1 by omega)with rfl|rfl
  ·exact absurd h3 (by decide)
  ·rfl
theorem ab_diff(W:World)(A0 A1:Option Addr)(c0 c1:Nat)(h0:TextIn W A0 c0 [97,98])(h1:TextIn W A1 c1 [98]) :
 Calls Tryz.prog 16 #[.int .i64 0,.int .i64 0,.slice A0 2 c0,.slice A1 1 c1,.agg #[.int .i64 1000,.int .i64 1099511627776]] W fun e w'=>∃ Al As cl cs ns,e=.returned (.tuple #[.agg #[.int .i64 2,.int .i64 1,.int .i64 1,.int .i64 1,.slice Al 1 cl,.slice As ns cs],.int .i64 0])/\Kd.R k54 54 w' 0 (fun _=>True) (.slice Al 1 cl) [⟨1,0⟩]/\Below W.heap.size W w':=by
 obtain⟨la,lb,x,y,u,v,hC⟩:=cutIs false [97,98] [98] (by decide) (by decide);have ea:=hC.ea;have eb:=hC.eb;have ex:=hC.ex;have ey:=hC.ey;have eu:=hC.eu;have ev:=hC.ev;rw[← ea,← eb,ab_x]at ex;rw[← ea,← eb,ab_y]at ey;rw[← ex,← ey]at eu ev;have hu0:u=[0]:=eu.symm.trans (by kernel_rfl);have hv0:v=[]:=ev.symm.trans (by kernel_rfl);refine(show Calls Tryz.prog 16 #[.int .i64 0,.int .i64 0,.slice A0 2 c0,.slice A1 1 c1,.agg #[.int .i64 1000,.int .i64 1099511627776]] W _ from port_Diff.bare hC ex.symm ey.symm hu0 hv0 W h0 h1).mono ?_;rintro e w' ⟨Al,As,cl,cs,ns,ls,rfl,_,hg,hl,hr,hb⟩;subst ea eb ex ey;obtain rfl:=ab_pairs hg hl;exact⟨Al,As,cl,cs,ns,rfl,hr,hb⟩
theorem ab_near(W:World)(A0 A1:Option Addr)(c0 c1:Nat)(h0:TextIn W A0 c0 [97,98])(h1:TextIn W A1 c1 [98]) :
 Calls Tryz.prog 20 #[.int .i64 0,.slice A0 2 c0,.slice A1 1 c1,.int .i64 1] W fun e w'=>e=.returned (.tuple #[.int .i64 1,.int .i64 0])/\Below W.heap.size W w':=by
 obtain⟨la,lb,x,y,u,v,hC⟩:=cutIs false [97,98] [98] (by decide) (by decide);have ex:=hC.ex;have ey:=hC.ey;have eu:=hC.eu;have ev:=hC.ev;rw[← hC.ea,← hC.eb,ab_x]at ex;rw[← hC.ea,← hC.eb,ab_y]at ey;rw[← ex,← ey]at eu ev;exact port_Near.bare hC W h0 h1 (eu.symm.trans (by kernel_rfl)) (ev.symm.trans (by kernel_rfl))
theorem top_awake.calls(w:World):Calls Tryz.prog 8 #[] w fun e w'=>e=.returned (.bool true)/\Below w.heap.size w w':=by
 have HW:=Qk (fun W=>ZT.calls 1000 1099511627776 W rfl);have q1:=conv_ab w;have q2:=conv_b w;obtain⟨i1,i2⟩:=lits_in w;have I1:=Qk i1;have I2:=Qk i2;clear i1 i2;have HB:=Qk (za (za (Below.refl w.heap.size w) (.cells #[.int .u8 97,.int .u8 98] 5 (2,3))) (.cells #[.int .u8 98] 5 (1,2)));go_enter Tryz.func8,Tryz.ntmps8;go_upto_region 2 with(first
  |(go_at_call 13;((with_reducible refine(HW.out _).mono ?_);rintro e w2 ⟨rfl,hbl⟩;have n1_:=Qk (I1.out.below hbl);have n2_:=Qk (I2.out.below hbl);have n3_:=Qk (zi HB.out hbl);clear I1 I2 HB hbl q1 q2;have I1:=n1_;have I2:=n2_;have HB:=n3_;clear n1_ n2_ n3_))
  |(go_at_call 16;((with_reducible refine(ab_diff _ _ _ _ _ I1.out I2.out).mono ?_);rintro e w3 ⟨Al,As,cl,cs,ns,rfl,hr,hbl⟩;have HR:=Qk hr;have n3_:=Qk (zi HB.out hbl);clear I1 I2 HB hbl hr;have HB:=n3_;clear n3_)))
 have hbl:=za (Below.refl w3.heap.size w3) (Obj.cells #[.int .i64 2,.int .i64 1,.int .i64 1,.int .i64 1,.slice Al 1 cl,.slice As ns cs] 35);have K1:=Qk (qv w3 (Obj.cells #[.int .i64 2,.int .i64 1,.int .i64 1,.int .i64 1,.slice Al 1 cl,.slice As ns cs] 35));have n3_:=Qk (zi HB.out hbl);have n4_:=Qk (Kd.R_below HR.out hbl);clear HB HR hbl;generalize w3.alloc (Obj.cells #[.int .i64 2,.int .i64 1,.int .i64 1,.int .i64 1,.slice Al 1 cl,.slice As ns cs] 35)=w4 at K1 n3_ n4_ ⊢;generalize w3.heap.size=g1 at K1 ⊢;have q1:=conv_ab w4;have q2:=conv_b w4;obtain⟨i1,i2⟩:=lits_in w4;have I1:=Qk i1;have I2:=Qk i2;clear i1 i2;have HB:=Qk (za (za (Below.refl w4.heap.size w4) (.cells #[.int .u8 97,.int .u8 98] 5 (2,3))) (.cells #[.int .u8 98] 5 (1,2)));go_upto_region 3 with(go_at_call 20;((with_reducible refine(ab_near _ _ _ _ _ I1.out I2.out).mono ?_);rintro e w5 ⟨rfl,hbl⟩;have n1_:=zi HB.out hbl;have HR:=Qk (Kd.R_below n4_.out n1_);have K2:=Qk (zy K1.out n1_);have HB2:=Qk (zi n3_.out n1_);clear n1_ I1 I2 HB hbl q1 q2 n3_ n4_ K1))
 have hz2:=(zf K2.out 2).trans (show _=some (.int .i64 1)from rfl);have hz3:=(zf K2.out 3).trans (show _=some (.int .i64 1)from rfl);have hz4:=(zf K2.out 4).trans (show _=some (.slice Al 1 cl)from rfl);obtain⟨ad,rfl,hx,hy⟩:=at_T54 (Kd.R_reads' HR.out).2.2 0 (by decide) (by decide);have hx:w5.cell? (ad.add 0)=some (.int .i64 1):=hx;have hx':w5.cell? ad=some (.int .i64 1):=hx;go_wp2_with fail
 go_ret;exact⟨rfl,HB2.out⟩
theorem info99:(Tryz.prog.info? 99).map (fun i=>(i.zero,i.size,i.bytes))=some (some (.agg #[(.int .i64 0),(.slice none 0 0),(.slice none 0 0)]),3,56):=by kernel_rfl
structure S99 where
 f0:Int
 f1:(List (List Int))
 f2:(List (List Int))
def z99:S99:=⟨(0:Int),([]:List (List Int)),([]:List (List Int))⟩
def k99:Kd S99:=Kd.iso (Kd.pair (Kd.int .i64) (Kd.pair (Kd.slice 22 (Kd.slice 5 (Kd.int .u8))) (Kd.slice 22 (Kd.slice 5 (Kd.int .u8))))) (fun x:S99=>(x.f0,x.f1,x.f2))
theorem k99_open{w:World}{x:S99}{cs:List Value}(h:k99.K w x cs):∃ A1 c1 A2 c2,cs=[.int .i64 x.f0,.slice A1 x.f1.length c1,.slice A2 x.f2.length c2]/\x.f1.length<=c1/\(Kd.slice 5 (Kd.int .u8)).C w A1 x.f1.length x.f1/\x.f2.length<=c2/\(Kd.slice 5 (Kd.int .u8)).C w A2 x.f2.length x.f2:=by
 obtain⟨_,_,rfl,rfl,⟨_,_,rfl,⟨A1,c1,rfl,l1,g1⟩,⟨A2,c2,rfl,l2,g2⟩⟩⟩:=h;exact⟨A1,c1,A2,c2,rfl,l1,g1,l2,g2⟩
theorem k99_mk(w:World)(x:S99){A1:Option Addr}{c1:Nat}(l1:x.f1.length<=c1)(g1:(Kd.slice 5 (Kd.int .u8)).C w A1 x.f1.length x.f1){A2:Option Addr}{c2:Nat}(l2:x.f2.length<=c2)(g2:(Kd.slice 5 (Kd.int .u8)).C w A2 x.f2.length x.f2):k99.K w x [.int .i64 x.f0,.slice A1 x.f1.length c1,.slice A2 x.f2.length c2]:=⟨[.int .i64 x.f0],[.slice A1 x.f1.length c1,.slice A2 x.f2.length c2],rfl,rfl,⟨[.slice A1 x.f1.length c1],[.slice A2 x.f2.length c2],rfl,⟨A1,c1,rfl,l1,g1⟩,⟨A2,c2,rfl,l2,g2⟩⟩⟩
theorem k99_openF{W:World}{ok:Nat->Prop}{x:S99}{cs:List Value}(h:Kd.FK k99 W ok x cs):∃ A1 c1 A2 c2,cs=[.int .i64 x.f0,.slice A1 x.f1.length c1,.slice A2 x.f2.length c2]/\x.f1.length<=c1/\Kd.F (Kd.slice 5 (Kd.int .u8)) W ok A1 x.f1.length x.f1/\x.f2.length<=c2/\Kd.F (Kd.slice 5 (Kd.int .u8)) W ok A2 x.f2.length x.f2:=by
 obtain⟨A1,c1,A2,c2,rfl,l1,_,l2,_⟩:=k99_open (Kd.FK_now h);exact⟨A1,c1,A2,c2,rfl,l1,(fun W' hW=>by obtain⟨A1_,c1_,A2_,c2_,he,l1_,g1_,l2_,g2_⟩:=k99_open (h W' hW);injection (Qp (show some (Value.slice A1 x.f1.length c1)=some (Value.slice A1_ x.f1.length c1_)from congrArg (fun l=>l[1]?) he))with ha_ _ _;rw[ha_];exact g1_),l2,(fun W' hW=>by obtain⟨A1_,c1_,A2_,c2_,he,l1_,g1_,l2_,g2_⟩:=k99_open (h W' hW);injection (Qp (show some (Value.slice A2 x.f2.length c2)=some (Value.slice A2_ x.f2.length c2_)from congrArg (fun l=>l[2]?) he))with ha_ _ _;rw[ha_];exact g2_)⟩
theorem k99_mkF(W:World)(ok:Nat->Prop)(x:S99){A1:Option Addr}{c1:Nat}(l1:x.f1.length<=c1)(g1:Kd.F (Kd.slice 5 (Kd.int .u8)) W ok A1 x.f1.length x.f1){A2:Option Addr}{c2:Nat}(l2:x.f2.length<=c2)(g2:Kd.F (Kd.slice 5 (Kd.int .u8)) W ok A2 x.f2.length x.f2):Kd.FK k99 W ok x [.int .i64 x.f0,.slice A1 x.f1.length c1,.slice A2 x.f2.length c2]:=fun W2 hW=>k99_mk W2 x l1 (g1 W2 hW) l2 (g2 W2 hW)
def zX(xs:List S99)(i:Int):S99:=xs.getD i.toNat z99
theorem at_T99{w:World}{A:Option Addr}{n:Nat}{xs:List S99}(h:Kd.C k99 w A n xs)(i:Int)(h0:0<=i)(h1:i<n):∃ ad A1 c1 A2 c2,A=some ad/\w.cell? (ad.add (i.toNat*3))=some (.int .i64 (zX xs i).f0)/\w.cell? ⟨(ad.add (i.toNat*3)).block,(ad.add (i.toNat*3)).off+1,none⟩=some (.slice A1 (zX xs i).f1.length c1)/\w.cell? ⟨(ad.add (i.toNat*3)).block,(ad.add (i.toNat*3)).off+2,none⟩=some (.slice A2 (zX xs i).f2.length c2)/\(zX xs i).f1.length<=c1/\(Kd.slice 5 (Kd.int .u8)).C w A1 (zX xs i).f1.length (zX xs i).f1/\(zX xs i).f2.length<=c2/\(Kd.slice 5 (Kd.int .u8)).C w A2 (zX xs i).f2.length (zX xs i).f2:=by
 obtain⟨ad,c,e,_,hK,hc0⟩:=Kd.C_get h z99 i h0 h1;have hc:∀ j u,c[j]?=some u->w.cell? (ad.add (i.toNat*3+j))=some u:=hc0
 obtain⟨A1,c1,A2,c2,rfl,l1,g1,l2,g2⟩:=k99_open hK;exact⟨ad,A1,c1,A2,c2,e,hc 0 _ rfl,by rw[← ZW _ _ 1 (by omega)];exact hc 1 _ rfl,by rw[← ZW _ _ 2 (by omega)];exact hc 2 _ rfl,l1,g1,l2,g2⟩
def zm.f(l0:List Int)(a1:Int)(a2:Int):Option (Bool):=if a1≥0 then(if a1<(l0.length:Int)then(if 0<=a1 then(some ((rd l0 a1) == a2))else(none))else(some false))else(some false)
theorem zm.calls(A0:Option Addr)(c0:Nat)(l0:List Int)(a1:Int)(a2:Int)(r:Bool)(w:World)(hr0:Kd.C (Kd.int .u8) w A0 l0.length l0)(hc0:l0.length<=c0)(h:zm.f l0 a1 a2=some r) :
 Calls Tryz.prog 48 #[.slice A0 l0.length c0,.int .i64 a1,.int .u8 a2] w fun e w'=>e=.returned (.bool r)/\Drawn0 w w':=by
 have HR0:=Qk hr0;have HC0:=Qk hc0;clear hr0 hc0;have H:(if a1≥0 then(if a1<(l0.length:Int)then(if 0<=a1 then(some ((rd l0 a1) == a2))else(none))else(some false))else(some false))=some r:=h;clear h;by_cases c4:a1≥0
 ·rw[if_pos c4]at H;have c4b0:decide (0<=a1)=true:=Qm c4;clear c4;by_cases c5:a1<(l0.length:Int)
  ·rw[if_pos c5]at H;have c5b0:decide (a1<(l0.length:Int))=true:=Qm c5;clear c5;replace H:=ifSome H;obtain⟨c6,H⟩:=H;have c6b0:decide (0<=a1)=true:=Qm c6;clear c6;obtain rfl:=Qp H;have p675:0<=(a1:Int):=Ql (by assumption);have q675:a1<(l0.length:Int):=Ql (by assumption);obtain⟨ad675,e675,hx675_0⟩:=Kd.at_int HR0.out a1 p675 q675
   cases e675;replace p675:=Qr p675;replace q675:=Qr q675;go_enter Tryz.func48,Tryz.ntmps48;go_wp2;go_ret;exact⟨rfl,by repeat(first|exact Drawn0.refl _|apply Drawn0.step)⟩
  ·rw[if_neg c5]at H;have c5b0:decide (a1<(l0.length:Int))=false:=Qn c5;clear c5;obtain rfl:=Qp H;go_enter Tryz.func48,Tryz.ntmps48;go_wp2;go_ret;exact⟨rfl,by repeat(first|exact Drawn0.refl _|apply Drawn0.step)⟩
 ·rw[if_neg c4]at H;have c4b0:decide (0<=a1)=false:=Qn c4;clear c4;obtain rfl:=Qp H;go_enter Tryz.func48,Tryz.ntmps48;go_wp2;go_ret;exact⟨rfl,by repeat(first|exact Drawn0.refl _|apply Drawn0.step)⟩
mutual
def zk.l0:Nat->List Int->Int->Int->Int->Int->Option (Int×Int)
 |0,_,_,_,_,_=>none
 |k+1,x0,x1,x2,x8,x9=>if x9<(x0.length:Int)then(if 0<=x9 then(if (rd x0 x9)≥48 then(zk.j1 k x0 x1 x2 x8 x9 (decide ((rd x0 x9)<=57)))else(zk.j1 k x0 x1 x2 x8 x9 false))else(none))else(zk.j1 k x0 x1 x2 x8 x9 false)
def zk.j1:Nat->List Int->Int->Int->Int->Int->Bool->Option (Int×Int)
 |0,_,_,_,_,_,_=>none
 |k+1,x0,x1,x2,x8,x9,x28=>if x28=true then(if x9 > x1 then(if x8=0 then(some (0,(-1)))else(if x8 > x2 then(some (0,(-1)))else(if 0<=x9 then(if x9<(x0.length:Int)then(zk.l0 k x0 x1 x2 (wrap64 ((wrap64 (x8*10))+(((rd x0 x9)-48) % 256))) (wrap64 (x9+1)))else(none))else(none))))else(if x8 > x2 then(some (0,(-1)))else(if 0<=x9 then(if x9<(x0.length:Int)then(zk.l0 k x0 x1 x2 (wrap64 ((wrap64 (x8*10))+(((rd x0 x9)-48) % 256))) (wrap64 (x9+1)))else(none))else(none))))else(if x9=x1 then(some (0,(-1)))else(if x8 > x2 then(some (0,(-1)))else(some (x8,x9))))
end
def zk.f(k:Nat)(l0:List Int)(a1:Int)(a2:Int):Option (Int×Int):=zk.l0 k l0 a1 a2 0 a1
theorem zk.calls(k:Nat)(A0:Option Addr)(c0:Nat)(l0:List Int)(a1:Int)(a2:Int)(r1:Int)(r2:Int)(w:World)(hr0:Kd.C (Kd.int .u8) w A0 l0.length l0)(hc0:l0.length<=c0)(h:zk.f k l0 a1 a2=some (r1,r2)) :
 Calls Tryz.prog 91 #[.slice A0 l0.length c0,.int .i64 a1,.int .i64 a2] w fun e w'=>e=.returned (.tuple #[.int .i64 r1,.int .i64 r2])/\Drawn0 w w':=by
 have HR0:=Qk hr0;have HC0:=Qk hc0;clear hr0 hc0;have H:(zk.l0 k l0 a1 a2 0 a1)=some (r1,r2):=h;clear h;have H':=Qk H;clear H;go_enter Tryz.func91,Tryz.ntmps91;go_wp2;go_loopg [8,9] k (fun kq v8 v9 w'=>∃ (x8_1:Int) (x9_1:Int),v8=.int .i64 x8_1/\v9=.int .i64 x9_1/\Aside0 (zk.l0 kq l0 a1 a2 x8_1 x9_1=some (r1,r2))/\Aside0 (kq<=k)/\Drawn0 w w')
 case atStart=>exact⟨(0),(a1),rfl,rfl,H',⟨Nat.le_refl _⟩,by repeat(first|exact Drawn0.refl _|apply Drawn0.step)⟩
 case round =>
  clear H';obtain⟨x8_1,x9_1,rfl,rfl,HA,HK1,⟨m1,rfl⟩⟩:=hrel
  cases gk with
  |zero=>exact absurd HA.out (by simp[zk.l0])
  |succ k1 =>
   have H:=HA.out;clear HA;simp only[zk.l0]at H;have HC4:=Qk H;clear H;go_upto_region 2 with(fail)
   go_cut [28] (fun v28 wc=>∃ (kq:Nat) (x28_3:Bool),v28=.bool x28_3/\Aside0 (zk.j1 kq l0 a1 a2 x8_1 x9_1 x28_3=some (r1,r2))/\Aside0 (kq<=k1)/\Drawn0 w wc)
   case first =>
    have H:=HC4.out;clear HC4;by_cases c5:x9_1<(l0.length:Int)
    ·rw[if_pos c5]at H;have c5b0:decide (x9_1<(l0.length:Int))=true:=Qm c5;clear c5;(first|rw[c5b0]|(simp only[zp,zw];rw[c5b0])|skip);replace H:=ifSome H;obtain⟨c6,H⟩:=H;have c6b0:decide (0<=x9_1)=true:=Qm c6;clear c6;by_cases c7:(rd l0 x9_1)≥48
     ·rw[if_pos c7]at H;have c7b0:decide (48<=(rd l0 x9_1))=true:=Qm c7;clear c7;have H':=Qk H;clear H;have p676:0<=(x9_1:Int):=Ql (by assumption);have q676:x9_1<(l0.length:Int):=Ql (by assumption);obtain⟨ad676,e676,hx676_0⟩:=Kd.at_int HR0.out x9_1 p676 q676
      cases e676;replace p676:=Qr p676;replace q676:=Qr q676;have p677:0<=(x9_1:Int):=Ql (by assumption);have q677:x9_1<(l0.length:Int):=Ql (by assumption);obtain⟨ad677,e677,hx677_0⟩:=Kd.at_int HR0.out x9_1 p677 q677;obtain rfl:ad676=ad677:=(by injection e677);replace p677:=Qr p677;replace q677:=Qr q677;go_wp2;go_meet
      case rel=>exact⟨_,(decide ((rd l0 x9_1)<=57)),rfl,H',⟨by have:=HK1.out;first|omega|exact Nat.le_refl _⟩,by repeat(first|exact Drawn0.refl _|apply Drawn0.step)⟩
     ·rw[if_neg c7]at H;have c7b0:decide (48<=(rd l0 x9_1))=false:=Qn c7;clear c7;have H':=Qk H;clear H;have p676:0<=(x9_1:Int):=Ql (by assumption);have q676:x9_1<(l0.length:Int):=Ql (by assumption);obtain⟨ad676,e676,hx676_0⟩:=Kd.at_int HR0.out x9_1 p676 q676
      cases e676;replace p676:=Qr p676;replace q676:=Qr q676;go_wp2;go_meet
      case rel=>exact⟨_,(false),rfl,H',⟨by have:=HK1.out;first|omega|exact Nat.le_refl _⟩,by repeat(first|exact Drawn0.refl _|apply Drawn0.step)⟩
    ·rw[if_neg c5]at H;have c5b0:decide (x9_1<(l0.length:Int))=false:=Qn c5;clear c5;(first|rw[c5b0]|(simp only[zp,zw];rw[c5b0])|skip);have H':=Qk H;clear H;go_wp2;go_meet
     case rel=>exact⟨_,(false),rfl,H',⟨by have:=HK1.out;first|omega|exact Nat.le_refl _⟩,by repeat(first|exact Drawn0.refl _|apply Drawn0.step)⟩
   case rest =>
    clear HC4;obtain⟨kq,x28_3,rfl,HA,HJ3,⟨mc3,rfl⟩⟩:=hcut
    cases kq with
    |zero=>exact absurd HA.out (by simp[zk.j1])
    |succ kj3 =>
     have H:=HA.out;clear HA;simp only[zk.j1]at H;by_cases c8:x28_3=true
     ·subst c8;have H1:(if x9_1 > a1 then(if x8_1=0 then(some (0,(-1)))else(if x8_1 > a2 then(some (0,(-1)))else(if 0<=x9_1 then(if x9_1<(l0.length:Int)then(zk.l0 kj3 l0 a1 a2 (wrap64 ((wrap64 (x8_1*10))+(((rd l0 x9_1)-48) % 256))) (wrap64 (x9_1+1)))else(none))else(none))))else(if x8_1 > a2 then(some (0,(-1)))else(if 0<=x9_1 then(if x9_1<(l0.length:Int)then(zk.l0 kj3 l0 a1 a2 (wrap64 ((wrap64 (x8_1*10))+(((rd l0 x9_1)-48) % 256))) (wrap64 (x9_1+1)))else(none))else(none))))=some (r1,r2):=by rw[if_pos rfl]at H;exact H
      clear H;have H:=H1;clear H1;by_cases c9:x9_1 > a1
      ·rw[if_pos c9]at H;have c9b0:decide (a1<x9_1)=true:=Qm c9;clear c9;by_cases c10:x8_1=0
       ·rw[if_pos c10]at H;have c10b0:(x8_1 == 0)=true:=beq_iff_eq.mpr c10;have c10b1:(x8_1 != 0)=false:=bne_eq_false_iff_eq.mpr c10;clear c10;simp only[Option.some.injEq,Prod.mk.injEq]at H;obtain⟨rfl,rfl⟩:=H;go_wp2;go_ret2;exact⟨rfl,by repeat(first|exact Drawn0.refl _|apply Drawn0.step)⟩
       ·rw[if_neg c10]at H;have c10b0:(x8_1 == 0)=false:=beq_eq_false_iff_ne.mpr c10;have c10b1:(x8_1 != 0)=true:=bne_iff_ne.mpr c10;by_cases c11:x8_1 > a2
        ·rw[if_pos c11]at H;have c11b0:decide (a2<x8_1)=true:=Qm c11;clear c11;simp only[Option.some.injEq,Prod.mk.injEq]at H;obtain⟨rfl,rfl⟩:=H;go_wp2;go_ret2;exact⟨rfl,by repeat(first|exact Drawn0.refl _|apply Drawn0.step)⟩
        ·rw[if_neg c11]at H;have c11b0:decide (a2<x8_1)=false:=Qn c11;clear c11;replace H:=ifSome H;obtain⟨c12,H⟩:=H;have c12b0:decide (0<=x9_1)=true:=Qm c12;clear c12;replace H:=ifSome H;obtain⟨c13,H⟩:=H;have c13b0:decide (x9_1<(l0.length:Int))=true:=Qm c13;clear c13;have H':=Qk H;clear H;have p678:0<=(x9_1:Int):=Ql (by assumption);have q678:x9_1<(l0.length:Int):=Ql (by assumption);obtain⟨ad678,e678,hx678_0⟩:=Kd.at_int HR0.out x9_1 p678 q678
         cases e678;replace p678:=Qr p678;replace q678:=Qr q678;go_wp2;go_roundg kj3
         case measure=>have:=HK1.out;have:=HJ3.out;omega
         case rel=>exact⟨(wrap64 ((wrap64 (x8_1*10))+(((rd l0 x9_1)-48) % 256))),(wrap64 (x9_1+1)),rfl,rfl,H',⟨by have:=HK1.out;have:=HJ3.out;omega⟩,by repeat(first|exact Drawn0.refl _|apply Drawn0.step)⟩
      ·rw[if_neg c9]at H;have c9b0:decide (a1<x9_1)=false:=Qn c9;clear c9;by_cases c14:x8_1 > a2
       ·rw[if_pos c14]at H;have c14b0:decide (a2<x8_1)=true:=Qm c14;clear c14;simp only[Option.some.injEq,Prod.mk.injEq]at H;obtain⟨rfl,rfl⟩:=H;go_wp2;go_ret2;exact⟨rfl,by repeat(first|exact Drawn0.refl _|apply Drawn0.step)⟩
       ·rw[if_neg c14]at H;have c14b0:decide (a2<x8_1)=false:=Qn c14;clear c14;replace H:=ifSome H;obtain⟨c15,H⟩:=H;have c15b0:decide (0<=x9_1)=true:=Qm c15;clear c15;replace H:=ifSome H;obtain⟨c16,H⟩:=H;have c16b0:decide (x9_1<(l0.length:Int))=true:=Qm c16;clear c16;have H':=Qk H;clear H;have p679:0<=(x9_1:Int):=Ql (by assumption);have q679:x9_1<(l0.length:Int):=Ql (by assumption);obtain⟨ad679,e679,hx679_0⟩:=Kd.at_int HR0.out x9_1 p679 q679
        cases e679;replace p679:=Qr p679;replace q679:=Qr q679;go_wp2;go_roundg kj3
        case measure=>have:=HK1.out;have:=HJ3.out;omega
        case rel=>exact⟨(wrap64 ((wrap64 (x8_1*10))+(((rd l0 x9_1)-48) % 256))),(wrap64 (x9_1+1)),rfl,rfl,H',⟨by have:=HK1.out;have:=HJ3.out;omega⟩,by repeat(first|exact Drawn0.refl _|apply Drawn0.step)⟩
     ·replace c8:=Bool.eq_false_iff.mpr c8;subst c8;have H1:(if x9_1=a1 then(some (0,(-1)))else(if x8_1 > a2 then(some (0,(-1)))else(some (x8_1,x9_1))))=some (r1,r2):=by rw[if_neg (show ¬ (false=true) by decide)]at H;exact H
      clear H;have H:=H1;clear H1;by_cases c17:x9_1=a1
      ·rw[if_pos c17]at H;have c17b0:(x9_1 == a1)=true:=beq_iff_eq.mpr c17;have c17b1:(x9_1 != a1)=false:=bne_eq_false_iff_eq.mpr c17;clear c17;simp only[Option.some.injEq,Prod.mk.injEq]at H;obtain⟨rfl,rfl⟩:=H;go_wp2;go_ret2;exact⟨rfl,by repeat(first|exact Drawn0.refl _|apply Drawn0.step)⟩
      ·rw[if_neg c17]at H;have c17b0:(x9_1 == a1)=false:=beq_eq_false_iff_ne.mpr c17;have c17b1:(x9_1 != a1)=true:=bne_iff_ne.mpr c17;by_cases c18:x8_1 > a2
       ·rw[if_pos c18]at H;have c18b0:decide (a2<x8_1)=true:=Qm c18;clear c18;simp only[Option.some.injEq,Prod.mk.injEq]at H;obtain⟨rfl,rfl⟩:=H;go_wp2;go_ret2;exact⟨rfl,by repeat(first|exact Drawn0.refl _|apply Drawn0.step)⟩
       ·rw[if_neg c18]at H;have c18b0:decide (a2<x8_1)=false:=Qn c18;clear c18;simp only[Option.some.injEq,Prod.mk.injEq]at H;obtain⟨rfl,rfl⟩:=H;go_wp2;go_ret2;exact⟨rfl,by repeat(first|exact Drawn0.refl _|apply Drawn0.step)⟩
def qA.f(k:Nat)(l0:List Int)(a1:Int):Option (Int×Int×Int×Int):=(zk.f k l0 (wrap64 (a1+1)) 1048576).bind fun bt680=>((zm.f l0 bt680.2 32).bind fun t682=>(if t682=true then((zk.f k l0 (wrap64 (bt680.2+1)) 1048576).bind fun bt683=>((zm.f l0 bt683.2 32).bind fun t685=>(if t685=true then((zk.f k l0 (wrap64 (bt683.2+1)) 1048576).bind fun bt686=>((zm.f l0 bt686.2 10).bind fun t688=>(if t688=true then(some (bt680.1,bt683.1,bt686.1,wrap64 (bt686.2+1)))else(some (0,0,0,(-1))))))else(some (0,0,0,(-1))))))else(some (0,0,0,(-1)))))
theorem qA.calls(k:Nat)(A0:Option Addr)(c0:Nat)(l0:List Int)(a1:Int)(r1:Int)(r2:Int)(r3:Int)(r4:Int)(w:World)(hr0:Kd.C (Kd.int .u8) w A0 l0.length l0)(hc0:l0.length<=c0)(h:qA.f k l0 a1=some (r1,r2,r3,r4)) :
 Calls Tryz.prog 49 #[.slice A0 l0.length c0,.int .i64 a1] w fun e w'=>e=.returned (.tuple #[.int .i64 r1,.int .i64 r2,.int .i64 r3,.int .i64 r4])/\Drawn0 w w':=by
 have HR0:=Qk hr0;have HC0:=Qk hc0;clear hr0 hc0;have H:((zk.f k l0 (wrap64 (a1+1)) 1048576).bind fun bt680=>((zm.f l0 bt680.2 32).bind fun t682=>(if t682=true then((zk.f k l0 (wrap64 (bt680.2+1)) 1048576).bind fun bt683=>((zm.f l0 bt683.2 32).bind fun t685=>(if t685=true then((zk.f k l0 (wrap64 (bt683.2+1)) 1048576).bind fun bt686=>((zm.f l0 bt686.2 10).bind fun t688=>(if t688=true then(some (bt680.1,bt683.1,bt686.1,wrap64 (bt686.2+1)))else(some (0,0,0,(-1))))))else(some (0,0,0,(-1))))))else(some (0,0,0,(-1))))))=some (r1,r2,r3,r4):=h;clear h;replace H:=Qo H;obtain⟨⟨t680,t681⟩,A30,H⟩:=H;replace H:((zm.f l0 t681 32).bind fun t682=>(if t682=true then((zk.f k l0 (wrap64 (t681+1)) 1048576).bind fun bt683=>((zm.f l0 bt683.2 32).bind fun t685=>(if t685=true then((zk.f k l0 (wrap64 (bt683.2+1)) 1048576).bind fun bt686=>((zm.f l0 bt686.2 10).bind fun t688=>(if t688=true then(some (t680,bt683.1,bt686.1,wrap64 (bt686.2+1)))else(some (0,0,0,(-1))))))else(some (0,0,0,(-1))))))else(some (0,0,0,(-1)))))=some (r1,r2,r3,r4):=H;have A3:=Qk A30;clear A30;replace H:=Qo H;obtain⟨t682,A40,H⟩:=H;replace H:(if t682=true then((zk.f k l0 (wrap64 (t681+1)) 1048576).bind fun bt683=>((zm.f l0 bt683.2 32).bind fun t685=>(if t685=true then((zk.f k l0 (wrap64 (bt683.2+1)) 1048576).bind fun bt686=>((zm.f l0 bt686.2 10).bind fun t688=>(if t688=true then(some (t680,bt683.1,bt686.1,wrap64 (bt686.2+1)))else(some (0,0,0,(-1))))))else(some (0,0,0,(-1))))))else(some (0,0,0,(-1))))=some (r1,r2,r3,r4):=H;have A4:=Qk A40;clear A40;by_cases c5:t682=true
 ·subst c5;have H1:((zk.f k l0 (wrap64 (t681+1)) 1048576).bind fun bt683=>((zm.f l0 bt683.2 32).bind fun t685=>(if t685=true then((zk.f k l0 (wrap64 (bt683.2+1)) 1048576).bind fun bt686=>((zm.f l0 bt686.2 10).bind fun t688=>(if t688=true then(some (t680,bt683.1,bt686.1,wrap64 (bt686.2+1)))else(some (0,0,0,(-1))))))else(some (0,0,0,(-1))))))=some (r1,r2,r3,r4):=by rw[if_pos rfl]at H;exact H
  clear H;have H:=H1;clear H1;replace H:=Qo H;obtain⟨⟨t683,t684⟩,A60,H⟩:=H;replace H:((zm.f l0 t684 32).bind fun t685=>(if t685=true then((zk.f k l0 (wrap64 (t684+1)) 1048576).bind fun bt686=>((zm.f l0 bt686.2 10).bind fun t688=>(if t688=true then(some (t680,t683,bt686.1,wrap64 (bt686.2+1)))else(some (0,0,0,(-1))))))else(some (0,0,0,(-1)))))=some (r1,r2,r3,r4):=H;have A6:=Qk A60;clear A60;replace H:=Qo H;obtain⟨t685,A70,H⟩:=H;replace H:(if t685=true then((zk.f k l0 (wrap64 (t684+1)) 1048576).bind fun bt686=>((zm.f l0 bt686.2 10).bind fun t688=>(if t688=true then(some (t680,t683,bt686.1,wrap64 (bt686.2+1)))else(some (0,0,0,(-1))))))else(some (0,0,0,(-1))))=some (r1,r2,r3,r4):=H;have A7:=Qk A70;clear A70;by_cases c8:t685=true
  ·subst c8;have H1:((zk.f k l0 (wrap64 (t684+1)) 1048576).bind fun bt686=>((zm.f l0 bt686.2 10).bind fun t688=>(if t688=true then(some (t680,t683,bt686.1,wrap64 (bt686.2+1)))else(some (0,0,0,(-1))))))=some (r1,r2,r3,r4):=by rw[if_pos rfl]at H;exact H
   clear H;have H:=H1;clear H1;replace H:=Qo H;obtain⟨⟨t686,t687⟩,A90,H⟩:=H;replace H:((zm.f l0 t687 10).bind fun t688=>(if t688=true then(some (t680,t683,t686,wrap64 (t687+1)))else(some (0,0,0,(-1)))))=some (r1,r2,r3,r4):=H;have A9:=Qk A90;clear A90;replace H:=Qo H;obtain⟨t688,A100,H⟩:=H;replace H:(if t688=true then(some (t680,t683,t686,wrap64 (t687+1)))else(some (0,0,0,(-1))))=some (r1,r2,r3,r4):=H;have A10:=Qk A100;clear A100;by_cases c11:t688=true
   ·subst c11;have H1:(some (t680,t683,t686,wrap64 (t687+1)))=some (r1,r2,r3,r4):=by rw[if_pos rfl]at H;exact H
    clear H;have H:=H1;clear H1;simp only[Option.some.injEq,Prod.mk.injEq]at H;obtain⟨rfl,rfl,rfl,rfl⟩:=H;go_enter Tryz.func49,Tryz.ntmps49;go_wp2_with (first|(go_at_call 91;(with_reducible refine(zk.calls k _ _ l0 (wrap64 (a1+1)) 1048576 t680 t681 _ ?side1 ?side2 A3.out).mono ?_);(case side1=>exact HR0.out);(case side2=>exact HC0.out);rintro e w' ⟨rfl,⟨nd,rfl⟩⟩)|(go_at_call 48;(with_reducible refine(zm.calls _ _ l0 t681 32 true _ ?side1 ?side2 A4.out).mono ?_);(case side1=>exact HR0.out);(case side2=>exact HC0.out);rintro e w' ⟨rfl,⟨nd,rfl⟩⟩)|(go_at_call 91;(with_reducible refine(zk.calls k _ _ l0 (wrap64 (t681+1)) 1048576 t683 t684 _ ?side1 ?side2 A6.out).mono ?_);(case side1=>exact HR0.out);(case side2=>exact HC0.out);rintro e w' ⟨rfl,⟨nd,rfl⟩⟩)|(go_at_call 48;(with_reducible refine(zm.calls _ _ l0 t684 32 true _ ?side1 ?side2 A7.out).mono ?_);(case side1=>exact HR0.out);(case side2=>exact HC0.out);rintro e w' ⟨rfl,⟨nd,rfl⟩⟩)|(go_at_call 91;(with_reducible refine(zk.calls k _ _ l0 (wrap64 (t684+1)) 1048576 t686 t687 _ ?side1 ?side2 A9.out).mono ?_);(case side1=>exact HR0.out);(case side2=>exact HC0.out);rintro e w' ⟨rfl,⟨nd,rfl⟩⟩)|(go_at_call 48;(with_reducible refine(zm.calls _ _ l0 t687 10 true _ ?side1 ?side2 A10.out).mono ?_);(case side1=>exact HR0.out);(case side2=>exact HC0.out);rintro e w' ⟨rfl,⟨nd,rfl⟩⟩))
    refine bodyPost_ret (zW (rs:=[.tmp 4,.tmp 5,.tmp 6,.tmp 7]) rfl (by simp) (.tmp (.tmp (.tmp (.tmp .nil))))) rfl ?_;exact⟨rfl,by repeat(first|exact Drawn0.refl _|apply Drawn0.step)⟩
   ·replace c11:=Bool.eq_false_iff.mpr c11;subst c11;have H1:(some (0,0,0,(-1)))=some (r1,r2,r3,r4):=by rw[if_neg (show ¬ (false=true) by decide)]at H;exact H
    clear H;have H:=H1;clear H1;simp only[Option.some.injEq,Prod.mk.injEq]at H;obtain⟨rfl,rfl,rfl,rfl⟩:=H;go_enter Tryz.func49,Tryz.ntmps49;go_wp2_with (first|(go_at_call 91;(with_reducible refine(zk.calls k _ _ l0 (wrap64 (a1+1)) 1048576 t680 t681 _ ?side1 ?side2 A3.out).mono ?_);(case side1=>exact HR0.out);(case side2=>exact HC0.out);rintro e w' ⟨rfl,⟨nd,rfl⟩⟩)|(go_at_call 48;(with_reducible refine(zm.calls _ _ l0 t681 32 true _ ?side1 ?side2 A4.out).mono ?_);(case side1=>exact HR0.out);(case side2=>exact HC0.out);rintro e w' ⟨rfl,⟨nd,rfl⟩⟩)|(go_at_call 91;(with_reducible refine(zk.calls k _ _ l0 (wrap64 (t681+1)) 1048576 t683 t684 _ ?side1 ?side2 A6.out).mono ?_);(case side1=>exact HR0.out);(case side2=>exact HC0.out);rintro e w' ⟨rfl,⟨nd,rfl⟩⟩)|(go_at_call 48;(with_reducible refine(zm.calls _ _ l0 t684 32 true _ ?side1 ?side2 A7.out).mono ?_);(case side1=>exact HR0.out);(case side2=>exact HC0.out);rintro e w' ⟨rfl,⟨nd,rfl⟩⟩)|(go_at_call 91;(with_reducible refine(zk.calls k _ _ l0 (wrap64 (t684+1)) 1048576 t686 t687 _ ?side1 ?side2 A9.out).mono ?_);(case side1=>exact HR0.out);(case side2=>exact HC0.out);rintro e w' ⟨rfl,⟨nd,rfl⟩⟩)|(go_at_call 48;(with_reducible refine(zm.calls _ _ l0 t687 10 false _ ?side1 ?side2 A10.out).mono ?_);(case side1=>exact HR0.out);(case side2=>exact HC0.out);rintro e w' ⟨rfl,⟨nd,rfl⟩⟩))
    refine bodyPost_ret (zW (rs:=[.tmp 4,.tmp 5,.tmp 6,.tmp 7]) rfl (by simp) (.tmp (.tmp (.tmp (.tmp .nil))))) rfl ?_;exact⟨rfl,by repeat(first|exact Drawn0.refl _|apply Drawn0.step)⟩
  ·replace c8:=Bool.eq_false_iff.mpr c8;subst c8;have H1:(some (0,0,0,(-1)))=some (r1,r2,r3,r4):=by rw[if_neg (show ¬ (false=true) by decide)]at H;exact H
   clear H;have H:=H1;clear H1;simp only[Option.some.injEq,Prod.mk.injEq]at H;obtain⟨rfl,rfl,rfl,rfl⟩:=H;go_enter Tryz.func49,Tryz.ntmps49;go_wp2_with (first|(go_at_call 91;(with_reducible refine(zk.calls k _ _ l0 (wrap64 (a1+1)) 1048576 t680 t681 _ ?side1 ?side2 A3.out).mono ?_);(case side1=>exact HR0.out);(case side2=>exact HC0.out);rintro e w' ⟨rfl,⟨nd,rfl⟩⟩)|(go_at_call 48;(with_reducible refine(zm.calls _ _ l0 t681 32 true _ ?side1 ?side2 A4.out).mono ?_);(case side1=>exact HR0.out);(case side2=>exact HC0.out);rintro e w' ⟨rfl,⟨nd,rfl⟩⟩)|(go_at_call 91;(with_reducible refine(zk.calls k _ _ l0 (wrap64 (t681+1)) 1048576 t683 t684 _ ?side1 ?side2 A6.out).mono ?_);(case side1=>exact HR0.out);(case side2=>exact HC0.out);rintro e w' ⟨rfl,⟨nd,rfl⟩⟩)|(go_at_call 48;(with_reducible refine(zm.calls _ _ l0 t684 32 false _ ?side1 ?side2 A7.out).mono ?_);(case side1=>exact HR0.out);(case side2=>exact HC0.out);rintro e w' ⟨rfl,⟨nd,rfl⟩⟩))
   refine bodyPost_ret (zW (rs:=[.tmp 4,.tmp 5,.tmp 6,.tmp 7]) rfl (by simp) (.tmp (.tmp (.tmp (.tmp .nil))))) rfl ?_;exact⟨rfl,by repeat(first|exact Drawn0.refl _|apply Drawn0.step)⟩
 ·replace c5:=Bool.eq_false_iff.mpr c5;subst c5;have H1:(some (0,0,0,(-1)))=some (r1,r2,r3,r4):=by rw[if_neg (show ¬ (false=true) by decide)]at H;exact H
  clear H;have H:=H1;clear H1;simp only[Option.some.injEq,Prod.mk.injEq]at H;obtain⟨rfl,rfl,rfl,rfl⟩:=H;go_enter Tryz.func49,Tryz.ntmps49;go_wp2_with (first|(go_at_call 91;(with_reducible refine(zk.calls k _ _ l0 (wrap64 (a1+1)) 1048576 t680 t681 _ ?side1 ?side2 A3.out).mono ?_);(case side1=>exact HR0.out);(case side2=>exact HC0.out);rintro e w' ⟨rfl,⟨nd,rfl⟩⟩)|(go_at_call 48;(with_reducible refine(zm.calls _ _ l0 t681 32 false _ ?side1 ?side2 A4.out).mono ?_);(case side1=>exact HR0.out);(case side2=>exact HC0.out);rintro e w' ⟨rfl,⟨nd,rfl⟩⟩))
  refine bodyPost_ret (zW (rs:=[.tmp 4,.tmp 5,.tmp 6,.tmp 7]) rfl (by simp) (.tmp (.tmp (.tmp (.tmp .nil))))) rfl ?_;exact⟨rfl,by repeat(first|exact Drawn0.refl _|apply Drawn0.step)⟩
mutual
def zP.j0:Nat->List Int->Bool->Option (Bool)
 |0,_,_=>none
 |k+1,x1,x17=>if x17=true then(some false)else(zP.l0 k x1 0)
def zP.l0:Nat->List Int->Int->Option (Bool)
 |0,_,_=>none
 |k+1,x1,x5=>if (wrap64 (x5+1))<(x1.length:Int)then(if 0<=x5 then(if x5<(x1.length:Int)then(if (rd x1 x5)=10 then(some false)else(zP.l0 k x1 (wrap64 (x5+1))))else(none))else(none))else(some true)
end
def zP.f(k:Nat)(a0:Int)(l1:List Int):Option (Bool):=if a0=0 then(some ((l1.length:Int) == 1))else(if a0=1 then(zP.j0 k l1 ((l1.length:Int) == 0))else(zP.j0 k l1 true))
theorem zP.calls(k:Nat)(a0:Int)(A1:Option Addr)(c1:Nat)(l1:List Int)(r:Bool)(w:World)(hr1:Kd.C (Kd.int .u8) w A1 l1.length l1)(hc1:l1.length<=c1)(h:zP.f k a0 l1=some r) :
 Calls Tryz.prog 92 #[.int .i64 a0,.slice A1 l1.length c1] w fun e w'=>e=.returned (.bool r)/\Drawn0 w w':=by
 have HR1:=Qk hr1;have HC1:=Qk hc1;clear hr1 hc1;have H:(if a0=0 then(some ((l1.length:Int) == 1))else(if a0=1 then(zP.j0 k l1 ((l1.length:Int) == 0))else(zP.j0 k l1 true)))=some r:=h;clear h;by_cases c3:a0=0
 ·rw[if_pos c3]at H;have c3b0:(a0 == 0)=true:=beq_iff_eq.mpr c3;have c3b1:(a0 != 0)=false:=bne_eq_false_iff_eq.mpr c3;clear c3;obtain rfl:=Qp H;go_enter Tryz.func92,Tryz.ntmps92;go_wp2;go_ret;exact⟨rfl,by repeat(first|exact Drawn0.refl _|apply Drawn0.step)⟩
 ·rw[if_neg c3]at H;have c3b0:(a0 == 0)=false:=beq_eq_false_iff_ne.mpr c3;have c3b1:(a0 != 0)=true:=bne_iff_ne.mpr c3;have HC4:=Qk H;clear H;go_enter Tryz.func92,Tryz.ntmps92;go_upto_region 3 with(fail)
  go_cut [17] (fun v17 wc=>∃ (kq:Nat) (x17_3:Bool),v17=.bool x17_3/\Aside0 (zP.j0 kq l1 x17_3=some r)/\Aside0 (kq<=k)/\Drawn0 w wc)
  case first =>
   have H:=HC4.out;clear HC4;by_cases c5:a0=1
   ·rw[if_pos c5]at H;have c5b0:(a0 == 1)=true:=beq_iff_eq.mpr c5;have c5b1:(a0 != 1)=false:=bne_eq_false_iff_eq.mpr c5;clear c5;(first|rw[c5b0]|(simp only[zp,zw];rw[c5b0])|skip);have H':=Qk H;clear H;go_wp2;go_meet
    case rel=>exact⟨_,(((l1.length:Int) == 0)),rfl,H',⟨by first|omega|exact Nat.le_refl _⟩,by repeat(first|exact Drawn0.refl _|apply Drawn0.step)⟩
   ·rw[if_neg c5]at H;have c5b0:(a0 == 1)=false:=beq_eq_false_iff_ne.mpr c5;have c5b1:(a0 != 1)=true:=bne_iff_ne.mpr c5;(first|rw[c5b0]|(simp only[zp,zw];rw[c5b0])|skip);have H':=Qk H;clear H;go_wp2;go_meet
    case rel=>exact⟨_,(true),rfl,H',⟨by first|omega|exact Nat.le_refl _⟩,by repeat(first|exact Drawn0.refl _|apply Drawn0.step)⟩
  case rest =>
   clear HC4;obtain⟨kq,x17_3,rfl,HA,HJ3,⟨mc3,rfl⟩⟩:=hcut
   cases kq with
   |zero=>exact absurd HA.out (by simp[zP.j0])
   |succ kj3 =>
    have H:=HA.out;clear HA;simp only[zP.j0]at H;by_cases c6:x17_3=true
    ·subst c6;have H1:(some false)=some r:=by rw[if_pos rfl]at H;exact H
     clear H;have H:=H1;clear H1;obtain rfl:=Qp H;go_wp2;go_ret;exact⟨rfl,by repeat(first|exact Drawn0.refl _|apply Drawn0.step)⟩
    ·replace c6:=Bool.eq_false_iff.mpr c6;subst c6;have H1:(zP.l0 kj3 l1 0)=some r:=by rw[if_neg (show ¬ (false=true) by decide)]at H;exact H
     clear H;have H:=H1;clear H1;have H':=Qk H;clear H;go_wp2;go_loopg [5] kj3 (fun kq v5 w'=>∃ (x5_2:Int),v5=.int .i64 x5_2/\Aside0 (zP.l0 kq l1 x5_2=some r)/\Aside0 (kq<=kj3)/\Drawn0 w w')
     case atStart=>exact⟨(0),rfl,H',⟨Nat.le_refl _⟩,by repeat(first|exact Drawn0.refl _|apply Drawn0.step)⟩
     case round =>
      clear H';obtain⟨x5_2,rfl,HA,HK2,⟨m2,rfl⟩⟩:=hrel
      cases gk with
      |zero=>exact absurd HA.out (by simp[zP.l0])
      |succ k2 =>
       have H:=HA.out;clear HA;simp only[zP.l0]at H;by_cases c7:(wrap64 (x5_2+1))<(l1.length:Int)
       ·rw[if_pos c7]at H;have c7b0:decide ((wrap64 (x5_2+1))<(l1.length:Int))=true:=Qm c7;clear c7;replace H:=ifSome H;obtain⟨c8,H⟩:=H;have c8b0:decide (0<=x5_2)=true:=Qm c8;clear c8;replace H:=ifSome H;obtain⟨c9,H⟩:=H;have c9b0:decide (x5_2<(l1.length:Int))=true:=Qm c9;clear c9;by_cases c10:(rd l1 x5_2)=10
        ·rw[if_pos c10]at H;have c10b0:((rd l1 x5_2) == 10)=true:=beq_iff_eq.mpr c10;have c10b1:((rd l1 x5_2) != 10)=false:=bne_eq_false_iff_eq.mpr c10;clear c10;obtain rfl:=Qp H;have p689:0<=(x5_2:Int):=Ql (by assumption);have q689:x5_2<(l1.length:Int):=Ql (by assumption);obtain⟨ad689,e689,hx689_0⟩:=Kd.at_int HR1.out x5_2 p689 q689
         cases e689;replace p689:=Qr p689;replace q689:=Qr q689;go_wp2;go_ret;exact⟨rfl,by repeat(first|exact Drawn0.refl _|apply Drawn0.step)⟩
        ·rw[if_neg c10]at H;have c10b0:((rd l1 x5_2) == 10)=false:=beq_eq_false_iff_ne.mpr c10;have c10b1:((rd l1 x5_2) != 10)=true:=bne_iff_ne.mpr c10;have H':=Qk H;clear H;have p689:0<=(x5_2:Int):=Ql (by assumption);have q689:x5_2<(l1.length:Int):=Ql (by assumption);obtain⟨ad689,e689,hx689_0⟩:=Kd.at_int HR1.out x5_2 p689 q689
         cases e689;replace p689:=Qr p689;replace q689:=Qr q689;go_wp2;go_roundg k2
         case measure=>have:=HJ3.out;have:=HK2.out;omega
         case rel=>exact⟨(wrap64 (x5_2+1)),rfl,H',⟨by have:=HJ3.out;have:=HK2.out;omega⟩,by repeat(first|exact Drawn0.refl _|apply Drawn0.step)⟩
       ·rw[if_neg c7]at H;have c7b0:decide ((wrap64 (x5_2+1))<(l1.length:Int))=false:=Qn c7;clear c7;obtain rfl:=Qp H;go_wp2;go_ret;exact⟨rfl,by repeat(first|exact Drawn0.refl _|apply Drawn0.step)⟩
def zL.l0:Nat->List (S99)->Int->Int->Int->Option (Int×Int)
 |0,_,_,_,_=>none
 |k+1,x0,x4,x5,x6=>if x6<(x0.length:Int)then(if 0<=x6 then(zL.l0 k x0 (wrap64 (x4+(((zX x0 x6).f1).length:Int))) (wrap64 (x5+(((zX x0 x6).f2).length:Int))) (wrap64 (x6+1)))else(none))else(some (x4,x5))
def zL.f(k:Nat)(l0:List (S99)):Option (Int×Int):=zL.l0 k l0 0 0 0
theorem zL.calls(k:Nat)(A0:Option Addr)(c0:Nat)(l0:List (S99))(r1:Int)(r2:Int)(w:World)(hr0:Kd.C k99 w A0 l0.length l0)(hc0:l0.length<=c0)(h:zL.f k l0=some (r1,r2)) :
 Calls Tryz.prog 25 #[.slice A0 l0.length c0] w fun e w'=>e=.returned (.tuple #[.int .i64 r1,.int .i64 r2])/\Drawn0 w w':=by
 have HR0:=Qk hr0;have HC0:=Qk hc0;clear hr0 hc0;have H:(zL.l0 k l0 0 0 0)=some (r1,r2):=h;clear h;have H':=Qk H;clear H;go_enter Tryz.func25,Tryz.ntmps25;go_wp2;go_loopg [4,5,6] k (fun kq v4 v5 v6 w'=>∃ (x4_1:Int) (x5_1:Int) (x6_1:Int),v4=.int .i64 x4_1/\v5=.int .i64 x5_1/\v6=.int .i64 x6_1/\Aside0 (zL.l0 kq l0 x4_1 x5_1 x6_1=some (r1,r2))/\Aside0 (kq<=k)/\Drawn0 w w')
 case atStart=>exact⟨(0),(0),(0),rfl,rfl,rfl,H',⟨Nat.le_refl _⟩,by repeat(first|exact Drawn0.refl _|apply Drawn0.step)⟩
 case round =>
  clear H';obtain⟨x4_1,x5_1,x6_1,rfl,rfl,rfl,HA,HK1,⟨m1,rfl⟩⟩:=hrel
  cases gk with
  |zero=>exact absurd HA.out (by simp[zL.l0])
  |succ k1 =>
   have H:=HA.out;clear HA;simp only[zL.l0]at H;by_cases c2:x6_1<(l0.length:Int)
   ·rw[if_pos c2]at H;have c2b0:decide (x6_1<(l0.length:Int))=true:=Qm c2;clear c2;replace H:=ifSome H;obtain⟨c3,H⟩:=H;have c3b0:decide (0<=x6_1)=true:=Qm c3;clear c3;have H':=Qk H;clear H;have p894:0<=(x6_1:Int):=Ql (by assumption);have q894:x6_1<(l0.length:Int):=Ql (by assumption);obtain⟨ad894,A894_1,c894_1,A894_2,c894_2,e894,hx894_0,hx894_1,hx894_2,hl894_1,hi894_1,hl894_2,hi894_2⟩:=at_T99 HR0.out x6_1 p894 q894
    cases e894;have HR894_1:=Qk hi894_1;have HC894_1:=Qk hl894_1;clear hi894_1 hl894_1;have HR894_2:=Qk hi894_2;have HC894_2:=Qk hl894_2;clear hi894_2 hl894_2;replace p894:=Qr p894;replace q894:=Qr q894;have p895:0<=(x6_1:Int):=Ql (by assumption);have q895:x6_1<(l0.length:Int):=Ql (by assumption);obtain⟨ad895,A895_1,c895_1,A895_2,c895_2,e895,hx895_0,hx895_1,hx895_2,hl895_1,hi895_1,hl895_2,hi895_2⟩:=at_T99 HR0.out x6_1 p895 q895;obtain rfl:ad894=ad895:=(by injection e895);have HR895_1:=Qk hi895_1;have HC895_1:=Qk hl895_1;clear hi895_1 hl895_1;have HR895_2:=Qk hi895_2;have HC895_2:=Qk hl895_2;clear hi895_2 hl895_2;replace p895:=Qr p895;replace q895:=Qr q895;have ea_:=Qp (hx894_1.symm.trans hx895_1);injection ea_ with ea_ en_ ec_
    subst ea_;subst ec_;clear en_;have ea_:=Qp (hx894_2.symm.trans hx895_2);injection ea_ with ea_ en_ ec_
    subst ea_;subst ec_;clear en_;go_wp2;repeat(go_quiet (fail);try go_wp2)
    go_roundg k1
    case measure=>have:=HK1.out;omega
    case rel=>exact⟨(wrap64 (x4_1+(((zX l0 x6_1).f1).length:Int))),(wrap64 (x5_1+(((zX l0 x6_1).f2).length:Int))),(wrap64 (x6_1+1)),rfl,rfl,rfl,H',⟨by have:=HK1.out;omega⟩,by repeat(first|exact Drawn0.refl _|apply Drawn0.step)⟩
   ·rw[if_neg c2]at H;have c2b0:decide (x6_1<(l0.length:Int))=false:=Qn c2;clear c2;simp only[Option.some.injEq,Prod.mk.injEq]at H;obtain⟨rfl,rfl⟩:=H;go_wp2;go_ret2;exact⟨rfl,by repeat(first|exact Drawn0.refl _|apply Drawn0.step)⟩
theorem cut_V{w:World}{base:Nat}{ok:Nat->Prop}{l:List Int}{A:Option Addr}{c:Nat}(h:Kd.V (Kd.int .u8) 5 w base ok (.slice A l.length c) l){lo hi:Nat}(h1:lo<=hi)(h2:hi<=l.length) :
 ∃ (A':Option Addr) (c':Nat),(∀ W:World,(Instr.slice 22 (.slice A l.length c) (some (.int .i64 (lo:Int))) (some (.int .i64 (hi:Int))) none).run Tryz.prog W=.ok (.slice A' ((l.take hi).drop lo).length c') W)/\Kd.V (Kd.int .u8) 5 w base ok (.slice A' ((l.take hi).drop lo).length c') ((l.take hi).drop lo):=by
 obtain⟨i0,hi0,_,hsz,_⟩:=info_parts info5;have hroom:l.length<=c:=(Kd.V_reads' h).2.1;have hF:Kd.F (Kd.int .u8) _ _ A l.length l:=(Kd.V_at (base:=base) h).2.2;have hcut:=cut_mid (P:=Tryz.prog) 22 5 .i64 .i64 Tryz.underlying22 hi0 1 hsz A l.length c (lo:Int) (hi:Int) (by omega) (by omega) (by omega) hroom;have hr:=Kd.F_mid (lo:=lo) (hi:=hi) (c:=c) hF h1 h2 hroom;have hlen:((l.take hi).drop lo).length=hi-lo:=by rw[List.length_drop,List.length_take];omega
 refine⟨_,c-lo,fun W=>?_,Kd.V_mk (by rw[hlen];omega) hr⟩;rw[hcut W,hlen];rfl
def qk.f(k:Nat)(a0:Int)(l1:List Int)(a2:Int):Option (List Int×Int) :=
 (zk.f k l1 a2 1048576).bind fun q=>(zm.f l1 q.2 58).bind fun s=>if s=true then(if 0<=q.2/\q.2<(l1.length:Int)/\0<=q.1/\q.1<=1048576/\l1.length<1099511627776 then(if (l1.length:Int)-q.2-1<q.1 then some ([],-1)else(zm.f l1 (q.2+1+q.1) 10).bind fun s2=>if s2=true then(zP.f k a0 ((l1.take (q.2+1+q.1).toNat).drop (q.2+1).toNat)).bind fun s3=>if s3=true then some ((l1.take (q.2+1+q.1).toNat).drop (q.2+1).toNat,q.2+1+q.1+1)else some ([],-1)else some ([],-1))else none)else some ([],-1)
theorem qk.calls(k:Nat)(a0:Int)(P1_:Nat->Prop)(A1:Option Addr)(c1:Nat)(l1:List Int)(a2:Int)(r1:List Int)(r2:Int)(w:World)(hs1:Kd.V (Kd.int .u8) 5 w w.heap.size (fun k_=>P1_ k_) (.slice A1 l1.length c1) l1)(h:qk.f k a0 l1 a2=some (r1,r2)) :
 Calls Tryz.prog 50 #[.int .i64 a0,.slice A1 l1.length c1,.int .i64 a2] w fun e w'=>∃ v0_:Value,e=.returned (.tuple #[v0_,.int .i64 r2])/\Kd.V (Kd.int .u8) 5 w' w.heap.size (fun k_=>(P1_ k_\/w.heap.size<=k_)) v0_ r1/\Below w.heap.size w w':=by
 have HR:=Qk (Kd.V_reads' hs1).2.2;have HC:=Qk (Kd.V_reads' hs1).2.1;have HV:=Qk hs1;clear hs1;unfold qk.f at h;rw[Option.bind_eq_some_iff]at h;obtain⟨⟨n,i⟩,h1,h⟩:=h;rw[Option.bind_eq_some_iff]at h;obtain⟨s,h2,h⟩:=h;dsimp only at h h2;have A1_:=Qk (fun W hr=>zk.calls k A1 c1 l1 a2 1048576 n i W hr HC.out h1);have A2_:=Qk (fun W hr=>zm.calls A1 c1 l1 i 58 s W hr HC.out h2);clear h1 h2
 cases s with
 |false =>
  rw[if_neg (by decide)]at h;simp only[Option.some.injEq,Prod.mk.injEq]at h;obtain⟨rfl,rfl⟩:=h;go_enter Tryz.func50,Tryz.ntmps50;go_wp2_with (first
   |(go_at_call 91;((with_reducible refine(A1_.out _ HR.out).mono ?_);rintro e w1 ⟨rfl,⟨m1,rfl⟩⟩))
   |(go_at_call 48;((with_reducible refine(A2_.out _ (Kd.C_drewN HR.out _)).mono ?_);rintro e w2 ⟨rfl,⟨m2,rfl⟩⟩)))
  go_ret2;exact⟨_,rfl,Kd.V_nil _ _ _ _ _,zb (Below.refl _ _) _⟩
 |true =>
  rw[if_pos rfl]at h;by_cases hc:0<=i/\i<(l1.length:Int)/\0<=n/\n<=1048576/\l1.length<1099511627776
  ·rw[if_pos hc]at h
   obtain⟨p0,p1,p2,p3,p4⟩:=hc;have hw1:IntKind.i64.wrap ((l1.length:Int)-i)=(l1.length:Int)-i:=by rw[zp];unfold wrap64;omega
   have hw2:IntKind.i64.wrap ((l1.length:Int)-i-1)=(l1.length:Int)-i-1:=by rw[zp];unfold wrap64;omega
   by_cases hn:(l1.length:Int)-i-1<n
   ·rw[if_pos hn]at h
    simp only[Option.some.injEq,Prod.mk.injEq]at h;obtain⟨rfl,rfl⟩:=h;have d1:decide ((l1.length:Int)-i-1<n)=true:=Qm hn;clear hn;go_enter Tryz.func50,Tryz.ntmps50;go_wp2_with (first
     |(go_at_call 91;((with_reducible refine(A1_.out _ HR.out).mono ?_);rintro e w1 ⟨rfl,⟨m1,rfl⟩⟩))
     |(go_at_call 48;((with_reducible refine(A2_.out _ (Kd.C_drewN HR.out _)).mono ?_);rintro e w2 ⟨rfl,⟨m2,rfl⟩⟩)))
    go_ret2;exact⟨_,rfl,Kd.V_nil _ _ _ _ _,zb (Below.refl _ _) _⟩
   ·rw[if_neg hn,Option.bind_eq_some_iff]at h
    obtain⟨s2,h3,h⟩:=h;have d1:decide ((l1.length:Int)-i-1<n)=false:=Qn hn;obtain⟨ii,rfl⟩:=Int.eq_ofNat_of_zero_le p0;obtain⟨nn,rfl⟩:=Int.eq_ofNat_of_zero_le p2;have hw3:IntKind.i64.wrap ((ii:Int)+1)=(ii:Int)+1:=by rw[zp];unfold wrap64;omega
    have hw4:IntKind.i64.wrap ((ii:Int)+1+(nn:Int))=(ii:Int)+1+(nn:Int):=by rw[zp];unfold wrap64;omega
    have hw5:IntKind.i64.wrap ((ii:Int)+1+(nn:Int)+1)=(ii:Int)+1+(nn:Int)+1:=by rw[zp];unfold wrap64;omega
    have A3_:=Qk (fun W hr=>zm.calls A1 c1 l1 ((ii:Int)+1+(nn:Int)) 10 s2 W hr HC.out h3);clear h3
    cases s2 with
    |false =>
     rw[if_neg (by decide)]at h;simp only[Option.some.injEq,Prod.mk.injEq]at h;obtain⟨rfl,rfl⟩:=h;clear hn;go_enter Tryz.func50,Tryz.ntmps50;go_upto_region 5 with(first
      |(go_at_call 91;((with_reducible refine(A1_.out _ HR.out).mono ?_);rintro e w1 ⟨rfl,⟨m1,rfl⟩⟩))
      |(go_at_call 48;((with_reducible refine(A2_.out _ (Kd.C_drewN HR.out _)).mono ?_);rintro e w2 ⟨rfl,⟨m2,rfl⟩⟩)))
     go_wp2_with (first
      |(go_at_call 48;((with_reducible refine(A3_.out _ (Kd.C_drewN HR.out _)).mono ?_);rintro e w2 ⟨rfl,⟨m3,rfl⟩⟩)))
     go_ret2;exact⟨_,rfl,Kd.V_nil _ _ _ _ _,zb (Below.refl _ _) _⟩
    |true =>
     rw[if_pos rfl,Option.bind_eq_some_iff]at h;obtain⟨s3,h4,h⟩:=h;rw[show ((ii:Int)+1+(nn:Int)).toNat=ii+1+nn by omega,show ((ii:Int)+1).toNat=ii+1 by omega]at h h4
     obtain⟨A',c',hcut,hV⟩:=cut_V HV.out (lo:=ii+1) (hi:=ii+1+nn) (by omega) (by omega);rw[show ((ii+1:Nat):Int)=(ii:Int)+1 by omega,show ((ii+1+nn:Nat):Int)=(ii:Int)+1+(nn:Int) by omega]at hcut
     generalize (l1.take (ii+1+nn)).drop (ii+1)=t at hcut hV h h4;have HVT:=Qk hV;have A4_:=Qk (fun W hr=>zP.calls k a0 A' c' t s3 W hr (Kd.V_reads' HVT.out).2.1 h4);have HRT:=Qk (Kd.V_reads' HVT.out).2.2;clear h4 hV hn
     cases s3 with
     |false =>
      rw[if_neg (by decide)]at h;simp only[Option.some.injEq,Prod.mk.injEq]at h;obtain⟨rfl,rfl⟩:=h;go_enter Tryz.func50,Tryz.ntmps50;go_upto_region 5 with(first
       |(go_at_call 91;((with_reducible refine(A1_.out _ HR.out).mono ?_);rintro e w1 ⟨rfl,⟨m1,rfl⟩⟩))
       |(go_at_call 48;((with_reducible refine(A2_.out _ (Kd.C_drewN HR.out _)).mono ?_);rintro e w2 ⟨rfl,⟨m2,rfl⟩⟩)))
      go_wp2_with (first
       |(go_at_call 48;((with_reducible refine(A3_.out _ (Kd.C_drewN HR.out _)).mono ?_);rintro e w2 ⟨rfl,⟨m3,rfl⟩⟩))
       |(go_at_call 92;((with_reducible refine(A4_.out _ (Kd.C_drewN HRT.out _)).mono ?_);rintro e w2 ⟨rfl,⟨m4,rfl⟩⟩)))
      go_ret2;exact⟨_,rfl,Kd.V_nil _ _ _ _ _,zb (Below.refl _ _) _⟩
     |true =>
      rw[if_pos rfl]at h;simp only[Option.some.injEq,Prod.mk.injEq]at h;obtain⟨rfl,rfl⟩:=h;go_enter Tryz.func50,Tryz.ntmps50;go_upto_region 5 with(first
       |(go_at_call 91;((with_reducible refine(A1_.out _ HR.out).mono ?_);rintro e w1 ⟨rfl,⟨m1,rfl⟩⟩))
       |(go_at_call 48;((with_reducible refine(A2_.out _ (Kd.C_drewN HR.out _)).mono ?_);rintro e w2 ⟨rfl,⟨m2,rfl⟩⟩)))
      go_wp2_with (first
       |(go_at_call 48;((with_reducible refine(A3_.out _ (Kd.C_drewN HR.out _)).mono ?_);rintro e w2 ⟨rfl,⟨m3,rfl⟩⟩))
       |(go_at_call 92;((with_reducible refine(A4_.out _ (Kd.C_drewN HRT.out _)).mono ?_);rintro e w2 ⟨rfl,⟨m4,rfl⟩⟩)))
      go_ret2;exact⟨_,rfl,Kd.V_mono (Kd.V_drewN HVT.out _) (fun _ hk=>.inl hk),zb (Below.refl _ _) _⟩
  ·rw[if_neg hc]at h;cases h
end Go.Proofs.YtdiojfaenfggkaaGreat.PTopNear
