/- Functions of the given program, each a Lean function and the walk that shows it. -/
import Derived.Test.YtdiojfaenfggkaaGreatNTopFewestB
import Derived.Lib.Bytealg
import Derived.Outline
import Derived.Deep.RegionHeld3
import Derived.Deep.DeepCutAuto
import Derived.Deep.QuietTactic
import Derived.BigQuiet
import Derived.IntWalk
import Derived.Lib.SlBytesConst
import Derived.WalkSpells
import Derived.Shelf.SlSortCmp.NoneTotal
import Derived.Shelf.SlCmpFuncs.BinarySearchFunc
import Derived.Shelf.Spec.BitsCarry
import Derived.Laws.Bits64b
import Derived.Lib.Tables
import Derived.Maps.OwnOps
import Derived.Maps.OwnSet
import Derived.Maps.Views
set_option maxHeartbeats 8000000
set_option maxRecDepth 100000
namespace Go.Proofs.YtdiojfaenfggkaaGreat.PTopNear
open Go.RowKit Go.Proofs.YtdiojfaenfggkaaGreatW.PrintWords Go.Proofs.YtdiojfaenfggkaaGreatW.PrintLast Go.Proofs.YtdiojfaenfggkaaGreatW.PrintMore
attribute [local go_sem] qW qU Zg Zf qK qJ qV qT
set_option linter.unusedVariables false
set_option linter.unusedSimpArgs false
theorem run_bytesOfK{P:Program}{w:World}{A:Option Addr}{c:Nat}{xs:List Int}(h:Kd.C (Kd.int .u8) w A xs.length xs):(Extern.Bytes.bytesOf (.slice A xs.length c)).run P w=.ok ⟨(Lib.bytesOf xs).toArray⟩ w:=by
 have hr:=Kd.reads_of_C (d:=(0:Int)) h
 cases A with
 |none =>
  have h0:xs=[]:=by
   rcases Nat.eq_zero_or_pos xs.length with h0|h0
   ·exact List.eq_nil_of_length_eq_zero h0
   ·obtain⟨ad,e,_⟩:=hr.2.2 h0
    cases e
  subst h0;rfl
 |some a =>
  have hc:∀ i,i<xs.length->w.cell? (a.add i)=some (.int .u8 (xs.getD i 0)):=fun i hi=>by
   obtain⟨ad,e,hc⟩:=hr.2.2 (by omega);obtain rfl:=Qp e;exact hc i hi
  have hl:=Lib.run_loadBytesX (P:=P) w xs a .empty (fun j x hj=>by
   have hjl:j<xs.length:=(List.getElem?_eq_some_iff.1 hj).1;rw[hc j (by omega),List.getD_eq_getElem?_getD,hj];rfl)
  have he:(⟨ByteArray.empty.data++(Lib.bytesOf xs).toArray⟩:ByteArray)=⟨(Lib.bytesOf xs).toArray⟩:=by
   apply ByteArray.ext
   show (#[]:Array UInt8)++(Lib.bytesOf xs).toArray=(Lib.bytesOf xs).toArray
   simp
  rw[he]at hl;exact hl
def Zt(x y:List Int):Int:=Lib.compareBytes (Lib.bytesOf x) (Lib.bytesOf y)
theorem run_compareK{P:Program}{w:World}{A0 A1:Option Addr}{c0 c1:Nat}{x y:List Int}(hx:Kd.C (Kd.int .u8) w A0 x.length x)(hy:Kd.C (Kd.int .u8) w A1 y.length y) :
 (Extern.BytealgCompare.compare #[.slice A0 x.length c0,.slice A1 y.length c1]).run P w=.ok (.int .i64 (Zt x y)) w:=by
 show Sem.run P (do pure (goInt (Extern.BytealgCompare.cmp (← Extern.Bytes.bytesOf (.slice A0 x.length c0)) (← Extern.Bytes.bytesOf (.slice A1 y.length c1))))) w=_
 rw[Sem.run_bind,run_bytesOfK hx];simp only[Result.andThen];rw[Sem.run_bind,run_bytesOfK hy];simp only[Result.andThen];rw[Lib.cmp_eq];rfl
theorem bytes_Compare.calls(A0 A1:Option Addr)(c0 c1:Nat)(x y:List Int)(w:World)(hx:Kd.C (Kd.int .u8) w A0 x.length x)(hy:Kd.C (Kd.int .u8) w A1 y.length y) :
 Calls Tryz.prog 173 #[.slice A0 x.length c0,.slice A1 y.length c1] w fun e w'=>e=.returned (.int .i64 (Zt x y))/\w'=w:=by
 have hrun:=run_compareK (P:=Tryz.prog) (c0:=c0) (c1:=c1) hx hy;clear hx hy;go_enter Tryz.func173,Tryz.ntmps173;go_wp2;rw[run_callFunc_extern Tryz.func203 (by kernel_rfl) (by kernel_rfl) (by kernel_rfl) (e:=Extern.BytealgCompare.compare) (by kernel_rfl),hrun];simp only[Result.andThen];rw[Oper.upon_value];go_wp2;go_ret;exact⟨rfl,rfl⟩
theorem inf22_:(Tryz.prog.info? 22).map (fun i=>(i.zero,i.size,i.bytes))=some (some (.slice none 0 0),1,24):=by kernel_rfl
def Vals(w:World)(vs:List Value)(l:List (List Int)):Prop:=vs.length=l.length/\∀ (i:Nat) (t:List Int),l[i]?=some t->∃ A c,vs[i]?=some (.slice A t.length c)/\t.length<=c/\Kd.C (Kd.int .u8) w A t.length t
theorem Vals.below{w W:World}(hb:Below w.heap.size w W){vs:List Value}{l:List (List Int)}(h:Vals w vs l):Vals W vs l :=
 ⟨h.1,fun i t hi=>by obtain⟨A,c,h1,h2,h3⟩:=h.2 i t hi;exact⟨A,c,h1,h2,Kd.C_below h3 hb⟩⟩
theorem Vals.append{w:World}{vs us:List Value}{l m:List (List Int)}(h:Vals w vs l)(h':Vals w us m):Vals w (vs++us) (l++m):=by
 refine⟨by rw[List.length_append,List.length_append,h.1,h'.1],fun i t hi=>?_⟩;by_cases hlt:i<l.length
 ·rw[List.getElem?_append_left hlt]at hi
  rw[List.getElem?_append_left (by rw[h.1];exact hlt)];exact h.2 i t hi
 ·rw[List.getElem?_append_right (by omega)]at hi
  rw[List.getElem?_append_right (by rw[h.1];omega),h.1];exact h'.2 _ t hi
theorem Vals.slice{w:World}{vs:List Value}{l:List (List Int)}(h:Vals w vs l):∀ u,u∈vs->∃ A n c,u=.slice A n c:=by
 intro u hu;obtain⟨i,hi,rfl⟩:=List.getElem_of_mem hu;obtain⟨A,c,h1,_,_⟩:=h.2 i _ (List.getElem?_eq_getElem (by rw[← h.1];exact hi));rw[List.getElem?_eq_getElem hi]at h1;exact⟨A,_,c,Qp h1⟩
def CellsAt(w:World)(A:Option Addr)(vs:List Value):Prop:=∀ (i:Nat) (u:Value),vs[i]?=some u->∃ ad,A=some ad/\w.cell? (ad.add i)=some u
theorem CellsAt.below{w W:World}(hb:Below w.heap.size w W){A:Option Addr}{vs:List Value}(h:CellsAt w A vs):CellsAt W A vs:=fun i u hi=>by
 obtain⟨ad,e,hc⟩:=h i u hi;exact⟨ad,e,zF hb hc⟩
theorem vals_of_C{e:Nat}{w:World}{A:Option Addr}{n:Nat}{l:List (List Int)}(h:Kd.C (Kd.slice e (Kd.int .u8)) w A n l):n=l.length/\n<=9223372036854775807/\∃ vs,Vals w vs l/\CellsAt w A vs:=by
 have hn:=Kd.C_len h;subst hn;refine⟨rfl,Kd.C_max h,?_⟩;have hat:∀ i:Nat,∃ u:Value,∀ hi:i<l.length,∃ ad A0 c0,A=some ad/\w.cell? (ad.add i)=some u/\u=.slice A0 l[i].length c0/\l[i].length<=c0/\Kd.C (Kd.int .u8) w A0 l[i].length l[i]:=by
  intro i;by_cases hi:i<l.length
  ·obtain⟨ad,A0,c0,e1,e2,e3,e4⟩:=at_L1 h (i:Int) (by omega) (by omega)
   have hr:qX l (i:Int)=l[i]:=by
    unfold qX;rw[Int.toNat_natCast,List.getD_eq_getElem?_getD,List.getElem?_eq_getElem hi];rfl
   rw[hr]at e2 e3 e4;exact⟨_,fun _=>⟨ad,A0,c0,e1,e2,rfl,e3,e4⟩⟩
  ·exact⟨.bool true,fun hi'=>absurd hi' hi⟩
 obtain⟨f,hf⟩:=Classical.axiomOfChoice hat
 refine⟨(List.range l.length).map f,⟨by simp,fun i t hi=>?_⟩,fun i u hi=>?_⟩
 ·obtain⟨hl,ht⟩:=List.getElem?_eq_some_iff.1 hi
  obtain⟨ad,A0,c0,e1,e2,e3,e4,e5⟩:=hf i hl;subst ht;exact⟨A0,c0,by simp[hl,e3],e4,e5⟩
 ·have hl:i<l.length:=by have:=(List.getElem?_eq_some_iff.1 hi).1;simpa using this
  obtain⟨ad,A0,c0,e1,e2,e3,e4,e5⟩:=hf i hl;have:u=f i:=by simp[hl]at hi;exact hi.symm
  rw[this];exact⟨ad,e1,e2⟩
theorem clone_toks(A:Option Addr)(c:Nat)(vs:List Value)(w:World)(hv:∀ u,u∈vs->∃ A n c,u=.slice A n c)(hc:CellsAt w A vs)(hl:vs.length*24<=140737488355328) :
 Calls Tryz.prog 171 #[.slice A vs.length c] w fun e w'=>∃ v,e=.returned v/\w'.ownsRow w.heap.size 22 1 v vs.length vs/\Below w.heap.size w w':=by
 have q60:∀ (w:World) (a:Option Addr) (n c n' c':Nat),(binOp .eql 60 (.slice a n c) (.slice none n' c')).run Tryz.prog w=.ok (.bool a.isNone) w:=fun w a n c n' c'=>Lib.run_eql_slice_nil w _ _ a n c n' c' Tryz.underlying60
 cases A with
 |none =>
  have h0:vs=[]:=by
   cases vs with
   |nil=>rfl
   |cons u t=>obtain⟨ad,e,_⟩:=hc 0 u rfl;cases e
  subst h0;go_enter Tryz.func171,Tryz.ntmps171;go_wp2;go_ret;exact⟨_,rfl,own_nil _ _ _ _,Below.refl _ _⟩
 |some a =>
  have HC:=Qk (show ∀ (i:Nat) (u:Value),vs[i]?=some u->w.cell? (a.add i)=some u from fun i u hi=>by obtain⟨ad,e,h⟩:=hc i u hi;obtain rfl:=Qp e;exact h);have HV:=Qk hv;clear hc hv;have u22:∀ w,Sem.run Tryz.prog (underlying 60) w=.ok (TypeDesc.slice 22) w:=run_underlying Tryz.underlying60
  obtain⟨i0,hi,hz0,hz1,hz2⟩:=info_parts inf22_;have z5:∀ w,Sem.run Tryz.prog (Go.sizeOf 22) w=.ok 1 w:=fun w=>by simp[Go.sizeOf,typeInfo,hi,hz1]
  go_enter Tryz.func171,Tryz.ntmps171;go_wp2_with (at_builtin;refine wpList_append_own _ rfl _ _ 60 rfl w.heap.size 22 i0 (.slice none 0 0) 1 24 Tryz.underlying60 hi hz0 hz1 hz2 rfl (by decide) _ _ _ rfl (World.ownsRow_made w #[] 0 (Nat.le_refl _) (Nat.zero_le _) rfl) a vs.length c vs rfl ?qc1 ?qc2 ?qc3 ?qc4 ?qc5 ?qc6 ?_)
  case qc1=>simp
  case qc2 =>
   intro j u hj;exact Lib.cell?_alloc_some _ (HC.out j u hj)
  case qc3=>intro u hu;obtain⟨A,n,c,rfl⟩:=HV.out u hu;rfl
  case qc4=>unfold maxLen;omega
  case qc5=>omega
  case qc6=>simp
  intro v' w1 hown hgrow hnil;go_wp2;go_ret;refine⟨v',rfl,by simpa using hown,?_⟩;exact((Below.refl _ w).alloc (Nat.le_refl _) _).grown hgrow (by simp) (by intro k hk;simp[Value.ownBlock]at hk;omega)
theorem zeros_event{P:Program}{ops:Array Oper}{rest:List Oper}{o:Oper}{a:Act}{Q:Exit->Act->World->Prop}{W w1:World}(hgd:o.guard=none)(s x:Operand)(t ti:TypeId)(ho:o.op=.call { callee:=.builtin .append,args:=#[s,x],argTypes:=#[t,ti] })
 {v v' u:Value} (hs:a.eval s=v) (hx:a.eval x=u) (hr:(Builtin.append_ #[t,ti] o.type #[v,u]).run P W=.ok v' w1) (h:wpList P ops Q rest (a.put o.dst v') w1):wpList P ops Q (o::rest) a W:=by
 refine wpList_plain hgd fun K hK=>?_
 unfold Oper.wp execOp;simp only[ho,resolve,invoke,builtin,Sem.run_bind,Sem.run_pure,Result.andThen_ok,List.map_toArray,List.map_cons,List.map_nil,hs,hx,hr];exact hK _ _ h
theorem grow_toks(n:Nat)(w:World)(hn:n*24<=140737488355328) :
 Calls Tryz.prog 175 #[.slice none 0 0,.int .i64 n] w fun e w'=>∃ v,e=.returned v/\w'.ownsRow w.heap.size 22 1 v 0 []/\Below w.heap.size w w':=by
 obtain⟨i0,hi,hz0,hz1,hz2⟩:=info_parts inf22_;obtain⟨v',w1,hr,hown,hg,hat⟩:=run_append_zeros (P:=Tryz.prog) w w.heap.size 60 3 60 22 i0 (.slice none 0 0) 1 24 Tryz.underlying60 Tryz.underlying3 hi hz0 hz1 hz2 rfl (by decide) (by decide) (.slice none 0 0) 0 [] (own_nil _ _ _ _) .i64 n (by
  intro u hu;simp[Builtin.zeroCells]at hu;obtain⟨q,_,rfl⟩:=hu;rw[show (Value.slice none 0 0).cells=#[.slice none 0 0]from rfl,show q % (#[Value.slice none 0 0]:Array Value).size=0 from Nat.mod_one q]
  rfl) (by omega) (Nat.le_refl _)
 rw[Nat.zero_add,List.nil_append]at hown;have HR:=Qk hr;have HO:=Qk hown;have HG:=Qk hg;clear hr hown hg hat hi hz0 hz1 hz2;by_cases h0:n=0
 ·subst h0
  go_enter Tryz.func175,Tryz.ntmps175;go_wp2;go_ret;exact⟨_,rfl,own_nil _ _ _ _,Below.refl _ _⟩
 ·have hp:decide (0<(n:Int))=true:=Qm (by omega)
  obtain⟨A,c,rfl⟩:=ZU HO.out;go_enter Tryz.func175,Tryz.ntmps175;go_wp2_with (first|(((with_reducible refine zO (b:=.append) (xs:=#[.tmp 20,.tmp 21]) rfl ?_);refine zeros_event rfl (.tmp 20) (.tmp 21) 60 3 rfl rfl rfl HR.out ?_)))
  go_ret;exact⟨_,rfl,own_take (m:=0) HO.out (Nat.zero_le _),(Below.refl _ w).grown HG.out (Nat.le_refl _) (fun k hk=>by simp[Value.ownBlock]at hk)⟩
theorem append_vals{P:Program}{ops:Array Oper}{rest:List Oper}{o:Oper}{a:Act}{Q:Exit->Act->World->Prop}{w:World}(hgd:o.guard=none)(s x:Operand)(t:TypeId)
 (ho:o.op=.call { callee:=.builtin .append,args:=#[s,x],argTypes:=#[t,t] }) (base e bytes:Nat) (z:Value) (ht:P.underlying t=some (.slice e)) (hinfo:(P.info? e).map (fun i=>(i.zero,i.size,i.bytes))=some (some z,1,bytes)) (hzs:z.cells.size=1)
 (v:Value) (xs:List Value) (hs:a.eval s=v) (hown:w.ownsRow base e 1 v xs.length xs) (A:Option Addr) (c:Nat) (news:List Value) (hx:a.eval x=.slice A news.length c) (hc:CellsAt w A news) (h1:∀ u∈news,u.oneCell'=true)
 (hb0:0<bytes) (hbytes:(xs.length+news.length)*bytes<=140737488355328) (hbase:base<=w.heap.size)
 (h:∀ v' w',w'.ownsRow base e 1 v' (xs++news).length (xs++news)->w.grownBy w' v.ownBlock->wpList P ops Q rest (a.put o.dst v') w'):wpList P ops Q (o::rest) a w:=by
 obtain⟨i,hi,hz0,hz1,hz2⟩:=info_parts hinfo;have hm:xs.length+news.length<=140737488355328:=Nat.le_trans (Nat.le_mul_of_pos_right _ hb0) hbytes
 cases A with
 |none =>
  have h0:news=[]:=by
   cases news with
   |nil=>rfl
   |cons u r=>obtain⟨ad,e,_⟩:=hc 0 u rfl;cases e
  subst h0;have hr:(Builtin.append_ #[t,t] o.type #[v,.slice none 0 c]).run P w=.ok v w:=by
   rcases hown.2 with⟨rfl,_⟩|⟨g,cap,cur,rfl,_,_,hnc,_⟩
   ·simp[Builtin.append_,run_underlying ht,Go.sizeOf,typeInfo,hi,Builtin.lenOf,Builtin.firstCells]
   ·simp[Builtin.append_,run_underlying ht,Go.sizeOf,typeInfo,hi,Builtin.lenOf,Builtin.firstCells,hnc,storeCells]
  exact zeros_event hgd s x t t ho hs hx hr (h v w (by rw[List.append_nil];exact hown) (World.grownBy.refl w _))
 |some ad =>
  obtain⟨v',w',hr,h2,h3,_,_⟩:=run_append_own_at (P:=P) w base t o.type e i z 1 bytes ht hi hz0 hz1 hz2 hzs (by decide) v xs.length xs hown ad news.length c news (by simp) (fun j u hj=>by
   obtain⟨ad',e',h'⟩:=hc j u hj;obtain rfl:=Qp e';exact h') h1 (by unfold maxLen;omega) hbytes hbase
  exact zeros_event hgd s x t t ho hs hx hr (h v' w' (by rw[List.length_append];exact h2) h3)
theorem grow_int(m:Int)(w:World)(h0:0<=m)(hn:m*24<=140737488355328):Calls Tryz.prog 175 #[.slice none 0 0,.int .i64 m] w fun e w'=>∃ v,e=.returned v/\w'.ownsRow w.heap.size 22 1 v 0 []/\Below w.heap.size w w':=by
 obtain⟨n,rfl⟩:=Int.eq_ofNat_of_zero_le h0;exact grow_toks n w (by omega)
theorem concat_toks(g:Nat)(A0 A1:Option Addr)(c0 c1:Nat)(v0 v1:List Value)(w:World)(hg:w.heap[g]?=some (.cells #[.slice A0 v0.length c0,.slice A1 v1.length c1] 60 (0,0)))
 (h0:CellsAt w A0 v0) (h1:CellsAt w A1 v1) (hv0:∀ u,u∈v0->∃ A n c,u=.slice A n c) (hv1:∀ u,u∈v1->∃ A n c,u=.slice A n c) (hl0:v0.length<=1000000) (hl1:v1.length<=1000000) :
 Calls Tryz.prog 135 #[.slice (some ⟨g,0,none⟩) 2 2] w fun e w'=>∃ v,e=.returned v/\w'.ownsRow w.heap.size 22 1 v (v0++v1).length (v0++v1)/\Below w.heap.size w w':=by
 have hz0:w.cell? ⟨g,0,none⟩=some (.slice A0 v0.length c0):=(zf hg 0).trans rfl;have hz1:w.cell? ⟨g,1,none⟩=some (.slice A1 v1.length c1):=(zf hg 1).trans rfl;have HG:=Qk hg;have H0:=Qk h0;have H1:=Qk h1;have HV0:=Qk hv0;have HV1:=Qk hv1;clear hg h0 h1 hv0 hv1;go_enter Tryz.func135,Tryz.ntmps135;go_wp2_with fail
 go_loop [11,3] (fun v11 v3=>(v11=.int .i64 0/\v3=.int .i64 0)\/(v11=.int .i64 1/\v3=.int .i64 v0.length)\/(v11=.int .i64 2/\v3=.int .i64 ((v0.length:Int)+v1.length))) (fun v11 _=>2-(intOf v11).toNat)
 case atStart=>exact .inl ⟨rfl,rfl⟩
 case round =>
  rcases hrel with⟨rfl,rfl⟩|⟨rfl,rfl⟩|⟨rfl,rfl⟩
  ·go_wp2_with fail
   go_round
   case rel=>exact .inr (.inl ⟨rfl,by first|rfl|go_num⟩)
   case measure=>simp[intOf]
  ·have hneg:decide ((v0.length:Int)+(v1.length:Int)<0)=false:=Qn (by omega)
   go_wp2_with fail
   go_round
   case rel=>exact .inr (.inr ⟨rfl,rfl⟩)
   case measure=>simp[intOf]
  ·have hB:=Qk (Below.refl w.heap.size w)
   go_wp2_with (first
    |(go_at_call 175;((with_reducible refine(grow_int ((v0.length:Int)+v1.length) _ (by omega) (by omega)).mono ?_);rintro e w2 ⟨v2,rfl,ho,hb⟩;have HO:=Qk ho;have HB:=Qk hb;have n0_:=Qk (zy HG.out hb);have n1_:=Qk (CellsAt.below hb H0.out);have n2_:=Qk (CellsAt.below hb H1.out);clear ho hb)))
   clear n0_ n1_ n2_ hB;go_loopw [27,6] (fun v27 v6 wr=>Aside0 (Below w.heap.size w wr)/\((v27=.int .i64 0/\Aside0 (wr.ownsRow w.heap.size 22 1 v6 ([]:List Value).length []))\/(v27=.int .i64 1/\Aside0 (wr.ownsRow w.heap.size 22 1 v6 v0.length v0))\/(v27=.int .i64 2/\Aside0 (wr.ownsRow w.heap.size 22 1 v6 (v0++v1).length (v0++v1))))) (fun v27 _ _=>2-(intOf v27).toNat)
   case atStart=>exact⟨HB,.inl ⟨rfl,HO⟩⟩
   case round =>
    clear HB HO hz0 hz1;obtain⟨HB,⟨rfl,HO⟩|⟨rfl,HO⟩|⟨rfl,HO⟩⟩:=hrel
    ·have hz0:wr.cell? ⟨g,0,none⟩=some (.slice A0 v0.length c0):=(zf (zy HG.out HB.out) 0).trans rfl
     go_wp2_with (first|((with_reducible refine zO (b:=.append) (xs:=#[.tmp 31,.tmp 32]) rfl ?_);refine append_vals rfl (.tmp 31) (.tmp 32) 60 rfl w.heap.size 22 24 (.slice none 0 0) Tryz.underlying60 inf22_ rfl u6 [] rfl HO.out A0 c0 v0 rfl (CellsAt.below HB.out H0.out) (fun u hu=>by obtain⟨_,_,_,rfl⟩:=HV0.out u hu;rfl) (by decide) (by first|omega|(simp;omega)) HB.out.size ?_;intro v3 w3 ho hg;have n0_:=Qk (HB.out.grown hg HB.out.size (ZL HO.out));clear HB HO;have HB:=n0_;have HO:=Qk ho;clear n0_ ho hg))
     go_roundw
     case rel=>exact⟨HB,.inr (.inl ⟨rfl,HO⟩)⟩
     case measure=>simp[intOf]
    ·have hz1:wr.cell? ⟨g,1,none⟩=some (.slice A1 v1.length c1):=(zf (zy HG.out HB.out) 1).trans rfl
     go_wp2_with (first|((with_reducible refine zO (b:=.append) (xs:=#[.tmp 31,.tmp 32]) rfl ?_);refine append_vals rfl (.tmp 31) (.tmp 32) 60 rfl w.heap.size 22 24 (.slice none 0 0) Tryz.underlying60 inf22_ rfl u6 v0 rfl HO.out A1 c1 v1 rfl (CellsAt.below HB.out H1.out) (fun u hu=>by obtain⟨_,_,_,rfl⟩:=HV1.out u hu;rfl) (by decide) (by first|omega|(simp;omega)) HB.out.size ?_;intro v3 w3 ho hg;have n0_:=Qk (HB.out.grown hg HB.out.size (ZL HO.out));clear HB HO;have HB:=n0_;have HO:=Qk ho;clear n0_ ho hg))
     go_roundw
     case rel=>exact⟨HB,.inr (.inr ⟨rfl,HO⟩)⟩
     case measure=>simp[intOf]
    ·go_wp2
     go_ret;exact⟨_,rfl,HO.out,HB.out⟩
theorem cmpL_swap:∀ (a b:List UInt8),Lib.compareBytes a b = - Lib.compareBytes b a
 |[],[]=>rfl
 |[],_::_=>rfl
 |_::_,[]=>rfl
 |a::ar,b::br=>by
  unfold Lib.compareBytes;have h:=cmpL_swap ar br;by_cases h1:a<b
  ·have h2:¬ b<a:=by rw[UInt8.lt_iff_toNat_lt]at h1 ⊢;omega
   simp[h1,h2]
  ·by_cases h2:b<a
   ·simp[h1,h2]
   ·simp[h1,h2,h]
theorem cmpL_zero:∀ (a b:List UInt8),Lib.compareBytes a b=0↔a=b
 |[],[]=>by simp[Lib.compareBytes]
 |[],_::_=>by simp[Lib.compareBytes]
 |_::_,[]=>by simp[Lib.compareBytes]
 |a::ar,b::br=>by
  unfold Lib.compareBytes;have h:=cmpL_zero ar br;by_cases h1:a<b
  ·have h2:a≠b:=by intro e;subst e;rw[UInt8.lt_iff_toNat_lt]at h1;omega
   simp[h1,h2]
  ·by_cases h2:b<a
   ·have h3:a≠b:=by intro e;subst e;rw[UInt8.lt_iff_toNat_lt]at h2;omega
    simp[h1,h2,h3]
   ·have h3:a=b:=by rw[UInt8.lt_iff_toNat_lt]at h1 h2;exact UInt8.toNat_inj.mp (by omega)
    simp[h1,h2,h3,h]
theorem cmpL_trans:∀ (a b c:List UInt8),Lib.compareBytes a b<0->Lib.compareBytes b c<0->Lib.compareBytes a c<0
 |[],[],_,h,_=>by simp[Lib.compareBytes]at h
 |[],_::_,[],_,h=>by simp[Lib.compareBytes]at h
 |[],_::_,_::_,_,_=>by simp[Lib.compareBytes]
 |_::_,[],_,h,_=>by simp[Lib.compareBytes]at h
 |_::_,_::_,[],_,h=>by simp[Lib.compareBytes]at h
 |a::ar,b::br,c::cr,h1,h2=>by
  unfold Lib.compareBytes at h1 h2 ⊢;have ih:=cmpL_trans ar br cr;have t:=fun(x y:UInt8)=>UInt8.lt_iff_toNat_lt (a:=x) (b:=y)
  by_cases hab:a<b
  ·by_cases hbc:b<c
   ·have:a<c:=by rw[t]at *;omega
    simp[this]
   ·by_cases hcb:c<b
    ·simp[hbc,hcb]at h2
    ·have:a<c:=by rw[t]at *;omega
     simp[this]
  ·by_cases hba:b<a
   ·simp[hab,hba]at h1
   ·simp only[if_neg hab,if_neg hba]at h1
    have e:a=b:=UInt8.toNat_inj.mp (by rw[t]at *;omega);subst e;by_cases hbc:a<c
    ·simp[hbc]
    ·by_cases hcb:c<a
     ·simp[hbc,hcb]at h2
     ·simp only[if_neg hbc,if_neg hcb]at h2 ⊢
      exact ih h1 h2
theorem cmpT_swap(x y:List Int):Zt x y = - Zt y x:=cmpL_swap _ _
theorem q8(x y:List Int):Zt x y=0↔Lib.bytesOf x=Lib.bytesOf y:=cmpL_zero _ _
theorem cmpT_trans{x y z:List Int}(h:Zt x y<0)(h':Zt y z<0):Zt x z<0:=cmpL_trans _ _ _ h h'
theorem cmpT_ntrans{x y z:List Int}(h:¬ Zt x y<0)(h':¬ Zt y z<0):¬ Zt x z<0:=by
 intro h3;have e1:=cmpT_swap x y;have e2:=cmpT_swap y z;by_cases c:Zt y x<0
 ·exact h' (cmpT_trans c h3)
 ·have c0:Zt x y=0:=by omega
  have c1:Lib.bytesOf x=Lib.bytesOf y:=(q8 x y).1 c0;unfold Zt at h3 h';rw[c1]at h3;exact h' h3
theorem swo_tok{α:Type}(f:α->List Int):Go.Sort.SWO (ltOf fun x y:α=>Zt (f x) (f y)) where
 irrefl:=fun x=>by unfold ltOf;show decide (Zt (f x) (f x)<0)=false;rw[(q8 _ _).2 rfl];rfl
 trans:=fun x y z h1 h2=>by unfold ltOf at *;simp only[decide_eq_true_eq]at *;exact cmpT_trans h1 h2
 ntrans:=fun x y z h1 h2=>by unfold ltOf at *;simp only[decide_eq_false_iff_not]at *;exact cmpT_ntrans h1 h2
open Go.Sort in
theorem sorted_world{α:Type}[Inhabited α](enc:α->Value){w0 w:World}{g:Nat}(hB:Go.RowKit.Below w0.heap.size w0 w)(hg0:w0.heap.size<=g){cur:Array Value}(hg:w.heap[g]?=some (.cells cur 22 (0,0)))(n:Nat)(d:Array α)(os:Array Obj) :
 (sortWorld enc w g 0 n d os).heap[g]?=some (.cells (putCells enc 0 d cur) 22 (0,0))/\Go.RowKit.Below w0.heap.size w0 (sortWorld enc w g 0 n d os):=by
 have hlt:=Zh hg;have e1:∀ k,k<w.heap.size->(sortWorld enc w g 0 n d os).heap[k]?=(w.heap.modify g (onCells (putCells enc 0 d)))[k]?:=by
  intro k hk
  show ((w.heap.modify g (onCells (putCells enc 0 d)))++os)[k]?=_
  rw[Array.getElem?_append_left (by simpa using hk)]
 refine⟨?_,⟨hB.os,hB.tape,hB.output,?_,fun k hk=>?_⟩⟩
 ·rw[e1 g hlt,Array.getElem?_modify,if_pos rfl,hg];rfl
 ·have:=hB.size
  show w0.heap.size<=((w.heap.modify g (onCells (putCells enc 0 d)))++os).size
  simp;omega
 ·have:=hB.size
  rw[e1 k (by omega),Array.getElem?_modify,if_neg (by omega)];exact hB.block k hk
theorem vals_map{w:World}{vs:List Value}{l:List (List Int)}(h:Vals w vs l)(d:List (Fin l.length)):Vals w (d.map fun i=>vs.getD i.val (.bool true)) (d.map fun i=>l[i]):=by
 refine⟨by simp,fun k t hk=>?_⟩;rw[List.getElem?_map]at hk ⊢;obtain⟨i,hi,rfl⟩:=Option.map_eq_some_iff.1 hk;obtain⟨A,c,h1,h2,h3⟩:=h.2 i.val _ (List.getElem?_eq_getElem i.isLt);exact⟨A,c,by rw[hi];simp[List.getD_eq_getElem?_getD,h1],h2,h3⟩
theorem putCells_take{α:Type}[Inhabited α](enc:α->Value)(d:Array α)(c:Array Value)(h:d.size<=c.size):(Go.Sort.putCells enc 0 d c).toList.take d.size=d.toList.map enc:=by
 have hs:(Go.Sort.putCells enc 0 d c).size=c.size:=by unfold Go.Sort.putCells;simp
 refine List.ext_getElem (by simp[hs];omega) fun i h1 h2=>?_
 have hi:i<d.size:=by simp at h1;omega
 simp only[List.getElem_take,Array.getElem_toList,List.getElem_map];unfold Go.Sort.putCells;simp[hi]
theorem enters173:∀ args w,(callFunc 173 args).run Tryz.prog w=.ok (.enter 173 args) w:=enters_of Tryz.func173 (by kernel_rfl) rfl
open Go.Sort in
theorem sort_toks {w0 w : World} (hB : Go.RowKit.Below w0.heap.size w0 w) {l : List (List Int)} {vs : List Value} (hV : Vals w0 vs l) {v : Value} (hown : w.ownsRow w0.heap.size 22 1 v vs.length vs) (hl : l.length < 4611686018427387904) :
    Calls Tryz.prog 172 #[v, .func (.func 173) #[] #[]] w fun e w' => e = .returned (.tuple #[]) ∧ ∃ vs' l', l'.Perm l ∧ l'.Pairwise (fun x y => ¬ Zt y x < 0) ∧ Vals w0 vs' l' ∧ w'.ownsRow w0.heap.size 22 1 v vs'.length vs' ∧ Go.RowKit.Below w0.heap.size w0 w' := by
  have hlen := hV.1
  by_cases h0 : l.length = 0
  · have hv0 : vs.length = 0 := by omega
    obtain ⟨A, c, rfl⟩ := ZU hown
    rw [hv0]
    refine (AnyF.slices_SortFunc_none (P := Tryz.prog) (ρ := Tryz.sortTok_ren) { Tryz.sortTok with } A c (.func (.func 173) #[] #[]) w).mono fun e w' ⟨he, hw⟩ => ?_
    subst hw
    exact ⟨he, vs, l, List.Perm.refl _, by rw [List.eq_nil_of_length_eq_zero h0]; exact List.Pairwise.nil, hV, by rw [hv0]; rw [hv0] at hown; exact hown, hB⟩
  · rcases hown.2 with ⟨_, hn⟩ | ⟨g, cap, cur, rfl, hbg, hg, hnc, hcm, hcs, ht⟩
    · omega
    · have hinh : Inhabited (Fin l.length) := ⟨⟨0, by omega⟩⟩
      have hcur : ∀ i (hi : i < l.length), cur[i]? = some (vs.getD i (.bool true)) := by
        intro i hi
        have h1 : (cur.toList.take (vs.length * 1))[i]? = vs[i]? := by rw [ht]
        rw [List.getElem?_take, if_pos (by omega), Array.getElem?_toList, List.getElem?_eq_getElem (by omega)] at h1
        rw [h1, List.getD_eq_getElem?_getD, List.getElem?_eq_getElem (by omega)]; rfl
      obtain ⟨d0, hd0⟩ : ∃ d0 : Array (Fin l.length), d0 = Array.ofFn (fun i : Fin l.length => i) := ⟨_, rfl⟩
      have hsz : d0.size = l.length := by rw [hd0]; simp
      have hget : ∀ j (hj : j < l.length), d0[j]! = ⟨j, hj⟩ := by
        intro j hj
        rw [getElem!_pos d0 j (by omega)]
        subst hd0
        simp
      have hH : Holds (fun i : Fin l.length => vs.getD i.val (.bool true)) w g 0 d0 := by
        intro j hj
        rw [hsz] at hj
        rw [hget j hj, Nat.zero_add]
        exact ⟨(zf hg j).trans (hcur j hj), zh hg j⟩
      have hcmp : CmpLays1 Tryz.prog 173 #[] (fun i : Fin l.length => vs.getD i.val (.bool true)) (fun i j => Zt l[i] l[j]) g 0 d0.size w := by
        intro m os dk hdk x y
        have hBW := (sorted_world (fun i : Fin l.length => vs.getD i.val (.bool true)) hB hbg hg m dk os).2
        obtain ⟨A0, c0, a1, a2, a3⟩ := hV.2 x.val _ (List.getElem?_eq_getElem x.isLt)
        obtain ⟨A1, c1, b1, b2, b3⟩ := hV.2 y.val _ (List.getElem?_eq_getElem y.isLt)
        have e0 : vs.getD x.val (.bool true) = .slice A0 l[x.val].length c0 := by rw [List.getD_eq_getElem?_getD, a1]; rfl
        have e1 : vs.getD y.val (.bool true) = .slice A1 l[y.val].length c1 := by rw [List.getD_eq_getElem?_getD, b1]; rfl
        have hc := bytes_Compare.calls A0 A1 c0 c1 l[x.val] l[y.val] (sortWorld (fun i : Fin l.length => vs.getD i.val (.bool true)) w g 0 m dk os) (Kd.C_below a3 hBW) (Kd.C_below b3 hBW)
        rw [← e0, ← e1] at hc
        exact hc.mono fun e w' ⟨he, hw⟩ => ⟨he, 0, #[], by rw [hw, grow_empty]; rfl⟩
      have hcall := Any.slices_SortFunc Tryz.sortTok (fun i : Fin l.length => vs.getD i.val (.bool true)) (fun i => by
        obtain ⟨A0, c0, a1, _, _⟩ := hV.2 i.val _ (List.getElem?_eq_getElem i.isLt)
        show (vs.getD i.val (.bool true)).oneCell' = true
        rw [List.getD_eq_getElem?_getD, a1]; rfl) (fun i j => Zt l[i] l[j]) (swo_tok (fun i : Fin l.length => l[i])) 173 #[] g 0 cap d0 w enters173 hcmp hH (Zh hg) (by omega)
      have hargs : (#[.slice (some ⟨g, 0, none⟩) d0.size cap, .func (.func 173) #[] #[]] : Array Value) = #[.slice (some ⟨g, 0, none⟩) vs.length cap, .func (.func 173) #[] #[]] := by rw [hsz, hlen]
      rw [hargs] at hcall
      refine (show Calls Tryz.prog 172 _ _ _ from hcall).mono fun e w' ⟨he, d', n, os, hperm, hsort, hw⟩ => ?_
      obtain ⟨p1, p2, p3⟩ := hperm
      have hd's : d'.size = l.length := by omega
      have hP : d'.toList.Perm d0.toList := by
        have e1 : d'.extract 0 d0.size = d' := by rw [← p1]; exact Array.extract_size
        have e2 : d0.extract 0 d0.size = d0 := Array.extract_size
        rw [e1, e2] at p3
        exact p3
      obtain ⟨q1, q2⟩ := sorted_world (fun i : Fin l.length => vs.getD i.val (.bool true)) hB hbg hg n d' os
      rw [← hw] at q1 q2
      refine ⟨he, d'.toList.map fun i => vs.getD i.val (.bool true), d'.toList.map fun i => l[i], ?_, ?_, vals_map hV _, ?_, q2⟩
      · have h1 := hP.map (fun i : Fin l.length => l[i])
        have h2 : d0.toList.map (fun i : Fin l.length => l[i]) = l := by
          refine List.ext_getElem (by simp [hsz]) fun i h1 h2 => ?_
          simp only [List.getElem_map, Array.getElem_toList]
          have := hget i h2
          rw [getElem!_pos d0 i (by omega)] at this
          simp [this]
        rw [h2] at h1
        exact h1
      · rw [List.pairwise_iff_getElem]
        intro i j hi hj hij
        simp only [List.length_map, Array.length_toList] at hi hj
        have := hsort i j (Nat.zero_le _) hij (by omega)
        rw [getElem!_pos d' i (by omega), getElem!_pos d' j (by omega)] at this
        unfold ltOf at this
        simpa using this
      · refine ⟨by simp, .inr ⟨g, cap, putCells (fun i : Fin l.length => vs.getD i.val (.bool true)) 0 d' cur, by simp [hd's, hlen], hbg, q1, by simp [hd's]; omega, hcm, ?_, ?_⟩⟩
        · unfold putCells; simpa using hcs
        · have := putCells_take (fun i : Fin l.length => vs.getD i.val (.bool true)) d' cur (by omega)
          simpa using this
def qY.f(l0:List Int)(l1:List Int):Option (Bool):=some ((strOfNums l0).toList == (strOfNums l1).toList)
theorem qY.calls(A0:Option Addr)(c0:Nat)(l0:List Int)(A1:Option Addr)(c1:Nat)(l1:List Int)(r:Bool)(w:World)(hr0:Kd.C (Kd.int .u8) w A0 l0.length l0)(hc0:l0.length<=c0)(hr1:Kd.C (Kd.int .u8) w A1 l1.length l1)(hc1:l1.length<=c1)(h:qY.f l0 l1=some r) :
 Calls Tryz.prog 100 #[.slice A0 l0.length c0,.slice A1 l1.length c1] w fun e w'=>e=.returned (.bool r)/\Drawn0 w w':=by
 have HR0:=Qk hr0;have HC0:=Qk hc0;clear hr0 hc0;have HR1:=Qk hr1;have HC1:=Qk hc1;clear hr1 hc1;have H:(some ((strOfNums l0).toList == (strOfNums l1).toList))=some r:=h;clear h;obtain rfl:=Qp H;have hcv3:=Kd.C_string (P:=Tryz.prog) (A:=A0) (c:=c0) Tryz.underlying22 Tryz.underlying5 Tryz.underlying9 HR0.out;have hcvd4:=fun nd_=>Kd.C_string (P:=Tryz.prog) (A:=A0) (c:=c0) Tryz.underlying22 Tryz.underlying5 Tryz.underlying9 (Kd.C_drewN HR0.out nd_)
 have hcv5:=Kd.C_string (P:=Tryz.prog) (A:=A1) (c:=c1) Tryz.underlying22 Tryz.underlying5 Tryz.underlying9 HR1.out;have hcvd6:=fun nd_=>Kd.C_string (P:=Tryz.prog) (A:=A1) (c:=c1) Tryz.underlying22 Tryz.underlying5 Tryz.underlying9 (Kd.C_drewN HR1.out nd_)
 go_enter Tryz.func100,Tryz.ntmps100;go_wp2;go_ret;exact⟨by first|rfl|(simp;done)|(simp[*];done),by repeat(first|exact Drawn0.refl _|apply Drawn0.step)⟩
def eqT(x y:List Int):Bool:=Lib.bytesOf x == Lib.bytesOf y
def Zb(x:List Int):List (List Int)->List (List Int)
 |[]=>[]
 |y::t=>if eqT y x=true then Zb y t else y::Zb y t
def adjL:List (List Int)->List (List Int)
 |[]=>[]
 |x::t=>x::Zb x t
theorem adjFrom_snoc(y:List Int):∀ (t:List (List Int)) (x:List Int),Zb x (t++[y])=if eqT y ((x::t).getLastD [])=true then Zb x t else Zb x t++[y]
 |[],x=>by simp[Zb]
 |z::t,x=>by
  have ih:=adjFrom_snoc y t z;simp only[List.cons_append,Zb,ih];have e:(x::z::t).getLastD []=(z::t).getLastD []:=by simp
  rw[e];by_cases h1:eqT z x=true <;> by_cases h2:eqT y ((z::t).getLastD [])=true <;> simp only[if_pos,if_neg,h1,h2] <;> simp
theorem adjL_take{l:List (List Int)}{k:Nat}(h0:0<k)(hk:k<l.length):adjL (l.take (k+1))=if eqT l[k] l[k-1]=true then adjL (l.take k)else adjL (l.take k)++[l[k]]:=by
 rw[List.take_succ_eq_append_getElem hk];obtain⟨x,t,e⟩:∃ x t,l.take k=x::t:=by
  cases h:l.take k with
  |nil=>have:=congrArg List.length h;rw[List.length_take,List.length_nil]at this;omega
  |cons x t=>exact⟨x,t,rfl⟩
 have hlast:(x::t).getLastD []=l[k-1]:=by
  rw[← e];rw[List.getLastD_eq_getLast?,List.getLast?_eq_getElem?];simp[List.length_take,Nat.min_eq_left (Nat.le_of_lt hk)];rw[List.getElem?_take,if_pos (by omega),List.getElem?_eq_getElem (by omega)];rfl
 rw[e]
 show x::Zb x (t++[l[k]])=_
 rw[adjFrom_snoc,hlast];split
 ·rfl
 ·rfl
theorem adjL_len{l:List (List Int)}:∀ k,k<=l.length->(adjL (l.take k)).length<=k
 |0,_=>by simp[adjL]
 |k+1,hk=>by
  by_cases h0:k=0
  ·subst h0
   cases l with
   |nil=>simp[adjL]
   |cons x t=>simp[adjL,Zb]
  ·rw[adjL_take (by omega) (by omega)]
   have:=adjL_len (l:=l) k (by omega);split
   ·omega
   ·rw[List.length_append];simp;omega
theorem equal_toks(A0 A1:Option Addr)(c0 c1:Nat)(x y:List Int)(w:World)(hx:Kd.C (Kd.int .u8) w A0 x.length x)(hcx:x.length<=c0)(hy:Kd.C (Kd.int .u8) w A1 y.length y)(hcy:y.length<=c1) :
 Calls Tryz.prog 100 #[.slice A0 x.length c0,.slice A1 y.length c1] w fun e w'=>e=.returned (.bool (eqT x y))/\Drawn0 w w':=by
 have h:=qY.calls A0 c0 x A1 c1 y (eqT x y) w hx hcx hy hcy (by unfold qY.f eqT;rw[Lib.strOfNums_toList,Lib.strOfNums_toList]);exact h
theorem Vals.take{w:World}{vs:List Value}{l:List (List Int)}(h:Vals w vs l)(k:Nat):Vals w (vs.take k) (l.take k):=by
 refine⟨by rw[List.length_take,List.length_take,h.1],fun i t hi=>?_⟩;rw[List.getElem?_take]at hi ⊢;split at hi
 ·next h1=>rw[if_pos h1];exact h.2 i t hi
 ·cases hi
theorem Vals.at_{w:World}{vs:List Value}{l:List (List Int)}(h:Vals w vs l){i:Nat}(hi:i<l.length):∃ A c,vs[i]?=some (.slice A l[i].length c)/\l[i].length<=c/\Kd.C (Kd.int .u8) w A l[i].length l[i]:=h.2 i _ (List.getElem?_eq_getElem hi)
theorem take_set_snoc(xs:Array Value)(k:Nat)(u:Value)(hk:k<xs.size):(xs.setIfInBounds k u).toList.take (k+1)=xs.toList.take k++[u]:=by
 refine List.ext_getElem? fun i=>?_
 rw[List.getElem?_take,List.getElem?_append,List.length_take,List.getElem?_take,Array.getElem?_toList,Array.getElem?_toList];by_cases h1:i<k
 ·rw[if_pos (by omega),if_pos (by simp;omega),if_pos h1,Array.getElem?_setIfInBounds_ne (by omega)]
 ·by_cases h2:i=k
  ·subst h2
   rw[if_pos (by omega),if_neg (by simp;omega),Array.getElem?_setIfInBounds_self_of_lt hk];simp[Nat.min_eq_left (Nat.le_of_lt hk)]
  ·rw[if_neg (by omega),if_neg (by simp;omega)]
   rw[List.getElem?_eq_none (by simp;omega)]
end Go.Proofs.YtdiojfaenfggkaaGreat.PTopNear
namespace Go.Proofs.YtdiojfaenfggkaaGreat.PTopNear
open Go.RowKit Go.Proofs.YtdiojfaenfggkaaGreatW.PrintWords Go.Proofs.YtdiojfaenfggkaaGreatW.PrintLast Go.Proofs.YtdiojfaenfggkaaGreatW.PrintMore
attribute [local go_sem] qW qU Zg Zf qK qJ qV qT
set_option linter.unusedVariables false
set_option linter.unusedSimpArgs false
theorem compact_toks{w0 w:World}(hB:Below w0.heap.size w0 w){l:List (List Int)}{vs:List Value}(hV:Vals w0 vs l){v:Value}(hown:w.ownsRow w0.heap.size 22 1 v vs.length vs)(hl:l.length<=1000000000) :
 Calls Tryz.prog 174 #[v,.func (.func 100) #[] #[]] w fun e w'=>∃ v2 vs2,e=.returned v2/\Vals w0 vs2 (adjL l)/\w'.ownsRow w0.heap.size 22 1 v2 vs2.length vs2/\Below w0.heap.size w0 w':=by
 have hlen:=hV.1;by_cases h2:l.length<2
 ·have hadj:adjL l=l:=by
   cases l with
   |nil=>rfl
   |cons x t=>cases t with
    |nil=>rfl
    |cons y t=>simp at h2;omega
  obtain⟨A,c,rfl⟩:=ZU hown;have HO:=Qk hown;have HVV:=Qk hV;have hlt:decide (vs.length<2)=true:=Qm (by omega);have HB:=Qk hB;clear hown hV hB;go_enter Tryz.func174,Tryz.ntmps174;go_wp2;go_ret;exact⟨_,vs,rfl,by rw[hadj];exact HVV.out,HO.out,HB.out⟩
 ·rcases hown.2 with⟨_,hn⟩|⟨g,cap,cur,rfl,hbg,hg,hnc,hcm,hcs,ht⟩
  ·omega
  ·have hcur:∀ i,i<vs.length->cur[i]?=vs[i]?:=by
    intro i hi;have h1:(cur.toList.take (vs.length*1))[i]?=vs[i]?:=by rw[ht]
    rwa [List.getElem?_take,if_pos (by omega),Array.getElem?_toList]at h1
   have HCU:=Qk hcur;have HVV:=Qk hV;have HB:=Qk hB;have HG:=Qk hg;have HT:=Qk ht;have HGB:=Qk hbg;have HLN:=Qk hlen;have HCS:=Qk hcs;have hlt:decide (vs.length<2)=false:=Qn (by omega);have hn2:2<=vs.length:=by omega
   have hn9:vs.length<=1000000000:=by omega
   unfold maxLen at hcm;clear hcur hV hB hg hown ht hbg hlen hcs hl h2;go_enter Tryz.func174,Tryz.ntmps174;go_wp2_with fail
   go_loopw [5] (fun v5 wr=>∃ k:Nat,1<=k/\k<=vs.length/\v5=.int .i64 k/\Aside0 (Below w0.heap.size w0 wr)/\Aside0 (wr.heap[g]?=some (.cells cur 22 (0,0)))/\Aside0 (adjL (l.take k)=l.take k)) (fun v5 _=>vs.length-(intOf v5).toNat)
   case atStart =>
    refine⟨1,by omega,by omega,rfl,HB,HG,⟨?_⟩⟩
    have:=HLN.out
    cases l with
    |nil=>rw[List.length_nil]at this;omega
    |cons x t=>simp[adjL,Zb]
   case round =>
    clear HB HG hlt;obtain⟨k,hk1,hk2,rfl,HB,HG,HADJ⟩:=hrel;by_cases hkn:k<vs.length
    ·obtain⟨A1,c1,a1,a2,a3⟩:=HVV.out.at_ (i:=k) (by have:=HLN.out;omega)
     obtain⟨A0,c0,b1,b2,b3⟩:=HVV.out.at_ (i:=k-1) (by have:=HLN.out;omega);have hz1:wr.cell? ⟨g,k,none⟩=some (.slice A1 (l[k]'(by have:=HLN.out;omega)).length c1):=(zf HG.out k).trans ((HCU.out k hkn).trans a1);have hz0:wr.cell? ⟨g,k-1,none⟩=some (.slice A0 (l[k-1]'(by have:=HLN.out;omega)).length c0):=(zf HG.out (k-1)).trans ((HCU.out (k-1) (by omega)).trans b1);have HAT:=Qk (adjL_take (l:=l) (k:=k) (by omega) (by have:=HLN.out;omega));have HA1:=Qk a1;have HA2:=Qk (And.intro a2 a3);have HA3:=Qk (And.intro b2 b3);have HA0:=Qk b1;clear a1 a2 a3 b1 b2 b3;generalize hx1:l[k]'(by have:=HLN.out;omega)=x1 at hz1 HAT HA1 HA2;generalize hx0:l[k-1]'(by have:=HLN.out;omega)=x0 at hz0 HAT HA3 HA0;have HX:=Qk (And.intro hx1 hx0);clear hx1 hx0;have gi0:(0:Int)<=(k:Int):=by omega
     have gi1:(k:Int)<(vs.length:Int):=by omega
     have gi2:(0:Int)<=(k:Int)-1:=by omega
     have gi4:(1:Int)<=(k:Int):=by omega
     have gi7:(k:Int)<=(vs.length:Int):=by omega
     have gi8:¬ ((vs.length:Int)<=(k:Int)-1):=by omega
     have gi9:((k:Int)-1).toNat=k-1:=by omega
     have gi3:(k:Int)-1<(vs.length:Int):=by omega
     go_upto_region 6 with fail
     have cz1:IntKind.i64.wrap ((k:Int)-1)=(k:Int)-1:=IntWalk.i64_in _ (by omega);have HBd:=Qk (zC HB.out);go_region_held3 (fun w'=>w'.cell? ⟨g,k,none⟩=some (.slice A1 x1.length c1)/\w'.cell? ⟨g,k-1,none⟩=some (.slice A0 x0.length c0)) (first|go_keep|exact⟨(zf HG.out k).trans ((HCU.out k hkn).trans HA1.out),(zf HG.out (k-1)).trans ((HCU.out (k-1) (by omega)).trans HA0.out)⟩) (first|(go_at_call 100;((with_reducible refine(equal_toks A1 A0 c1 c0 x1 x0 _ (Kd.C_below HA2.out.2 HBd.out) HA2.out.1 (Kd.C_below HA3.out.2 HBd.out) HA3.out.1).mono ?_);rintro e w2 ⟨rfl,hq⟩;have n0_:=Qk (zi HBd.out hq.below);have n1_:=Qk (zy (w:=wr.drew) HG.out hq.below);clear HB HBd HG hq hz0 hz1;have HB:=n0_;have HG:=n1_;clear n0_ n1_)))
     by_cases hdup:eqT x1 x0=true
     ·rw[hdup]
      go_wp2_with fail
      have HS0:=Qk (show Vals w0 (cur.toList.take k) (adjL (l.take (k+1))) by
       have h1:=HAT.out;rw[if_pos hdup,HADJ.out]at h1;rw[h1];have h2:cur.toList.take k=vs.take k:=by
        rw[← HT.out,List.take_take,Nat.min_eq_left (by omega)]
       rw[h2];exact HVV.out.take k)
      clear HA0 HA1 HA2 HA3 HX HAT HADJ cz1;go_loopw [5,7] (fun v5 v7 wr=>∃ (kk k2:Nat) (xs:Array Value),1<=kk/\kk<=k+k2-1/\1<=k2/\k+k2<=vs.length/\v5=.int .i64 kk/\v7=.int .i64 k2/\Aside0 (Below w0.heap.size w0 wr)/\Aside0 (wr.heap[g]?=some (.cells xs 22 (0,0)))/\Aside0 (xs.size=cap*1)/\Aside0 (Vals w0 (xs.toList.take kk) (adjL (l.take (k+k2))))/\Aside0 (∀ j,k+k2-1<=j->j<vs.length->xs[j]?=vs[j]?)) (fun _ v7 _=>vs.length-(intOf v7).toNat)
      case atStart=>exact⟨k,1,cur,by omega,by omega,by omega,by omega,rfl,rfl,HB,HG,HCS,HS0,⟨fun j _ hj=>HCU.out j hj⟩⟩
      case round =>
       clear HB HG HS0;obtain⟨kk,k2,xs,r1,r2,r3,r4,rfl,rfl,HB,HG,HXS,HP,HI⟩:=hrel;by_cases hlt2:k+k2<vs.length
       ·obtain⟨A1,c1,a1,a2,a3⟩:=HVV.out.at_ (i:=k+k2) (by have:=HLN.out;omega)
        obtain⟨A0,c0,b1,b2,b3⟩:=HVV.out.at_ (i:=k+k2-1) (by have:=HLN.out;omega);have hz1:wr.cell? ⟨g,k+k2,none⟩=some (.slice A1 (l[k+k2]'(by have:=HLN.out;omega)).length c1):=(zf HG.out _).trans ((HI.out (k+k2) (by omega) hlt2).trans a1);have hz0:wr.cell? ⟨g,k+(k2-1),none⟩=some (.slice A0 (l[k+k2-1]'(by have:=HLN.out;omega)).length c0):=by
         rw[show k+(k2-1)=k+k2-1 by omega]
         exact(zf HG.out _).trans ((HI.out (k+k2-1) (by omega) (by omega)).trans b1)
        have HAT:=Qk (adjL_take (l:=l) (k:=k+k2) (by omega) (by have:=HLN.out;omega));have HA1:=Qk a1;have HA0:=Qk b1;have HA2:=Qk (And.intro a2 a3);have HA3:=Qk (And.intro b2 b3);clear a1 a2 a3 b1 b2 b3;generalize l[k+k2]'(by have:=HLN.out;omega)=y1 at hz1 HAT HA1 HA2;generalize l[k+k2-1]'(by have:=HLN.out;omega)=y0 at hz0 HAT HA3 HA0;have gj0:(0:Int)<=(k2:Int):=by omega
        have gj1:(k2:Int)<((vs.length-k:Nat):Int):=by omega
        have gj2:(0:Int)<=(k2:Int)-1:=by omega
        have gj4:(1:Int)<=(k2:Int):=by omega
        have gj7:(k2:Int)<=((vs.length-k:Nat):Int):=by omega
        have gj8:¬ (((vs.length-k:Nat):Int)<=(k2:Int)-1):=by omega
        have gj9:((k2:Int)-1).toNat=k2-1:=by omega
        have gj3:(k2:Int)-1<((vs.length-k:Nat):Int):=by omega
        have gl:decide (k2<vs.length-k)=true:=Qm (by omega);have cz1:IntKind.i64.wrap ((k2:Int)-1)=(k2:Int)-1:=IntWalk.i64_in _ (by omega);have HBd:=Qk (zC HB.out);go_upto_region 11 with fail
        go_region_held3 (fun w'=>w'.cell? ⟨g,k+k2,none⟩=some (.slice A1 y1.length c1)/\w'.cell? ⟨g,k+(k2-1),none⟩=some (.slice A0 y0.length c0)) (first|go_keep|exact⟨(zf HG.out _).trans ((HI.out (k+k2) (by omega) hlt2).trans HA1.out),by rw[show k+(k2-1)=k+k2-1 by omega];exact(zf HG.out _).trans ((HI.out (k+k2-1) (by omega) (by omega)).trans HA0.out)⟩) (first|(go_at_call 100;((with_reducible refine(equal_toks A1 A0 c1 c0 y1 y0 _ (Kd.C_below HA2.out.2 HBd.out) HA2.out.1 (Kd.C_below HA3.out.2 HBd.out) HA3.out.1).mono ?_);rintro e w3 ⟨rfl,hq⟩;have n0_:=Qk (zi HBd.out hq.below);have n1_:=Qk (zy (w:=wr.drew) HG.out hq.below);clear HB HBd HG hq hz0 hz1;have HB:=n0_;have HG:=n1_;clear n0_ n1_)))
        by_cases hd2:eqT y1 y0=true
        ·rw[hd2]
         go_wp2_with fail
         go_roundw
         case rel=>exact⟨kk,k2+1,xs,by omega,by omega,by omega,by omega,rfl,by go_num,HB,HG,HXS,⟨by have h1:=HAT.out;rw[if_pos hd2]at h1;rw[← Nat.add_assoc,h1];exact HP.out⟩,⟨fun j h1 h2=>HI.out j (by omega) h2⟩⟩
         case measure=>simp[intOf];omega
        ·have hdf:eqT y1 y0=false:=by simpa using hd2
         rw[hdf];have hz1:w3.cell? ⟨g,k+k2,none⟩=some (.slice A1 y1.length c1):=(zf HG.out _).trans ((HI.out (k+k2) (by omega) hlt2).trans HA1.out);have hzk:∃ u,w3.cell? ⟨g,kk,none⟩=some u:=⟨_,(zf HG.out _).trans (Array.getElem?_eq_getElem (by have:=HXS.out;omega))⟩
         obtain⟨u0,hzk⟩:=hzk;have hfk:=zh HG.out kk;have gk0:(0:Int)<=(kk:Int):=by omega
         have gk1:(kk:Int)<(vs.length:Int):=by omega
         go_wp2_with fail
         go_roundw
         case rel=>exact⟨kk+1,k2+1,xs.setIfInBounds kk (.slice A1 y1.length c1),by omega,by omega,by omega,by omega,by go_num,by go_num,⟨zr HB.out HGB.out⟩,⟨q6 HG.out kk _⟩,⟨by rw[Array.size_setIfInBounds];exact HXS.out⟩,⟨by
          have h1:=HAT.out;rw[if_neg hd2]at h1;rw[← Nat.add_assoc,h1,take_set_snoc _ _ _ (by have:=HXS.out;omega)];refine HP.out.append ⟨rfl,fun i t hi=>?_⟩
          cases i with
          |zero=>obtain rfl:=Qp hi;exact⟨A1,c1,rfl,HA2.out.1,HA2.out.2⟩
          |succ i=>simp at hi⟩,⟨fun j h1 h2=>by rw[Array.getElem?_setIfInBounds_ne (by omega)];exact HI.out j (by omega) h2⟩⟩
         case measure=>simp[intOf];omega
       ·obtain⟨q,hq⟩:∃ q,k2=q:=⟨_,rfl⟩
        have gl:decide (k2<vs.length-k)=false:=Qn (by omega);have hcl:∀ ty,(Builtin.clear_ #[60] ty #[.slice (some ⟨g,kk,none⟩) (vs.length-kk) (cap-kk)]).run Tryz.prog wr=.ok (.tuple #[]) (wr.setCells g kk (List.replicate (vs.length-kk) (.slice none 0 0))) :=
         fun ty=>Lib.run_clear_slice wr 60 22 ty (.slice none 0 0) Tryz.underlying60 (fun w=>by kernel_rfl) rfl rfl g kk _ _ (by omega) (fun j hj=>by rw[zf HG.out];rw[Array.getElem?_eq_getElem (by have:=HXS.out;omega)];rfl) (fun j hj=>zh HG.out _)
        go_wp2_with fail
        go_ret;have hkx:kk<=xs.size:=by have:=HXS.out;omega
        have htl:(xs.toList.take kk).length=kk:=by rw[List.length_take,Array.length_toList];omega
        obtain⟨cur',s1,s2,s3⟩:=ZZ (List.replicate (vs.length-kk) (.slice none 0 0)) kk wr xs HG.out (by rw[List.length_replicate];have:=HXS.out;omega);refine⟨_,xs.toList.take kk,rfl,?_,⟨by simp,.inr ⟨g,cap,cur',by rw[htl];first|done|rfl,HGB.out,s1,by rw[htl];omega,by unfold maxLen;omega,by rw[s2];exact HXS.out,?_⟩⟩,?_⟩
        ·have h1:=HP.out
         rw[show k+k2=l.length by have:=HLN.out;omega,List.take_length]at h1
         exact h1
        ·rw[htl,s3,Nat.mul_one,List.append_assoc,List.take_append_of_le_length (by omega),List.take_take,Nat.min_self]
        ·obtain⟨m1,m2,m3,m4⟩:=ZK g (List.replicate (vs.length-kk) (.slice none 0 0)) kk wr
         have hb:=HB.out;exact⟨m1.trans hb.os,m2.trans hb.tape,m3.trans hb.output,by rw[m4];exact hb.size,fun j hj=>(Z0 _ _ j (by have:=HGB.out;omega)).trans (hb.block j hj)⟩
     ·have hdf:eqT x1 x0=false:=by simpa using hdup
      rw[hdf];go_wp2_with fail
      go_roundw
      case rel=>exact⟨k+1,by omega,by omega,by go_num,HB,HG,⟨by
       have h1:=HAT.out;rw[if_neg hdup,HADJ.out]at h1;have hk':k<l.length:=by have:=HLN.out;omega
       rw[h1,List.take_succ_eq_append_getElem hk',HX.out.1]⟩⟩
      case measure=>simp[intOf];omega
    ·obtain rfl:k=vs.length:=by omega
     have hge:decide ((vs.length:Int)<(vs.length:Int))=false:=Qn (by omega);go_wp2_with fail
     go_ret;refine⟨_,vs,rfl,?_,⟨by simp,.inr ⟨g,cap,cur,rfl,HGB.out,HG.out,hnc,by unfold maxLen;omega,HCS.out,HT.out⟩⟩,HB.out⟩
     have h1:=HADJ.out;rw[HLN.out,List.take_length]at h1;rw[h1];exact HVV.out
end Go.Proofs.YtdiojfaenfggkaaGreat.PTopNear
namespace Go.Proofs.YtdiojfaenfggkaaGreat.PTopNear
open Go.RowKit Go.Proofs.YtdiojfaenfggkaaGreatW.PrintWords Go.Proofs.YtdiojfaenfggkaaGreatW.PrintLast Go.Proofs.YtdiojfaenfggkaaGreatW.PrintMore
attribute [local go_sem] qW qU Zg Zf qK qJ qV qT
set_option linter.unusedVariables false
set_option linter.unusedSimpArgs false
theorem cells_u8{w:World}{a:Addr}{n:Nat}{xs:List Int}(h:Kd.C (Kd.int .u8) w (some a) n xs):∀ i,i<n->w.cell? (a.add i)=some (.int .u8 (xs.getD i 0)):=by
 intro i hi;obtain⟨ad,e,hc⟩:=(Kd.reads_of_C (d:=(0:Int)) h).2.2 (by omega);obtain rfl:=Qp e;exact hc i hi
theorem none_u8{w:World}{n:Nat}{xs:List Int}(h:Kd.C (Kd.int .u8) w none n xs):xs=[]:=by
 have h:=Kd.reads_of_C (d:=(0:Int)) h
 rcases Nat.eq_zero_or_pos n with h0|h0
 ·exact List.eq_nil_of_length_eq_zero (by rw[h.1,h0])
 ·obtain⟨ad,e,_⟩:=h.2.2 h0
  cases e
def zU.f(l0:List Int):Option (List Int):=if l0.length<140737488355328 then some l0 else none
theorem zU.calls(A0:Option Addr)(c0:Nat)(l0:List Int)(r:List Int)(w:World)(hr0:Kd.C (Kd.int .u8) w A0 l0.length l0)(hc0:l0.length<=c0)(h:zU.f l0=some r) :
 Calls Tryz.prog 101 #[.slice A0 l0.length c0] w fun e w'=>∃ v0_:Value,e=.returned (v0_)/\Kd.R (Kd.int .u8) 5 w' w.heap.size (fun _=>True) v0_ r/\Below w.heap.size w w':=by
 have hl:l0.length<140737488355328:=by
  unfold zU.f at h;split at h <;> first|assumption|cases h
 have hr:l0=r:=by unfold zU.f at h;rw[if_pos hl]at h;exact Qp h
 subst hr;clear h;have q22:∀ (w:World) (a:Option Addr) (n c n' c':Nat),(binOp .eql 22 (.slice a n c) (.slice none n' c')).run Tryz.prog w=.ok (.bool a.isNone) w:=fun w a n c n' c'=>Lib.run_eql_slice_nil w _ _ a n c n' c' Tryz.underlying22
 cases A0 with
 |none =>
  have h0:=none_u8 hr0;subst h0;go_enter Tryz.func101,Tryz.ntmps101;go_wp2;go_ret;exact⟨_,rfl,Kd.R_nil _ _ _ _ _,Below.refl _ _⟩
 |some a =>
  have A:Aside0 (∀ i,i<l0.length->w.cell? (a.add i)=some (.int .u8 (l0.getD i 0))):=⟨cells_u8 hr0⟩;clear hr0;have u22:∀ w,Sem.run Tryz.prog (underlying 22) w=.ok (TypeDesc.slice 5) w:=run_underlying Tryz.underlying22
  obtain⟨i0,hi,hz0,hz1,hz2⟩:=info_parts info5;have z5:∀ w,Sem.run Tryz.prog (Go.sizeOf 5) w=.ok 1 w:=fun w=>by simp[Go.sizeOf,typeInfo,hi,hz1]
  go_enter Tryz.func101,Tryz.ntmps101;go_wp2_with (at_builtin;refine wpList_append_own _ rfl _ _ 22 rfl w.heap.size 5 i0 (.int .u8 0) 1 1 Tryz.underlying22 hi hz0 hz1 hz2 rfl (by decide) _ _ _ rfl (World.ownsRow_made w #[] 0 (Nat.le_refl _) (Nat.zero_le _) rfl) a l0.length c0 (l0.map (Value.int .u8)) rfl ?qc1 ?qc2 ?qc3 ?qc4 ?qc5 ?qc6 ?_)
  case qc1=>simp
  case qc2 =>
   intro j u hj;have hjn:j<l0.length:=by
    have:=(List.getElem?_eq_some_iff.1 hj).1;simp at this;omega
   refine Lib.cell?_alloc_some _ ?_;rw[A.out j hjn];have e:(l0.map (Value.int .u8))[j]?=some (Value.int .u8 (l0.getD j 0)):=by simp[List.getD,List.getElem?_eq_getElem hjn]
   rw[e]at hj;exact hj
  case qc3=>intro u hu;obtain⟨x,_,rfl⟩:=List.mem_map.1 hu;rfl
  case qc4=>unfold maxLen;omega
  case qc5=>omega
  case qc6=>simp
  intro v' w1 hown hgrow hnil;go_wp2;go_ret;refine⟨v',rfl,Kd.R_of_own (enc:=Value.int .u8) (h1:=fun _=>rfl) (by simpa [encs]using hown) (fun _ _=>trivial),?_⟩;exact((Below.refl _ w).alloc (Nat.le_refl _) _).grown hgrow (by simp) (by intro k hk;simp[Value.ownBlock]at hk;omega)
theorem adjFrom_mem{x:List Int}:∀ {t:List (List Int)} {z:List Int},z∈Zb x t->z∈t
 |[],z,h=>by simp[Zb]at h
 |y::t,z,h=>by
  unfold Zb at h;split at h
  ·exact List.mem_cons_of_mem _ (adjFrom_mem h)
  ·rcases List.mem_cons.mp h with rfl|h
   ·exact List.mem_cons_self ..
   ·exact List.mem_cons_of_mem _ (adjFrom_mem h)
theorem eqT_iff(x y:List Int):eqT x y=true↔Zt x y=0:=by unfold eqT;rw[q8];simp
theorem cmpT_congr{x y z:List Int}(h:Zt x y=0):Zt x z=Zt y z:=by
 have:=(q8 x y).1 h;unfold Zt;rw[this]
theorem adjFrom_sorted:∀ {t:List (List Int)} {x:List Int},(x::t).Pairwise (fun a b=>¬ Zt b a<0)->(x::Zb x t).Pairwise (fun a b=>Zt a b<0)
 |[],x,_=>by simp[Zb]
 |y::t,x,h=>by
  rw[List.pairwise_cons]at h;obtain⟨h1,h2⟩:=h;have hy:=h1 y (List.mem_cons_self ..);have ih:=adjFrom_sorted h2;unfold Zb;by_cases e:eqT y x=true
  ·rw[if_pos e]
   have e0:=(eqT_iff y x).1 e;rw[List.pairwise_cons]at ih ⊢;refine⟨fun z hz=>?_,ih.2⟩;have:=ih.1 z hz
   rwa [cmpT_congr e0]at this
  ·rw[if_neg e]
   rw[List.pairwise_cons];have hxy:Zt x y<0:=by
    have e0:¬ Zt y x=0:=fun h=>e ((eqT_iff y x).2 h)
    have:=cmpT_swap x y;omega
   refine⟨fun z hz=>?_,ih⟩
   rcases List.mem_cons.mp hz with rfl|hz
   ·exact hxy
   ·exact cmpT_trans hxy ((List.pairwise_cons.mp ih).1 z hz)
theorem adjL_sorted{l:List (List Int)}(h:l.Pairwise (fun a b=>¬ Zt b a<0)):(adjL l).Pairwise (fun a b=>Zt a b<0):=by
 cases l with
 |nil=>exact List.Pairwise.nil
 |cons x t=>exact adjFrom_sorted h
theorem adjL_mem{l:List (List Int)}{z:List Int}(h:z∈adjL l):z∈l:=by
 cases l with
 |nil=>cases h
 |cons x t =>
  rcases List.mem_cons.mp h with rfl|h
  ·exact List.mem_cons_self ..
  ·exact List.mem_cons_of_mem _ (adjFrom_mem h)
theorem adjFrom_has:∀ {t:List (List Int)} {x z:List Int},z∈t->∃ u,u∈x::Zb x t/\Zt z u=0
 |y::t,x,z,h=>by
  unfold Zb;by_cases e:eqT y x=true
  ·rw[if_pos e]
   have e0:=(eqT_iff y x).1 e
   rcases List.mem_cons.mp h with rfl|h
   ·exact⟨x,List.mem_cons_self ..,e0⟩
   ·obtain⟨u,hu,hz⟩:=adjFrom_has (x:=y) h
    rcases List.mem_cons.mp hu with rfl|hu
    ·refine⟨x,List.mem_cons_self ..,?_⟩
     have a1:=(q8 z u).1 hz;have a2:=(q8 u x).1 e0;exact(q8 z x).2 (a1.trans a2)
    ·exact⟨u,List.mem_cons_of_mem _ hu,hz⟩
  ·rw[if_neg e]
   rcases List.mem_cons.mp h with rfl|h
   ·exact⟨z,List.mem_cons_of_mem _ (List.mem_cons_self ..),(q8 z z).2 rfl⟩
   ·obtain⟨u,hu,hz⟩:=adjFrom_has (x:=y) h
    exact⟨u,List.mem_cons_of_mem _ hu,hz⟩
theorem adjL_has{l:List (List Int)}{z:List Int}(h:z∈l):∃ u,u∈adjL l/\Zt z u=0:=by
 cases l with
 |nil=>cases h
 |cons x t =>
  rcases List.mem_cons.mp h with rfl|h
  ·exact⟨z,List.mem_cons_self ..,(q8 z z).2 rfl⟩
  ·exact adjFrom_has h
def IsDict(l D:List (List Int)):Prop:=D.Pairwise (fun a b=>Zt a b<0)/\(∀ z,z∈D->z∈l)/\∀ z,z∈l->∃ u,u∈D/\Zt z u=0
theorem isDict_of{l l':List (List Int)}(hp:l'.Perm l)(hs:l'.Pairwise (fun a b=>¬ Zt b a<0)):IsDict l (adjL l') :=
 ⟨adjL_sorted hs,fun z hz=>hp.mem_iff.1 (adjL_mem hz),fun z hz=>adjL_has (hp.mem_iff.2 hz)⟩
theorem own_cellsAt{w:World}{base e:Nat}{A:Option Addr}{n c:Nat}{vs:List Value}(h:w.ownsRow base e 1 (.slice A n c) vs.length vs):CellsAt w A vs/\n=vs.length/\n<=c:=by
 rcases h.2 with⟨he,h0⟩|⟨g,cap,cur,he,hb,hg,hnc,hcm,hcs,ht⟩
 ·have h1:vs=[]:=List.eq_nil_of_length_eq_zero h0
  subst h1;injection he with e1 e2 e3
  exact⟨fun i u hi=>by simp at hi,e2,by omega⟩
 ·injection he with e1 e2 e3
  subst e1 e2 e3;refine⟨fun i u hi=>⟨_,rfl,?_⟩,rfl,hnc⟩
  rw[qy];have hi':i<vs.length:=(List.getElem?_eq_some_iff.1 hi).1;have h1:(cur.toList.take (vs.length*1))[i]?=vs[i]?:=by rw[ht]
  rw[List.getElem?_take,if_pos (by omega),Array.getElem?_toList]at h1;exact(zf hg i).trans (h1.trans hi)
theorem make22(n:Nat)(hn:n<=1000000000):∀ W:World,(Instr.makeSlice 60 (.int .i64 (n:Int)) (.int .i64 (n:Int))).run Tryz.prog W=.ok (.slice (some ⟨W.heap.size,0,none⟩) n n) (W.alloc (.cells (madeCells #[.slice none 0 0] n) 22)):=by
 intro W;obtain⟨i0,hi,hz0,hz1,hz2⟩:=info_parts inf22_;have hr:=run_make (P:=Tryz.prog) W 60 22 i0 _ Tryz.underlying60 hi hz0 .i64 .i64 (n:Int) (n:Int) (by omega) (by omega) (by rw[hz2];omega) (by omega);rw[hz1]at hr;simp only[Int.toNat_natCast,Nat.mul_one]at hr;exact hr
def NewRows(w:World)(g:Nat)(xs:Array Value)(D:List (List Int))(i:Nat):Prop:=∀ (j:Nat) (t:List Int),j<i->D[j]?=some t->∃ u,xs[j]?=some u/\(Kd.int .u8).R 5 w 0 (fun k=>k≠g) u t
theorem NewRows.below{w W:World}{g:Nat}{xs:Array Value}{D:List (List Int)}{i:Nat}(h:NewRows w g xs D i)(hb:Below w.heap.size w W):NewRows W g xs D i:=fun j t hj ht=>by
 obtain⟨u,h1,h2⟩:=h j t hj ht;exact⟨u,h1,Kd.R_below h2 hb⟩
theorem NewRows.put{w:World}{g:Nat}{xs:Array Value}{D:List (List Int)}{i:Nat}(h:NewRows w g xs D i)(hi:i<xs.size){u:Value}{t:List Int}(ht:D[i]?=some t)(hu:(Kd.int .u8).R 5 w 0 (fun k=>k≠g) u t):NewRows (w.setCell ⟨g,i,none⟩ u) g (xs.setIfInBounds i u) D (i+1):=fun j t' hj ht'=>by
 by_cases e:j=i
 ·subst e
  rw[ht]at ht';obtain rfl:=Qp ht';exact⟨u,by rw[Array.getElem?_setIfInBounds_self_of_lt hi],Kd.R_far hu (fun k hk=>hk) u⟩
 ·obtain⟨v,h1,h2⟩:=h j t' (by omega) ht'
  exact⟨v,by rw[Array.getElem?_setIfInBounds_ne (by omega)];exact h1,Kd.R_far h2 (fun k hk=>hk) u⟩
structure Beside(g:Nat)(w W:World):Prop where
 os:W.os=w.os
 tape:W.tape=w.tape
 output:W.output=w.output
 size:w.heap.size<=W.heap.size
 block:∀ k,k≠g->k<w.heap.size->W.heap[k]?=w.heap[k]?
theorem Beside.below{g:Nat}{w0 w W:World}(h:Beside g w W)(hb:Below w0.heap.size w0 w)(hg:w0.heap.size<=g):Below w0.heap.size w0 W :=
 ⟨h.os.trans hb.os,h.tape.trans hb.tape,h.output.trans hb.output,Nat.le_trans hb.size h.size,fun k hk=>(h.block k (by omega) (by have:=hb.size;omega)).trans (hb.block k hk)⟩
theorem Beside.after{g:Nat}{w w1 W:World}(hb:Below w.heap.size w w1)(h:Beside g w1 W):Beside g w W :=
 ⟨h.os.trans hb.os,h.tape.trans hb.tape,h.output.trans hb.output,Nat.le_trans hb.size h.size,fun k hk hl=>(h.block k hk (by have:=hb.size;omega)).trans (hb.block k hl)⟩
def DictAt(w:World)(g:Nat)(vs:List Value)(D:List (List Int)):Prop:=vs.length=D.length/\w.heap[g]?=some (.cells vs.toArray 22 (0,0))/\∀ W,Beside g w W->Vals W vs D
theorem DictAt.below{w W:World}{g:Nat}{vs:List Value}{D:List (List Int)}(h:DictAt w g vs D)(hb:Below w.heap.size w W):DictAt W g vs D :=
 ⟨h.1,zy h.2.1 hb,fun W' hW=>h.2.2 W' (hW.after hb)⟩
theorem NewRows.dict{w:World}{g:Nat}{xs:Array Value}{D:List (List Int)}{i:Nat}(h:NewRows w g xs D i)(hs:xs.size=i)(hd:D.length=i)(hg:w.heap[g]?=some (.cells xs 22 (0,0))):DictAt w g xs.toList D :=
 ⟨by rw[Array.length_toList];omega,hg,fun W hW=>⟨by rw[Array.length_toList];omega,fun j t hj=>by
  obtain⟨u,h1,h2⟩:=h j t (by have:=(List.getElem?_eq_some_iff.1 hj).1;omega) hj;obtain⟨A,c,rfl,h3,h4⟩:=Kd.R_reads (Kd.R_step h2 (fun k hk hl=>hW.block k hk hl));exact⟨A,c,by rw[Array.getElem?_toList];exact h1,h3,h4⟩⟩⟩
theorem qv(w:World)(o:Obj):(w.alloc o).heap[w.heap.size]?=some o:=Array.getElem?_push_size
theorem Z2(w:World)(o:Obj):(w.alloc o).heap.size=w.heap.size+1:=Array.size_push ..
theorem made_sz(u:Value)(n:Nat):(madeCells #[u] n).size=n:=by simp[madeCells]
theorem names_Sort.toks(A:Option Addr)(c:Nat)(vs:List Value)(l:List (List Int))(w:World)(hV:Vals w vs l)(hc:CellsAt w A vs)(hl:l.length<=1000000)(ht:∀ t,t∈l->t.length<140737488355328) :
 Calls Tryz.prog 134 #[.slice A vs.length c] w fun e w'=>∃ g vs2 D,e=.returned (.slice (some ⟨g,0,none⟩) D.length D.length)/\w.heap.size<=g/\D.length<=1000000/\IsDict l D/\DictAt w' g vs2 D/\Below w.heap.size w w':=by
 have hlen:=hV.1;have HV:=Qk hV;have HC:=Qk hc;have HTT:=Qk ht;have HLN:=Qk hlen;have hvl:vs.length<=1000000:=by omega
 clear hV hc ht hlen;go_enter Tryz.func134,Tryz.ntmps134;go_upto_region 4 with(first
  |(go_at_call 171;((with_reducible refine(clone_toks A c vs _ HV.out.slice HC.out (by omega)).mono ?_);rintro e w1 ⟨v1,rfl,ho,hb⟩;have HO:=Qk ho;have HB:=Qk hb;clear ho hb))
  |(go_at_call 172;((with_reducible refine(sort_toks HB.out HV.out HO.out (by have:=HLN.out;omega)).mono ?_);rintro e w2 ⟨rfl,vs1,l1,hp,hs,hv,ho,hb⟩;clear HO HB;have HO:=Qk ho;have HB:=Qk hb;have HV1:=Qk hv;have HP:=Qk hp;have HS:=Qk hs;clear ho hb hv hp hs))
  |(go_at_call 174;((with_reducible refine(compact_toks HB.out HV1.out HO.out (by rw[HP.out.length_eq];omega)).mono ?_);rintro e w3 ⟨v3,vs3,rfl,hv,ho,hb⟩;clear HO HB;have HO:=Qk ho;have HB:=Qk hb;have HV2:=Qk hv;clear ho hb hv)))
 have HD:=Qk (isDict_of HP.out (HS.out.imp fun h=>by omega));have hle:vs3.length<=1000000:=by
  have h1:=HV2.out.1;have h2:=adjL_len (l:=l1) l1.length (Nat.le_refl _);rw[List.take_length]at h2;have h3:=HP.out.length_eq;omega
 generalize adjL l1=D at HV2 HD;clear HV1 HP HS;obtain⟨A3,c3,rfl⟩:=ZU HO.out;have HOC:=Qk (own_cellsAt HO.out).1;have HV3:=Qk (HV2.out.below HB.out);have HDT:=Qk (show ∀ t,t∈D->t.length<140737488355328 from fun t h=>HTT.out t (HD.out.2.1 t h));have HDL:=Qk HV2.out.1;clear HO HV2 HTT;have hmk:=make22 vs3.length (by omega);go_upto_region 5 with fail
 have HB4:=Qk (za (Below.refl _ w3) (Obj.cells (madeCells #[Value.slice none 0 0] vs3.length) 22));have HG:=Qk (qv w3 (.cells (madeCells #[Value.slice none 0 0] vs3.length) 22 (0,0)));have HX:=Qk (made_sz (.slice none 0 0) vs3.length);have HSZ:=Qk (show w3.heap.size<(w3.alloc (Obj.cells (madeCells #[Value.slice none 0 0] vs3.length) 22)).heap.size by rw[Z2];omega);have HBW:=HB;have HW4:=Qk HB.out.size;clear HB;generalize w3.alloc (Obj.cells (madeCells #[Value.slice none 0 0] vs3.length) 22)=w4 at HB4 HG HSZ ⊢;generalize madeCells #[Value.slice none 0 0] vs3.length=xs0 at HG HX;go_wp2_with fail
 go_loopw [18] (fun v18 wr=>∃ (i:Nat) (xs:Array Value),i<=vs3.length/\v18=.int .i64 i/\Aside0 (Below w3.heap.size w3 wr)/\Aside0 (w3.heap.size<wr.heap.size)/\Aside0 (wr.heap[w3.heap.size]?=some (.cells xs 22 (0,0)))/\Aside0 (xs.size=vs3.length)/\Aside0 (NewRows wr w3.heap.size xs D i)) (fun v18 _=>vs3.length-(intOf v18).toNat)
 case atStart=>exact⟨0,xs0,by omega,rfl,HB4,HSZ,HG,HX,⟨fun j t hj=>by omega⟩⟩
 case round =>
  clear HB4 HG HX HSZ;obtain⟨i,xs,hi,rfl,HB,HSZ,HG,HX,HN⟩:=hrel;by_cases hlt:i<vs3.length
  ·obtain⟨t,ht⟩:∃ t,D[i]?=some t:=⟨_,List.getElem?_eq_getElem (by have:=HDL.out;omega)⟩
   obtain⟨A1,c1,a1,a2,a3⟩:=HV3.out.2 i t ht;obtain⟨ad,rfl,hz1⟩:=HOC.out i _ a1;have hz1:=zF HB.out hz1;have HA:=Qk (And.intro a2 (Kd.C_below a3 HB.out));have HT:=Qk ht;have HCL:=Qk (show zU.f t=some t by unfold zU.f;rw[if_pos (HDT.out t (List.mem_of_getElem? ht))]);clear a1 a2 a3 ht;have gl:decide ((i:Int)<(vs3.length:Int))=true:=Qm (by omega);have gi0:(0:Int)<=(i:Int):=by omega
   have gi1:(i:Int)<(vs3.length:Int):=by omega
   obtain⟨u0,hzs⟩:∃ u0,wr.cell? ⟨w3.heap.size,i,none⟩=some u0:=⟨_,(zf HG.out i).trans (Array.getElem?_eq_getElem (by have:=HX.out;omega))⟩
   have hfs:=zh HG.out i;go_upto_region 8 with fail
   go_wp2_with (first|(go_at_call 101;((with_reducible refine(zU.calls A1 c1 t t _ HA.out.2 HA.out.1 HCL.out).mono ?_);rintro e w5 ⟨v5,rfl,hv,hb⟩;obtain⟨A5,c5,rfl⟩:=Kd.R_slice hv;have HV5:=Qk hv;have HB5:=Qk hb;have hzs5:w5.cell? ⟨w3.heap.size,i,none⟩=some u0:=zF hb hzs;have hfs5:w5.frozen? ⟨w3.heap.size,i,none⟩=false:=zh (zy HG.out hb) i;clear hv hb)))
   go_roundw
   case rel =>
    refine⟨i+1,xs.setIfInBounds i (.slice A5 t.length c5),by omega,by go_num,⟨zr (zi HB.out HB5.out) (Nat.le_refl _)⟩,⟨?_⟩,⟨q6 (zy HG.out HB5.out) i _⟩,⟨by rw[Array.size_setIfInBounds];exact HX.out⟩,⟨(HN.out.below HB5.out).put (by have:=HX.out;omega) HT.out ?_⟩⟩
    ·exact Zh (q6 (zy HG.out HB5.out) i _)
    ·exact Kd.R_lower (Kd.R_mono (Kd.R_bound HV5.out) (fun k hk=>by have:=hk.2.1;have:=HSZ.out;omega)) (Nat.zero_le _)
   case measure=>simp[intOf];omega
  ·obtain rfl:i=vs3.length:=by omega
   have hge:decide ((vs3.length:Int)<(vs3.length:Int))=false:=Qn (by omega);go_wp2_with fail
   go_ret;exact⟨w3.heap.size,xs.toList,D,by rw[← HDL.out];rfl,HW4.out,by rw[← HDL.out];exact hle,HD.out,HN.out.dict HX.out HDL.out.symm HG.out,zi HBW.out HB.out⟩
theorem place_of{D:List (List Int)}(hs:D.Pairwise (fun a b=>Zt a b<0)){t u:List Int}{k:Nat}(hk:D[k]?=some u)(hu:Zt t u=0){j:Nat}{x:List Int}(hj:D[j]?=some x):Zt x t<0↔j<k:=by
 obtain⟨hkl,rfl⟩:=List.getElem?_eq_some_iff.1 hk;obtain⟨hjl,rfl⟩:=List.getElem?_eq_some_iff.1 hj;have he:Zt D[j] t=Zt D[j] D[k]:=by
  have h1:=(q8 _ _).1 hu;unfold Zt;rw[h1]
 rw[he];have hp:=List.pairwise_iff_getElem.1 hs;constructor
 ·intro h
  by_cases h1:j<k
  ·exact h1
  ·by_cases h2:j=k
   ·subst h2;rw[(q8 _ _).2 rfl]at h;omega
   ·have h3:=hp k j hkl hjl (by omega)
    rw[cmpT_swap]at h;omega
 ·exact fun h=>hp j k hjl hkl h
theorem put_same{α:Type}[Inhabited α](enc:α->Value)(d:Array α)(cur:Array Value)(h:∀ j,j<d.size->cur[j]?=some (enc d[j]!)):Go.Sort.putCells enc 0 d cur=cur:=by
 have hs:(Go.Sort.putCells enc 0 d cur).size=cur.size:=by unfold Go.Sort.putCells;simp
 refine Array.ext_getElem? fun i=>?_
 by_cases h2:i<cur.size
 ·rw[Array.getElem?_eq_getElem h2,Array.getElem?_eq_getElem (by rw[hs];exact h2)]
  unfold Go.Sort.putCells;by_cases hi:i<d.size
  ·have h3:=h i hi
   rw[Array.getElem?_eq_getElem h2,getElem!_pos d i hi]at h3;simp[hi,Qp h3]
  ·simp[hi]
 ·rw[Array.getElem?_eq_none (by omega),Array.getElem?_eq_none (by omega)]
open Go.Sort in
theorem beside_sort{α:Type}[Inhabited α](enc:α->Value)(w:World)(g m:Nat)(d:Array α)(os:Array Obj):Beside g w (sortWorld enc w g 0 m d os):=by
 refine⟨rfl,rfl,rfl,?_,fun k hk hl=>?_⟩
 ·show w.heap.size<=((w.heap.modify g (onCells (putCells enc 0 d)))++os).size
  simp
 ·show ((w.heap.modify g (onCells (putCells enc 0 d)))++os)[k]?=_
  rw[Array.getElem?_append_left (by simpa using hl),Array.getElem?_modify,if_neg (by omega)]
open Go.Sort in
theorem same_sort{α:Type}[Inhabited α](enc:α->Value){w:World}{g:Nat}{cur:Array Value}(hg:w.heap[g]?=some (.cells cur 22 (0,0)))(m:Nat)(d:Array α)(os:Array Obj)(h:∀ j,j<d.size->cur[j]?=some (enc d[j]!)):Below w.heap.size w (sortWorld enc w g 0 m d os):=by
 have hb:=beside_sort enc w g m d os;refine⟨hb.os,hb.tape,hb.output,hb.size,fun k hk=>?_⟩;by_cases e:k=g
 ·subst e
  show ((w.heap.modify k (onCells (putCells enc 0 d)))++os)[k]?=_
  rw[Array.getElem?_append_left (by simpa using hk),Array.getElem?_modify,if_pos rfl,hg]
  show some (Obj.cells (putCells enc 0 d cur) 22 (0,0))=_
  rw[put_same enc d cur h]
 ·exact hb.block k e hk
open Go.Sort in
theorem search_toks {w : World} {g : Nat} {D : List (List Int)} {vs : List Value} (hD : DictAt w g vs D) (hs : D.Pairwise (fun a b => Zt a b < 0)) (hl : D.length < 4611686018427387904) {t u : List Int} {k : Nat} (hk : D[k]? = some u) (hu : Zt t u = 0) {A1 : Option Addr} {c1 : Nat} (hc1 : t.length ≤ c1) (ht : ∀ W, Beside g w W → (Kd.int .u8).C W A1 t.length t) :
    Calls Tryz.prog 204 #[.slice (some ⟨g, 0, none⟩) D.length D.length, .slice A1 t.length c1, .func (.func 173) #[] #[]] w fun e w' => e = .returned (.tuple #[.int .i64 k, .bool true]) ∧ Below w.heap.size w w' := by
  obtain ⟨hlen, hg, hV⟩ := hD
  have hV0 := hV w ⟨rfl, rfl, rfl, Nat.le_refl _, fun _ _ _ => rfl⟩
  obtain ⟨hkl, hku⟩ := List.getElem?_eq_some_iff.1 hk
  have hinh : Inhabited (Fin D.length) := ⟨⟨0, by omega⟩⟩
  have hcur : ∀ i (hi : i < D.length), vs.toArray[i]? = some (vs.getD i (.bool true)) := by
    intro i hi
    rw [List.getElem?_toArray, List.getD_eq_getElem?_getD, List.getElem?_eq_getElem (by omega)]; rfl
  obtain ⟨d0, hd0⟩ : ∃ d0 : Array (Fin D.length), d0 = Array.ofFn (fun i : Fin D.length => i) := ⟨_, rfl⟩
  have hsz : d0.size = D.length := by rw [hd0]; simp
  have hget : ∀ j (hj : j < D.length), d0[j]! = ⟨j, hj⟩ := by
    intro j hj
    rw [getElem!_pos d0 j (by omega)]
    subst hd0
    simp
  have hH : Holds (fun i : Fin D.length => vs.getD i.val (.bool true)) w g 0 d0 := by
    intro j hj
    rw [hsz] at hj
    rw [hget j hj, Nat.zero_add]
    exact ⟨(zf hg j).trans (hcur j hj), zh hg j⟩
  have hcmp : CmpLaysT Tryz.prog 173 #[] (fun i : Fin D.length => vs.getD i.val (.bool true)) (.slice A1 t.length c1) (fun i => Zt D[i] t) g 0 d0.size w := by
    intro m os dk hdk x
    have hBW := beside_sort (fun i : Fin D.length => vs.getD i.val (.bool true)) w g m dk os
    obtain ⟨A0, c0, a1, a2, a3⟩ := (hV _ hBW).2 x.val _ (List.getElem?_eq_getElem x.isLt)
    have e0 : vs.getD x.val (.bool true) = .slice A0 D[x.val].length c0 := by rw [List.getD_eq_getElem?_getD, a1]; rfl
    have hc := bytes_Compare.calls A0 A1 c0 c1 D[x.val] t (sortWorld (fun i : Fin D.length => vs.getD i.val (.bool true)) w g 0 m dk os) a3 (ht _ hBW)
    rw [← e0] at hc
    exact hc.mono fun e w' ⟨he, hw⟩ => ⟨he, 0, #[], by rw [hw, grow_empty]; rfl⟩
  have hpl : ∀ j (hj : j < D.length), Zt D[d0[j]!] t < 0 ↔ j < k := fun j hj => by
    rw [show Zt D[d0[j]!] t = Zt D[j] t from congrArg (fun x : Fin D.length => Zt D[x] t) (hget j hj)]
    exact place_of hs hk hu (List.getElem?_eq_getElem hj)
  have hcnt : d0.toList.countP (fun x => decide (Zt D[x] t < 0)) = k := by
    refine Lib.countP_boundary _ _ _ (by rw [Array.length_toList]; omega) (fun j hj => ?_) (fun j h1 h2 => ?_)
    · have h3 := (hpl j (by omega)).2 hj
      rw [Array.getElem!_toList]
      exact Qm h3
    · rw [Array.length_toList, hsz] at h2
      have h3 := mt (hpl j h2).1 (by omega)
      rw [Array.getElem!_toList]
      exact Qn h3
  have hcall := Any.slices_BinarySearchFunc Tryz.findTok (fun i : Fin D.length => vs.getD i.val (.bool true)) (fun i => by
    obtain ⟨A0, c0, a1, _, _⟩ := hV0.2 i.val _ (List.getElem?_eq_getElem i.isLt)
    show (vs.getD i.val (.bool true)).oneCell' = true
    rw [List.getD_eq_getElem?_getD, a1]; rfl) (.slice A1 t.length c1) (fun i => Zt D[i] t) 173 #[] g 0 D.length d0 w enters173 hcmp hH (Zh hg) (by omega) (fun a b hab hb h => by
      rw [hsz] at hb
      exact (hpl a (by omega)).2 (by have := (hpl b hb).1 h; omega))
  have hargs : (#[.slice (some ⟨g, 0, none⟩) d0.size D.length, .slice A1 t.length c1, .func (.func 173) #[] #[]] : Array Value) = #[.slice (some ⟨g, 0, none⟩) D.length D.length, .slice A1 t.length c1, .func (.func 173) #[] #[]] := by rw [hsz]
  rw [hargs] at hcall
  refine (show Calls Tryz.prog 204 _ _ _ from hcall).mono fun e w' ⟨he, n, os, hw⟩ => ?_
  rw [hcnt] at he
  have h0 : Zt D[d0[k]!] t = 0 := by
    rw [show Zt D[d0[k]!] t = Zt D[k] t from congrArg (fun x : Fin D.length => Zt D[x] t) (hget k hkl), hku, cmpT_swap, hu]; rfl
  rw [Qm (show k < d0.size by omega), Qm h0] at he
  exact ⟨he, by rw [hw]; exact same_sort _ hg n d0 os (fun j hj => by rw [hget j (by omega)]; exact hcur j (by omega))⟩
theorem names_Find.toks{w:World}{g:Nat}{D:List (List Int)}{vs:List Value}(hD:DictAt w g vs D)(hs:D.Pairwise (fun a b=>Zt a b<0))(hl:D.length<4611686018427387904){t u:List Int}{k:Nat}(hk:D[k]?=some u)(hu:Zt t u=0){A1:Option Addr}{c1:Nat}(hc1:t.length<=c1)(ht:∀ W,Beside g w W->(Kd.int .u8).C W A1 t.length t) :
 Calls Tryz.prog 176 #[.slice (some ⟨g,0,none⟩) D.length D.length,.slice A1 t.length c1] w fun e w'=>e=.returned (.tuple #[.int .i64 k,.bool true])/\Below w.heap.size w w':=by
 have H:=Qk (search_toks hD hs hl hk hu hc1 ht);clear hD hs hl hk hu hc1 ht;go_enter Tryz.func176,Tryz.ntmps176;go_wp2_with (first|(go_at_call 204;((with_reducible refine H.out.mono ?_);rintro e w2 ⟨rfl,hb⟩)))
 go_ret2;exact⟨rfl,hb⟩
def idT(D:List (List Int))(t:List Int):Nat:=D.findIdx fun u=>decide (Zt t u=0)
theorem idT_at{D:List (List Int)}{t:List Int}(h:∃ u,u∈D/\Zt t u=0):∃ u,D[idT D t]?=some u/\Zt t u=0:=by
 obtain⟨u,hu,hz⟩:=h;have hl:idT D t<D.length:=List.findIdx_lt_length_of_exists ⟨u,hu,Qm hz⟩;exact⟨D[idT D t],List.getElem?_eq_getElem hl,Ql (List.findIdx_getElem (w:=hl))⟩
theorem make25(n:Nat)(hn:n<=1000000000):∀ W:World,(Instr.makeSlice 25 (.int .i64 (n:Int)) (.int .i64 (n:Int))).run Tryz.prog W=.ok (.slice (some ⟨W.heap.size,0,none⟩) n n) (W.alloc (.cells (madeCells #[.int .i64 0] n) 3)):=by
 intro W;obtain⟨i0,hi,hz0,hz1,hz2⟩:=info_parts info3;have hr:=run_make (P:=Tryz.prog) W 25 3 i0 _ Tryz.underlying25 hi hz0 .i64 .i64 (n:Int) (n:Int) (by omega) (by omega) (by rw[hz2];omega) (by omega);rw[hz1]at hr;simp only[Int.toNat_natCast,Nat.mul_one]at hr;exact hr
theorem names_Ids.toks{w:World}{g:Nat}{D:List (List Int)}{vs:List Value}(hD:DictAt w g vs D)(hs:D.Pairwise (fun a b=>Zt a b<0))(hl:D.length<4611686018427387904){l:List (List Int)}{us:List Value}{A:Option Addr}{c:Nat}(hll:l.length<=1000000)(hV:∀ W,Beside g w W->Vals W us l)(hc:CellsAt w A us)(hin:∀ t,t∈l->∃ u,u∈D/\Zt t u=0) :
 Calls Tryz.prog 136 #[.slice (some ⟨g,0,none⟩) D.length D.length,.slice A us.length c] w fun e w'=>∃ v,e=.returned (.tuple #[v,.bool true])/\(Kd.int .i64).R 3 w' w.heap.size (fun _=>True) v (l.map fun t=>(idT D t:Int))/\Below w.heap.size w w':=by
 have hV0:=hV w ⟨rfl,rfl,rfl,Nat.le_refl _,fun _ _ _=>rfl⟩;have HDA:=Qk hD;have HS:=Qk (And.intro hs hl);have HV:=Qk hV;have HV0:=Qk hV0;have HC:=Qk hc;have HIN:=Qk hin;have HUL:=Qk hV0.1;have hul:us.length<=1000000:=by have:=hV0.1;omega
 have HLL:=Qk hll;clear hD hs hl hV hc hin hV0 hll;have hmk:=make25 us.length (by omega);have HB:=Qk (za (Below.refl w.heap.size w) (Obj.cells (madeCells #[Value.int .i64 0] us.length) 3));have HG:=Qk (qv w (.cells (madeCells #[.int .i64 0] us.length) 3 (0,0)));have HX:=Qk (made_sz (.int .i64 0) us.length);go_enter Tryz.func136,Tryz.ntmps136;go_upto_region 2 with fail
 generalize w.alloc (Obj.cells (madeCells #[Value.int .i64 0] us.length) 3)=w1 at HB HG ⊢;generalize madeCells #[Value.int .i64 0] us.length=xs0 at HG HX;go_wp2_with fail
 go_loopw [16] (fun v16 wr=>∃ (i:Nat) (xs:Array Value),i<=us.length/\v16=.int .i64 i/\Aside0 (Below w.heap.size w wr)/\Aside0 (wr.heap[w.heap.size]?=some (.cells xs 3 (0,0)))/\Aside0 (xs.size=us.length)/\Aside0 (∀ j t,j<i->l[j]?=some t->xs[j]?=some (.int .i64 (idT D t)))) (fun v16 _=>us.length-(intOf v16).toNat)
 case atStart=>exact⟨0,xs0,by omega,rfl,HB,HG,HX,⟨fun j t hj=>by omega⟩⟩
 case round =>
  clear HB HG HX;obtain⟨i,xs,hi,rfl,HB,HG,HX,HN⟩:=hrel;by_cases hlt:i<us.length
  ·obtain⟨t,ht⟩:∃ t,l[i]?=some t:=⟨_,List.getElem?_eq_getElem (by have:=HUL.out;omega)⟩
   obtain⟨A1,c1,a1,a2,a3⟩:=HV0.out.2 i t ht;obtain⟨ad,rfl,hz1⟩:=HC.out i _ a1;have hz1:=zF HB.out hz1;obtain⟨u,hu1,hu2⟩:=idT_at (HIN.out t (List.mem_of_getElem? ht));have HF:=Qk (names_Find.toks (HDA.out.below HB.out) HS.out.1 HS.out.2 hu1 hu2 a2 (fun W hW=>by
    obtain⟨A2,c2,b1,b2,b3⟩:=(HV.out W (hW.after HB.out)).2 i t ht;rw[a1]at b1;injection Qp b1 with e1 e2 e3
    subst e1;exact b3))
   have HT:=Qk ht;clear a1 a2 a3 ht hu1 hu2;have gl:decide ((i:Int)<(us.length:Int))=true:=Qm (by omega);have gi0:(0:Int)<=(i:Int):=by omega
   have gi1:(i:Int)<(us.length:Int):=by omega
   go_upto_region 6 with(first|(go_at_call 176;((with_reducible refine HF.out.mono ?_);rintro e w2 ⟨rfl,hb⟩;have HB5:=Qk hb;clear hb)))
   obtain⟨u0,hzs⟩:∃ u0,w2.cell? ⟨w.heap.size,i,none⟩=some u0:=⟨_,(zf (zy HG.out HB5.out) i).trans (Array.getElem?_eq_getElem (by have:=HX.out;omega))⟩
   have hfs:=zh (zy HG.out HB5.out) i;go_wp2_with fail
   go_roundw
   case rel =>
    refine⟨i+1,xs.setIfInBounds i (.int .i64 (idT D t)),by omega,by go_num,⟨zr (zi HB.out HB5.out) (Nat.le_refl _)⟩,⟨q6 (zy HG.out HB5.out) i _⟩,⟨by rw[Array.size_setIfInBounds];exact HX.out⟩,⟨fun j t' hj ht'=>?_⟩⟩
    by_cases e:j=i
    ·subst e
     have h1:=HT.out;rw[ht']at h1;obtain rfl:=Qp h1;rw[Array.getElem?_setIfInBounds_self_of_lt (by have:=HX.out;omega)]
    ·rw[Array.getElem?_setIfInBounds_ne (by omega)]
     exact HN.out j t' (by omega) ht'
   case measure=>simp[intOf];omega
  ·obtain rfl:i=us.length:=by omega
   have hge:decide ((us.length:Int)<(us.length:Int))=false:=Qn (by omega);go_wp2_with fail
   go_ret2;refine⟨.slice (some ⟨w.heap.size,0,none⟩) us.length us.length,rfl,Kd.R_of_own ?_ (fun _ _=>trivial),HB.out⟩;have hul2:=HUL.out;refine⟨by simp[encs],.inr ⟨w.heap.size,us.length,xs,by rw[List.length_map,hul2],Nat.le_refl _,HG.out,by rw[List.length_map];omega,by unfold maxLen;omega,by rw[HX.out,Nat.mul_one],?_⟩⟩
   refine List.ext_getElem? fun j=>?_
   by_cases hj:j<l.length
   ·rw[List.getElem?_take,if_pos (by rw[List.length_map];omega),Array.getElem?_toList,HN.out j _ (by omega) (List.getElem?_eq_getElem hj)]
    simp[encs,hj]
   ·rw[List.getElem?_eq_none (by rw[List.length_take,List.length_map];omega),List.getElem?_eq_none (by simp[encs];omega)]
end Go.Proofs.YtdiojfaenfggkaaGreat.PTopNear
namespace Go.Proofs.YtdiojfaenfggkaaGreat.PTopNear
open Go.RowKit Go.Proofs.YtdiojfaenfggkaaGreatW.PrintWords Go.Proofs.YtdiojfaenfggkaaGreatW.PrintLast Go.Proofs.YtdiojfaenfggkaaGreatW.PrintMore
attribute [local go_sem] qW qU Zg Zf qK qJ qV qT
set_option linter.unusedVariables false
set_option linter.unusedSimpArgs false
theorem Zn.toks{w:World}{l0 l1:List (List Int)}{v0 v1:List Value}{A0 A1:Option Addr}{c0 c1:Nat}(hV0:Vals w v0 l0)(hV1:Vals w v1 l1)(hc0:CellsAt w A0 v0)(hc1:CellsAt w A1 v1)(hl:l0.length+l1.length<=1000000)(ht:∀ t,t∈l0++l1->t.length<140737488355328) :
 Calls Tryz.prog 80 #[.slice A0 v0.length c0,.slice A1 v1.length c1] w fun e w'=>∃ x y D,e=.returned (.tuple #[x,y,.int .i64 (D.length:Nat)])/\IsDict (l0++l1) D/\(Kd.int .i64).R 3 w' w.heap.size (fun k=>some k≠y.ownBlock) x (l0.map fun t=>(idT D t:Int))/\(Kd.int .i64).R 3 w' w.heap.size (fun k=>some k≠x.ownBlock) y (l1.map fun t=>(idT D t:Int))/\Below w.heap.size w w':=by
 have H0:=Qk (And.intro hV0 hc0);have H1:=Qk (And.intro hV1 hc1);have HL:=Qk hl;have HT:=Qk ht;have HN0:=Qk (show v0.length<=1000000 by have:=hV0.1;omega);have HN1:=Qk (show v1.length<=1000000 by have:=hV1.1;omega);have HLA:=Qk (show (l0++l1).length<=1000000 by rw[List.length_append];omega);have HL0:=Qk (show l0.length<=1000000 by omega);have HL1:=Qk (show l1.length<=1000000 by omega);clear hV0 hV1 hc0 hc1 hl ht;go_enter Tryz.func80,Tryz.ntmps80;have HBA:=Qk (za (Below.refl w.heap.size w) (Obj.cells #[.slice A0 v0.length c0,.slice A1 v1.length c1] 60 (0,0)));have HG:=Qk (qv w (.cells #[.slice A0 v0.length c0,.slice A1 v1.length c1] 60 (0,0)));generalize hw1:w.alloc (.cells #[.slice A0 v0.length c0,.slice A1 v1.length c1] 60 (0,0))=w1 at HBA HG;have HW1:=Qk hw1;clear hw1;go_upto_region 2 with(first
  |(go_at_call 135;rw[HW1.out];((with_reducible refine(concat_toks w.heap.size A0 A1 c0 c1 v0 v1 w1 HG.out (H0.out.2.below HBA.out) (H1.out.2.below HBA.out) (H0.out.1.slice) (H1.out.1.slice) HN0.out HN1.out).mono ?_);rintro e w2 ⟨v2,rfl,ho,hb⟩;obtain⟨A2,c2,rfl⟩:=ZU ho;have HO:=Qk (own_cellsAt ho).1;have HB:=Qk (zi HBA.out hb);have HVV:=Qk ((H0.out.1.append H1.out.1).below HB.out);clear ho hb;generalize v0++v1=vv at HO HVV ⊢))
  |(go_at_call 134;((with_reducible refine(names_Sort.toks A2 c2 vv (l0++l1) w2 HVV.out HO.out HLA.out HT.out).mono ?_);rintro e w3 ⟨g,vs3,D,rfl,hg,hdl,hd,hda,hb⟩;have HDL:=Qk hdl;have HGG:=Qk (Nat.le_trans HB.out.size hg);have HD:=Qk hd;have HDA:=Qk hda;have HB3:=Qk (zi HB.out hb);clear hg hdl hd hda hb)))
 have HC0:=Qk (names_Ids.toks (c:=c0) HDA.out HD.out.1 (by have:=HDL.out;omega) HL0.out (fun W hW=>H0.out.1.below (hW.below HB3.out HGG.out)) (H0.out.2.below HB3.out) (fun t ht=>HD.out.2.2 t (List.mem_append_left _ ht)));have HC1:=Qk (fun(w4:World) (hb:Below w3.heap.size w3 w4)=>names_Ids.toks (c:=c1) (HDA.out.below hb) HD.out.1 (by have:=HDL.out;omega) HL1.out (fun W hW=>H1.out.1.below (hW.below (zi HB3.out hb) HGG.out)) (H1.out.2.below (zi HB3.out hb)) (fun t ht=>HD.out.2.2 t (List.mem_append_right _ ht)));go_upto_region 3 with(first|(go_at_call 136;((with_reducible refine HC0.out.mono ?_);rintro e w4 ⟨x,rfl,hx,hb⟩;have HXR:=Qk hx;have HB4:=Qk hb;clear hx hb)))
 go_upto_region 4 with(first|(go_at_call 136;((with_reducible refine(HC1.out _ HB4.out).mono ?_);rintro e w5 ⟨y,rfl,hy,hb⟩;have HYR:=Qk hy;have HB5:=Qk hb;clear hy hb)))
 go_wp2_with fail
 go_ret3
 refine⟨x,y,D,rfl,HD.out,?_,?_,zi (zi HB3.out HB4.out) HB5.out⟩
 ·refine Kd.R_lower (Kd.R_mono (Kd.R_below (Kd.R_bound HXR.out) HB5.out) fun k hk e=>?_) HB3.out.size
  have h1:=Kd.R_base HYR.out k e.symm;have:=hk.2.2.1;omega
 ·refine Kd.R_lower (Kd.R_mono (Kd.R_bound HYR.out) fun k hk e=>?_) (Nat.le_trans HB3.out.size HB4.out.size)
  have h1:=Kd.R_lt HXR.out k e.symm;have:=hk.2.1;omega
end Go.Proofs.YtdiojfaenfggkaaGreat.PTopNear
namespace Go.Proofs.YtdiojfaenfggkaaGreat.PTopNear
open Go.RowKit Go.Proofs.YtdiojfaenfggkaaGreatW.PrintWords Go.Proofs.YtdiojfaenfggkaaGreatW.PrintLast Go.Proofs.YtdiojfaenfggkaaGreatW.PrintMore
attribute [local go_sem] qW qU Zg Zf qK qJ qV qT
set_option linter.unusedVariables false
set_option linter.unusedSimpArgs false
def dedB:List (List UInt8)->List (List UInt8)
 |[]=>[]
 |b::r=>if b∈dedB r then dedB r else b::dedB r
theorem dedB_mem:∀ (l:List (List UInt8)) (x:List UInt8),x∈dedB l↔x∈l
 |[],x=>by simp[dedB]
 |b::r,x=>by
  unfold dedB;have h:=dedB_mem r;split
  ·next hb =>
   rw[h,List.mem_cons];constructor
   ·exact .inr
   ·rintro(rfl|h1)
    ·exact(h _).1 hb
    ·exact h1
  ·rw[List.mem_cons,List.mem_cons,h]
theorem dedB_nodup:∀ (l:List (List UInt8)),(dedB l).Nodup
 |[]=>by simp[dedB]
 |b::r=>by
  unfold dedB;split
  ·exact dedB_nodup r
  ·next hb=>exact List.nodup_cons.2 ⟨hb,dedB_nodup r⟩
def rkT(l:List (List Int))(t:List Int):Nat:=(dedB (l.map Lib.bytesOf)).countP fun b=>decide (Lib.compareBytes b (Lib.bytesOf t)<0)
def cardT(l:List (List Int)):Nat:=(dedB (l.map Lib.bytesOf)).length
theorem dict_perm{l D:List (List Int)}(h:IsDict l D):(D.map Lib.bytesOf).Perm (dedB (l.map Lib.bytesOf)):=by
 have hn:(D.map Lib.bytesOf).Nodup:=by
  rw[List.Nodup,List.pairwise_map];refine h.1.imp fun {a b} hab e=>?_
  rw[(q8 a b).2 e]at hab;omega
 rw[List.perm_iff_count];intro x;rw[hn.count,(dedB_nodup _).count];have hiff:x∈D.map Lib.bytesOf↔x∈dedB (l.map Lib.bytesOf):=by
  rw[dedB_mem,List.mem_map,List.mem_map];constructor
  ·rintro⟨z,hz,rfl⟩
   exact⟨z,h.2.1 z hz,rfl⟩
  ·rintro⟨z,hz,rfl⟩
   obtain⟨u,hu,e⟩:=h.2.2 z hz;exact⟨u,hu,((q8 z u).1 e).symm⟩
 simp only[hiff]
theorem dict_len{l D:List (List Int)}(h:IsDict l D):D.length=cardT l:=by
 have:=(dict_perm h).length_eq;rw[List.length_map]at this;exact this
theorem dict_idT {l D : List (List Int)} (h : IsDict l D) {t : List Int} (ht : t ∈ l) : idT D t = rkT l t := by
  obtain ⟨u, hu, hz⟩ := idT_at (h.2.2 t ht)
  have hk : idT D t < D.length := (List.getElem?_eq_some_iff.1 hu).1
  have h1 : D.countP (fun x => decide (Zt x t < 0)) = idT D t := by
    have hg : ∀ j (hj : j < D.length), D[j]! = D[j] := fun j hj => getElem!_pos D j hj
    refine Lib.countP_boundary _ _ _ (by omega) (fun j hj => ?_) (fun j h1 h2 => ?_)
    · rw [hg j (by omega)]
      exact Qm ((place_of h.1 hu hz (List.getElem?_eq_getElem (show j < D.length by omega))).2 hj)
    · rw [hg j h2]
      exact Qn fun h3 => by have := (place_of h.1 hu hz (List.getElem?_eq_getElem h2)).1 h3; omega
  rw [← h1]
  unfold rkT
  rw [← (dict_perm h).countP_eq, List.countP_map]
  rfl
def Zn.f(l0 l1:List (List Int)):Option (List Int×List Int×Int) :=
 if l0.length+l1.length<=1000000/\∀ t,t∈l0++l1->t.length<140737488355328 then some (l0.map (fun t=>(rkT (l0++l1) t:Int)),l1.map (fun t=>(rkT (l0++l1) t:Int)),(cardT (l0++l1):Int))else none
theorem Zn.calls{e0 e1:Nat}(A0:Option Addr)(c0:Nat)(l0:List (List Int))(A1:Option Addr)(c1:Nat)(l1:List (List Int))(r1 r2:List Int)(r3:Int)(w:World)(hr0:Kd.C (Kd.slice e0 (Kd.int .u8)) w A0 l0.length l0)(hr1:Kd.C (Kd.slice e1 (Kd.int .u8)) w A1 l1.length l1)(h:Zn.f l0 l1=some (r1,r2,r3)) :
 Calls Tryz.prog 80 #[.slice A0 l0.length c0,.slice A1 l1.length c1] w fun e w'=>∃ x y,e=.returned (.tuple #[x,y,.int .i64 r3])/\(Kd.int .i64).R 3 w' w.heap.size (fun k=>some k≠y.ownBlock) x r1/\(Kd.int .i64).R 3 w' w.heap.size (fun k=>some k≠x.ownBlock) y r2/\Below w.heap.size w w':=by
 unfold Zn.f at h;split at h
 ·next hc =>
  injection h with h
  injection h with h1 h
  injection h with h2 h3
  obtain⟨_,_,v0,a1,a2⟩:=vals_of_C hr0;obtain⟨_,_,v1,b1,b2⟩:=vals_of_C hr1;have hT:=Zn.toks (c0:=c0) (c1:=c1) a1 b1 a2 b2 hc.1 hc.2;rw[a1.1,b1.1]at hT;refine hT.mono fun e w' ⟨x,y,D,he,hd,hx,hy,hb⟩=>⟨x,y,?_,?_,?_,hb⟩
  ·rw[he,dict_len hd,h3]
  ·rw[← h1]
   rwa [show (l0.map fun t=>(rkT (l0++l1) t:Int))=l0.map fun t=>(idT D t:Int)from List.map_congr_left fun t ht=>by rw[dict_idT hd (List.mem_append_left _ ht)]]
  ·rw[← h2]
   rwa [show (l1.map fun t=>(rkT (l0++l1) t:Int))=l1.map fun t=>(idT D t:Int)from List.map_congr_left fun t ht=>by rw[dict_idT hd (List.mem_append_right _ ht)]]
 ·cases h
theorem cells_int{w:World}{a:Addr}{n:Nat}{xs:List Int}(h:Kd.C (Kd.int .i64) w (some a) n xs):∀ i,i<n->w.cell? (a.add i)=some (.int .i64 (xs.getD i 0)):=by
 intro i hi;obtain⟨ad,e,hc⟩:=(Kd.reads_of_C (d:=(0:Int)) h).2.2 (by omega);obtain rfl:=Qp e;exact hc i hi
theorem none_int{w:World}{n:Nat}{xs:List Int}(h:Kd.C (Kd.int .i64) w none n xs):xs=[]:=by
 have h:=Kd.reads_of_C (d:=(0:Int)) h
 rcases Nat.eq_zero_or_pos n with h0|h0
 ·exact List.eq_nil_of_length_eq_zero (by rw[h.1,h0])
 ·obtain⟨ad,e,_⟩:=h.2.2 h0
  cases e
theorem clone_ints(A:Option Addr)(c:Nat)(l:List Int)(w:World)(hr:Kd.C (Kd.int .i64) w A l.length l)(hl:l.length*8<=140737488355328) :
 Calls Tryz.prog 139 #[.slice A l.length c] w fun e w'=>∃ v,e=.returned v/\(Kd.int .i64).R 3 w' w.heap.size (fun _=>True) v l/\Below w.heap.size w w':=by
 have q25:∀ (w:World) (a:Option Addr) (n c n' c':Nat),(binOp .eql 25 (.slice a n c) (.slice none n' c')).run Tryz.prog w=.ok (.bool a.isNone) w:=fun w a n c n' c'=>Lib.run_eql_slice_nil w _ _ a n c n' c' Tryz.underlying25
 cases A with
 |none =>
  have h0:=none_int hr;subst h0;go_enter Tryz.func139,Tryz.ntmps139;go_wp2;go_ret;exact⟨_,rfl,Kd.R_nil _ _ _ _ _,Below.refl _ _⟩
 |some a =>
  have HC:=Qk (show ∀ (i:Nat) (u:Value),(l.map (Value.int .i64))[i]?=some u->w.cell? (a.add i)=some u from fun i u hi=>by
   have hl:i<l.length:=by have:=(List.getElem?_eq_some_iff.1 hi).1;simpa using this
   rw[cells_int hr i hl];simp[hl]at hi;rw[← hi,List.getD_eq_getElem?_getD,List.getElem?_eq_getElem hl];rfl)
  clear hr;have u25:∀ w,Sem.run Tryz.prog (underlying 25) w=.ok (TypeDesc.slice 3) w:=run_underlying Tryz.underlying25
  obtain⟨i0,hi,hz0,hz1,hz2⟩:=info_parts info3;have z3:∀ w,Sem.run Tryz.prog (Go.sizeOf 3) w=.ok 1 w:=fun w=>by simp[Go.sizeOf,typeInfo,hi,hz1]
  go_enter Tryz.func139,Tryz.ntmps139;go_wp2_with (at_builtin;refine wpList_append_own _ rfl _ _ 25 rfl w.heap.size 3 i0 (.int .i64 0) 1 8 Tryz.underlying25 hi hz0 hz1 hz2 rfl (by decide) _ _ _ rfl (World.ownsRow_made w #[] 0 (Nat.le_refl _) (Nat.zero_le _) rfl) a l.length c (l.map (Value.int .i64)) rfl ?qc1 ?qc2 ?qc3 ?qc4 ?qc5 ?qc6 ?_)
  case qc1=>simp
  case qc2 =>
   intro j u hj;exact Lib.cell?_alloc_some _ (HC.out j u hj)
  case qc3=>intro u hu;obtain⟨n,_,rfl⟩:=List.mem_map.1 hu;rfl
  case qc4=>unfold maxLen;omega
  case qc5=>omega
  case qc6=>simp
  intro v' w1 hown hgrow hnil;go_wp2;go_ret;refine⟨v',rfl,Kd.R_of_own (by simpa [encs]using hown) (fun _ _=>trivial),?_⟩;exact((Below.refl _ w).alloc (Nat.le_refl _) _).grown hgrow (by simp) (by intro k hk;simp[Value.ownBlock]at hk;omega)
def lcpN:List Int->List Int->Nat
 |x::a,y::b=>if x=y then lcpN a b+1 else 0
 |_,_=>0
theorem lcpN_le:∀ a b,lcpN a b<=a.length/\lcpN a b<=b.length
 |[],b=>by simp[lcpN]
 |x::a,[]=>by simp[lcpN]
 |x::a,y::b=>by
  unfold lcpN;have:=lcpN_le a b;split <;> simp <;> omega
theorem lcpN_next:∀ (a b:List Int) (i:Nat),i<=lcpN a b->i<a.length->i<b.length->(rd a i=rd b i↔i<lcpN a b)
 |[],b,i,_,h,_=>by simp at h
 |x::a,[],i,_,_,h=>by simp at h
 |x::a,y::b,0,_,_,_=>by
  unfold lcpN;split
  ·next e=>simp[rd,e]
  ·next e=>simp[rd,e]
 |x::a,y::b,i+1,h,h1,h2=>by
  unfold lcpN at h ⊢;split at h
  ·next e =>
   have ih:=lcpN_next a b i (by omega) (by simpa using h1) (by simpa using h2);have e1:rd (x::a) ((i+1:Nat):Int)=rd a i:=by simp[rd]
   have e2:rd (y::b) ((i+1:Nat):Int)=rd b i:=by simp[rd]
   rw[e1,e2,ih,if_pos e];omega
  ·omega
def zS.p(a b:List Int):Nat:=lcpN a b
def zS.s(a b:List Int):Nat:=lcpN (a.drop (lcpN a b)).reverse (b.drop (lcpN a b)).reverse
theorem rd_rev(a:List Int)(i:Nat)(h:i<a.length):rd a.reverse i=rd a ((a.length-1-i:Nat):Int):=by
 unfold rd;rw[Int.toNat_natCast,Int.toNat_natCast,List.getD_eq_getElem?_getD,List.getD_eq_getElem?_getD,List.getElem?_reverse h]
theorem zS.calls(A0:Option Addr)(c0:Nat)(l0:List Int)(A1:Option Addr)(c1:Nat)(l1:List Int)(w:World)(hr0:Kd.C (Kd.int .i64) w A0 l0.length l0)(hc0:l0.length<=c0)(hr1:Kd.C (Kd.int .i64) w A1 l1.length l1)(hc1:l1.length<=c1)(hl0:l0.length<=1000000)(hl1:l1.length<=1000000) :
 Calls Tryz.prog 85 #[.slice A0 l0.length c0,.slice A1 l1.length c1] w fun e w'=>e=.returned (.tuple #[.int .i64 (zS.p l0 l1:Nat),.int .i64 (zS.s l0 l1:Nat)])/\Below w.heap.size w w':=by
 have H0:=Qk hr0;have H1:=Qk hr1;have HC0:=Qk hc0;have HC1:=Qk hc1;clear hr0 hr1 hc0 hc1;unfold zS.p zS.s;obtain⟨q1,q2⟩:=lcpN_le l0 l1;have HN:=Qk (lcpN_next l0 l1);obtain⟨pp,hpp⟩:∃ pp,lcpN l0 l1=pp:=⟨_,rfl⟩
 rw[hpp]at HN q1 q2;rw[hpp];clear hpp;obtain⟨y0,hy0⟩:∃ y0,l0.drop pp=y0:=⟨_,rfl⟩
 obtain⟨y1,hy1⟩:∃ y1,l1.drop pp=y1:=⟨_,rfl⟩
 rw[hy0,hy1];obtain⟨q3,q4⟩:=lcpN_le y0.reverse y1.reverse;rw[List.length_reverse]at q3 q4;have HN2:=Qk (lcpN_next y0.reverse y1.reverse);obtain⟨ss,hss⟩:∃ ss,lcpN y0.reverse y1.reverse=ss:=⟨_,rfl⟩
 rw[hss]at HN2 q3 q4;rw[hss];clear hss;have hn0:y0.length<=1000000:=by rw[← hy0,List.length_drop];omega
 have hn1:y1.length<=1000000:=by rw[← hy1,List.length_drop];omega
 have HD0:=Qk hy0;have HD1:=Qk hy1;clear hy0 hy1;go_enter Tryz.func85,Tryz.ntmps85;go_upto_block 0 with(fail)
 go_cut [4] (fun v4 wc=>v4=.int .i64 (pp:Nat)/\Aside0 (Below w.heap.size w wc))
 case first =>
  go_wp2;go_loopw [4] (fun v4 wr=>∃ i:Nat,i<=pp/\v4=.int .i64 i/\Aside0 (Below w.heap.size w wr)) (fun v4 _=>pp-(intOf v4).toNat)
  case atStart=>exact⟨0,by omega,rfl,⟨Below.refl _ _⟩⟩
  case round =>
   obtain⟨i,hi,rfl,HB⟩:=hrel;have c0b:(0:Int)<=(i:Int):=by omega
   by_cases ha:i<l0.length
   ·have c4b:decide ((i:Int)<(l0.length:Int))=true:=Qm (by omega)
    have c4i:(i:Int)<(l0.length:Int):=by omega
    by_cases hb:i<l1.length
    ·have c5b:decide ((i:Int)<(l1.length:Int))=true:=Qm (by omega)
     have c5i:(i:Int)<(l1.length:Int):=by omega
     have hn:=HN.out i hi ha hb;obtain⟨ad0,rfl,hx0⟩:=Kd.at_int (Kd.C_below H0.out HB.out) (i:Int) (by omega) (by omega);obtain⟨ad1,rfl,hx1⟩:=Kd.at_int (Kd.C_below H1.out HB.out) (i:Int) (by omega) (by omega);rw[Int.toNat_natCast]at hx0 hx1;by_cases he:rd l0 i=rd l1 i
     ·have c7b:((rd l0 i) == (rd l1 i))=true:=beq_iff_eq.mpr he
      have hlt:=hn.1 he;clear hn he;go_wp2;repeat(go_quiet (fail);try go_wp2)
      go_roundw
      case rel=>exact⟨i+1,by omega,by go_num,⟨zb HB.out _⟩⟩
      case measure=>simp[intOf];omega
     ·have c7b:((rd l0 i) == (rd l1 i))=false:=beq_eq_false_iff_ne.mpr he
      have hlt:=mt hn.2 he;obtain rfl:i=pp:=by omega
      clear hn he;go_wp2;repeat(go_quiet (fail);try go_wp2)
      go_meet
      case rel=>exact⟨rfl,⟨zb HB.out _⟩⟩
    ·have c5b:decide ((i:Int)<(l1.length:Int))=false:=Qn (by omega)
     obtain rfl:i=pp:=by omega
     go_wp2;repeat(go_quiet (fail);try go_wp2)
     go_meet
     case rel=>exact⟨rfl,⟨zb HB.out _⟩⟩
   ·have c4b:decide ((i:Int)<(l0.length:Int))=false:=Qn (by omega)
    obtain rfl:i=pp:=by omega
    go_wp2;repeat(go_quiet (fail);try go_wp2)
    go_meet
    case rel=>exact⟨rfl,⟨zb HB.out _⟩⟩
 case rest =>
  obtain⟨rfl,HB⟩:=hcut;obtain⟨i0,hi0,_,hsz0,_⟩:=info_parts info3;obtain⟨A2,hcut0,hA2,hC2⟩:=Qb (P:=Tryz.prog) (Value.int .i64) 0 25 3 .i64 Tryz.underlying25 hi0 hsz0 A0 c0 l0 (pp:Int) (by omega) (by omega) HC0.out;obtain⟨A3,hcut1,hA3,hC3⟩:=Qb (P:=Tryz.prog) (Value.int .i64) 0 25 3 .i64 Tryz.underlying25 hi0 hsz0 A1 c1 l1 (pp:Int) (by omega) (by omega) HC1.out;have HY0:=Qk (Kd.C_of_reads (h1:=fun _=>rfl) (hA2 _ (Kd.reads_of_C (Kd.C_below H0.out HB.out))));have HY1:=Qk (Kd.C_of_reads (h1:=fun _=>rfl) (hA3 _ (Kd.reads_of_C (Kd.C_below H1.out HB.out))));rw[Int.toNat_natCast,HD0.out]at hcut0 HY0;rw[Int.toNat_natCast,HD1.out]at hcut1 HY1;clear hA2 hA3 hC2 hC3 hi0 hsz0 HN;go_wp2;repeat(go_quiet (fail);try go_wp2)
  go_loopw [5] (fun v5 wr=>∃ i:Nat,i<=ss/\v5=.int .i64 i/\Aside0 (Below wc.heap.size wc wr)) (fun v5 _=>ss-(intOf v5).toNat)
  case atStart=>exact⟨0,by omega,rfl,⟨zb (Below.refl _ _) _⟩⟩
  case round =>
   obtain⟨i,hi,rfl,HB2⟩:=hrel;have HBE:=Qk (zi HB.out HB2.out);by_cases ha:i<y0.length
   ·have c4b:decide ((i:Int)<(y0.length:Int))=true:=Qm (by omega)
    by_cases hb:i<y1.length
    ·have c5b:decide ((i:Int)<(y1.length:Int))=true:=Qm (by omega)
     have hn:=HN2.out i hi (by rw[List.length_reverse];exact ha) (by rw[List.length_reverse];exact hb);rw[rd_rev y0 i ha,rd_rev y1 i hb]at hn;obtain⟨k0,hk0⟩:∃ k0,y0.length-1-i=k0:=⟨_,rfl⟩
     obtain⟨k1,hk1⟩:∃ k1,y1.length-1-i=k1:=⟨_,rfl⟩
     rw[hk0,hk1]at hn;have e0:IntKind.i64.wrap ((y0.length:Int)-1)=(y0.length:Int)-1:=IntWalk.i64_in _ (by omega);have e1:IntKind.i64.wrap ((y1.length:Int)-1)=(y1.length:Int)-1:=IntWalk.i64_in _ (by omega);have e2:IntKind.i64.wrap ((y0.length:Int)-1-(i:Int))=(k0:Int):=by rw[IntWalk.i64_in _ (by omega)];omega
     have e3:IntKind.i64.wrap ((y1.length:Int)-1-(i:Int))=(k1:Int):=by rw[IntWalk.i64_in _ (by omega)];omega
     have f0:(0:Int)<=(k0:Int):=by omega
     have f1:(0:Int)<=(k1:Int):=by omega
     have f2:(k0:Int)<(y0.length:Int):=by omega
     have f3:(k1:Int)<(y1.length:Int):=by omega
     obtain⟨ad0,rfl,hx0⟩:=Kd.at_int (Kd.C_below HY0.out HB2.out) (k0:Int) f0 f2;obtain⟨ad1,rfl,hx1⟩:=Kd.at_int (Kd.C_below HY1.out HB2.out) (k1:Int) f1 f3;rw[Int.toNat_natCast]at hx0 hx1;clear hk0 hk1;by_cases he:rd y0 k0=rd y1 k1
     ·have c7b:((rd y0 k0) == (rd y1 k1))=true:=beq_iff_eq.mpr he
      have hlt:=hn.1 he;clear hn he;go_wp2;repeat(go_quiet (fail);try go_wp2)
      go_roundw
      case rel=>exact⟨i+1,by omega,by go_num,⟨zb HB2.out _⟩⟩
      case measure=>simp[intOf];omega
     ·have c7b:((rd y0 k0) == (rd y1 k1))=false:=beq_eq_false_iff_ne.mpr he
      have hlt:=mt hn.2 he;obtain rfl:i=ss:=by omega
      clear hn he;go_wp2;repeat(go_quiet (fail);try go_wp2)
      go_ret2;exact⟨rfl,zb HBE.out _⟩
    ·have c5b:decide ((i:Int)<(y1.length:Int))=false:=Qn (by omega)
     obtain rfl:i=ss:=by omega
     go_wp2;repeat(go_quiet (fail);try go_wp2)
     go_ret2;exact⟨rfl,zb HBE.out _⟩
   ·have c4b:decide ((i:Int)<(y0.length:Int))=false:=Qn (by omega)
    obtain rfl:i=ss:=by omega
    go_wp2;repeat(go_quiet (fail);try go_wp2)
    go_ret2;exact⟨rfl,zb HBE.out _⟩
theorem zS.le(l0 l1:List Int):zS.p l0 l1+zS.s l0 l1<=l0.length/\zS.p l0 l1+zS.s l0 l1<=l1.length:=by
 unfold zS.s;have h1:=lcpN_le l0 l1;have h2:=lcpN_le (l0.drop (lcpN l0 l1)).reverse (l1.drop (lcpN l0 l1)).reverse;rw[List.length_reverse,List.length_reverse,List.length_drop,List.length_drop]at h2;unfold zS.p;omega
def qb.x(l0 l1:List Int):List Int:=(l0.take (l0.length-zS.s l0 l1)).drop (zS.p l0 l1)
def qb.y(l0 l1:List Int):List Int:=(l1.take (l1.length-zS.s l0 l1)).drop (zS.p l0 l1)
theorem pair_apart{w W w1 w2:World}{x y:Value}{X Y:List Int}(hb:Below w.heap.size w W)(hx:(Kd.int .i64).R 3 w1 W.heap.size (fun _=>True) x X)(hbx:Below W.heap.size W w1)(hy:(Kd.int .i64).R 3 w2 w1.heap.size (fun _=>True) y Y)(hby:Below w1.heap.size w1 w2) :
 (Kd.int .i64).R 3 w2 w.heap.size (fun k=>some k≠y.ownBlock) x X/\(Kd.int .i64).R 3 w2 w.heap.size (fun k=>some k≠x.ownBlock) y Y/\Below w.heap.size w w2:=by
 refine⟨?_,?_,zi (zi hb hbx) hby⟩
 ·refine Kd.R_lower (Kd.R_mono (Kd.R_below (Kd.R_bound hx) hby) fun k hk e=>?_) hb.size
  have h1:=Kd.R_base hy k e.symm;have:=hk.2.2.1;omega
 ·refine Kd.R_lower (Kd.R_mono (Kd.R_bound hy) fun k hk e=>?_) (Nat.le_trans hb.size hbx.size)
  have h1:=Kd.R_lt hx k e.symm;have:=hk.2.1;omega
theorem qb.calls(A0:Option Addr)(c0:Nat)(l0:List Int)(A1:Option Addr)(c1:Nat)(l1:List Int)(w:World)(hr0:Kd.C (Kd.int .i64) w A0 l0.length l0)(hc0:l0.length<=c0)(hr1:Kd.C (Kd.int .i64) w A1 l1.length l1)(hc1:l1.length<=c1)(hl0:l0.length<=1000000)(hl1:l1.length<=1000000) :
 Calls Tryz.prog 86 #[.slice A0 l0.length c0,.slice A1 l1.length c1] w fun e w'=>∃ x y,e=.returned (.tuple #[x,y])/\(Kd.int .i64).R 3 w' w.heap.size (fun k=>some k≠y.ownBlock) x (qb.x l0 l1)/\(Kd.int .i64).R 3 w' w.heap.size (fun k=>some k≠x.ownBlock) y (qb.y l0 l1)/\Below w.heap.size w w':=by
 have HT:=Qk (zS.calls A0 c0 l0 A1 c1 l1 w hr0 hc0 hr1 hc1 hl0 hl1);obtain⟨hb0,hb1⟩:=zS.le l0 l1;unfold qb.x qb.y;have H0:=Qk hr0;have H1:=Qk hr1;generalize zS.p l0 l1=p' at HT hb0 hb1 ⊢;generalize zS.s l0 l1=s' at HT hb0 hb1 ⊢;clear hr0 hr1;have e0:IntKind.i64.wrap ((l0.length:Int)-(s':Int))=((l0.length-s':Nat):Int):=by rw[IntWalk.i64_in _ (by omega)];omega
 have e1:IntKind.i64.wrap ((l1.length:Int)-(s':Int))=((l1.length-s':Nat):Int):=by rw[IntWalk.i64_in _ (by omega)];omega
 have g0:p'<=l0.length-s':=by omega
 have g1:p'<=l1.length-s':=by omega
 obtain⟨i0,hi0,_,hsz0,_⟩:=info_parts info3;obtain⟨A2,hcut0,hA2,hC2⟩:=Z1 (P:=Tryz.prog) (Value.int .i64) 0 25 3 .i64 .i64 Tryz.underlying25 hi0 hsz0 A0 c0 l0 (p':Int) ((l0.length-s':Nat):Int) (by omega) (by omega) (by omega) hc0;obtain⟨A3,hcut1,hA3,hC3⟩:=Z1 (P:=Tryz.prog) (Value.int .i64) 0 25 3 .i64 .i64 Tryz.underlying25 hi0 hsz0 A1 c1 l1 (p':Int) ((l1.length-s':Nat):Int) (by omega) (by omega) (by omega) hc1;have HM0:Aside0 (∀ W,Below w.heap.size w W->Calls Tryz.prog 139 #[.slice A2 ((l0.take (((l0.length-s':Nat):Int)).toNat).drop (p':Int).toNat).length (c0-(p':Int).toNat)] W _):=⟨fun W hW=>clone_ints A2 _ _ W (Kd.C_of_reads (h1:=fun _=>rfl) (hA2 _ (Kd.reads_of_C (Kd.C_below H0.out hW)))) (by rw[List.length_drop,List.length_take];omega)⟩;have HM1:Aside0 (∀ W,Below w.heap.size w W->Calls Tryz.prog 139 #[.slice A3 ((l1.take (((l1.length-s':Nat):Int)).toNat).drop (p':Int).toNat).length (c1-(p':Int).toNat)] W _):=⟨fun W hW=>clone_ints A3 _ _ W (Kd.C_of_reads (h1:=fun _=>rfl) (hA3 _ (Kd.reads_of_C (Kd.C_below H1.out hW)))) (by rw[List.length_drop,List.length_take];omega)⟩;clear hA2 hA3 hC2 hC3 hi0 hsz0;have HR0:=Qk (show (l0.take (((l0.length-s':Nat):Int)).toNat).drop (p':Int).toNat=(l0.take (l0.length-s')).drop p' from rfl);have HR1:=Qk (show (l1.take (((l1.length-s':Nat):Int)).toNat).drop (p':Int).toNat=(l1.take (l1.length-s')).drop p' from rfl);generalize (l0.take (((l0.length-s':Nat):Int)).toNat).drop (p':Int).toNat=X0 at hcut0 HM0 HR0;generalize (l1.take (((l1.length-s':Nat):Int)).toNat).drop (p':Int).toNat=X1 at hcut1 HM1 HR1;generalize c0-(p':Int).toNat=d0 at hcut0 HM0;generalize c1-(p':Int).toNat=d1 at hcut1 HM1;go_enter Tryz.func86,Tryz.ntmps86;go_upto_region 2 with(first|(go_at_call 85;((with_reducible refine HT.out.mono ?_);rintro e w2 ⟨rfl,hb⟩;have HB:=Qk hb;clear hb)))
 have HBd:=Qk (zC HB.out);go_region_held3 (fun _=>True) (first|trivial|go_keep) (first
  |(go_at_call 139;(with_reducible refine(HM0.out _ HBd.out).mono ?_);rintro e wx ⟨x,rfl,hx,hbx⟩;have HX:=Qk hx;have HXB:=Qk hbx;have HBX:=Qk (zi HBd.out hbx);clear hx hbx)
  |(go_at_call 139;(with_reducible refine(HM1.out _ HBX.out).mono ?_);rintro e wy ⟨y,rfl,hy,hby⟩;have HY:=Qk hy;have HYB:=Qk hby;clear hy hby))
 go_wp2_with fail
 go_ret2;have hp:=pair_apart HBd.out HX.out HXB.out HY.out HYB.out;rw[HR0.out,HR1.out]at hp;exact⟨x,y,rfl,hp⟩
theorem wr{x:Int}(h : -9223372036854775808<=x)(h':x<9223372036854775808):wrap64 x=x:=by unfold wrap64;omega
theorem rd_nat(xs:List Int)(n:Nat):rd xs (n:Int)=xs.getD n 0:=rfl
theorem rd_at{xs:List Int}{i:Int}{n:Nat}(h:i=(n:Int)):rd xs i=xs.getD n 0:=by subst h;rfl
theorem drop_getD{xs:List Int}{i:Nat}(h:i<xs.length):xs.drop i=xs.getD i 0::xs.drop (i+1):=by
 rw[List.drop_eq_getElem_cons h];simp[List.getD_eq_getElem?_getD,h]
theorem take_getD{xs:List Int}{i:Nat}(h:i<xs.length):xs.take (i+1)=xs.take i++[xs.getD i 0]:=by
 rw[List.take_succ_eq_append_getElem h];simp[List.getD_eq_getElem?_getD,h]
theorem lz_bind{α β:Type}{a a':Option α}{f:α->Option β}(h:a=a'):a.bind f=a'.bind f:=by rw[h]
theorem lz_ite{α:Type}{c c':Prop}[s:Decidable c][s':Decidable c']{t e:α}(h:c=c'):ite c t e=ite c' t e:=by
 subst h;rw[Subsingleton.elim s s']
attribute [local congr] lz_bind lz_ite
theorem bs{α β:Type}(a:α)(f:α->Option β):(some a).bind f=f a:=by simp
theorem itt{α:Type}(t e:α):(if (true=true)then t else e)=t:=by simp
theorem ift{α:Type}(t e:α):(if (false=true)then t else e)=e:=by simp
theorem ifT{α:Type}(t e:α):(if True then t else e)=t:=by simp
def lcs:List Int->List Int->Nat
 |[],_=>0
 |_::_,[]=>0
 |a::xt,b::yt=>if a=b then lcs xt yt+1 else max (lcs xt (b::yt)) (lcs (a::xt) yt)
termination_by xs ys=>xs.length+ys.length
@[simp] theorem lcs_nil_left (ys:List Int):lcs [] ys=0:=by cases ys <;> simp[lcs]
@[simp] theorem lcs_nil_right (xs:List Int):lcs xs []=0:=by cases xs <;> simp[lcs]
theorem Qd(a b:Int)(xt yt:List Int):lcs (a::xt) (b::yt)=if a=b then lcs xt yt+1 else max (lcs xt (b::yt)) (lcs (a::xt) yt):=by
 rw[lcs]
theorem lcs_ub(xs ys:List Int):∀ s:List Int,s.Sublist xs->s.Sublist ys->s.length<=lcs xs ys:=by
 induction xs,ys using lcs.induct with
 |case1 ys=>intro s h _;simp at h;subst h;simp
 |case2 a xt=>intro s _ h;simp at h;subst h;simp
 |case3 xt b yt ih =>
  intro s h1 h2;rw[Qd,if_pos rfl]
  cases s with
  |nil=>simp
  |cons c s =>
   have h1':s.Sublist xt:=by
    cases h1 with
    |cons _ h=>exact(List.sublist_cons_self c s).trans h
    |cons_cons _ h=>exact h
   have h2':s.Sublist yt:=by
    cases h2 with
    |cons _ h=>exact(List.sublist_cons_self c s).trans h
    |cons_cons _ h=>exact h
   have:=ih s h1' h2';simp;omega
 |case4 a xt b yt hne ih1 ih2 =>
  intro s h1 h2;rw[Qd,if_neg hne]
  cases s with
  |nil=>simp
  |cons c s =>
   by_cases hc:c=a
   ·subst hc
    have h2':(c::s).Sublist yt:=by
     cases h2 with
     |cons _ h=>exact h
     |cons_cons _ h=>exact absurd rfl hne
    have:=ih2 _ h1 h2';omega
   ·have h1':(c::s).Sublist xt:=by
     cases h1 with
     |cons _ h=>exact h
     |cons_cons _ h=>exact absurd rfl hc
    have:=ih1 _ h1' h2;omega
theorem lcs_ex(xs ys:List Int):∃ s:List Int,s.Sublist xs/\s.Sublist ys/\s.length=lcs xs ys:=by
 induction xs,ys using lcs.induct with
 |case1 ys=>exact⟨[],by simp⟩
 |case2 a xt=>exact⟨[],by simp⟩
 |case3 xt b yt ih =>
  obtain⟨s,h1,h2,h3⟩:=ih;exact⟨b::s,h1.cons_cons b,h2.cons_cons b,by rw[Qd,if_pos rfl];simp[h3]⟩
 |case4 a xt b yt hne ih1 ih2 =>
  rw[Qd,if_neg hne];by_cases h:lcs (a::xt) yt<=lcs xt (b::yt)
  ·obtain⟨s,h1,h2,h3⟩:=ih1
   exact⟨s,h1.cons a,h2,by omega⟩
  ·obtain⟨s,h1,h2,h3⟩:=ih2
   exact⟨s,h1,h2.cons b,by omega⟩
theorem lcs_unique{xs ys:List Int}{n:Nat}(h:∃ s:List Int,s.Sublist xs/\s.Sublist ys/\s.length=n)(h':∀ s:List Int,s.Sublist xs->s.Sublist ys->s.length<=n):lcs xs ys=n:=by
 obtain⟨s,h1,h2,h3⟩:=h;obtain⟨t,h4,h5,h6⟩:=lcs_ex xs ys;have:=lcs_ub xs ys s h1 h2;have:=h' t h4 h5;omega
theorem lcs_comm(xs ys:List Int):lcs xs ys=lcs ys xs:=by
 obtain⟨s,h1,h2,h3⟩:=lcs_ex ys xs;exact lcs_unique ⟨s,h2,h1,h3⟩ fun t a b=>lcs_ub ys xs t b a
theorem ZD(xs ys:List Int):lcs xs.reverse ys.reverse=lcs xs ys:=by
 obtain⟨s,h1,h2,h3⟩:=lcs_ex xs ys;refine lcs_unique ⟨s.reverse,h1.reverse,h2.reverse,by simp[h3]⟩ fun t a b=>?_
 have:=lcs_ub xs ys t.reverse (by simpa using a.reverse) (by simpa using b.reverse)
 simpa using this
theorem lcs_mono{xs xs' ys ys':List Int}(h:xs.Sublist xs')(h':ys.Sublist ys'):lcs xs ys<=lcs xs' ys':=by
 obtain⟨s,h1,h2,h3⟩:=lcs_ex xs ys;have:=lcs_ub xs' ys' s (h1.trans h) (h2.trans h');omega
theorem Zi(xs ys:List Int):lcs xs ys<=xs.length:=by
 obtain⟨s,h1,_,h3⟩:=lcs_ex xs ys;have:=h1.length_le;omega
theorem lcs_le_right(xs ys:List Int):lcs xs ys<=ys.length:=by rw[lcs_comm];exact Zi _ _
theorem lcs_self(xs:List Int):lcs xs xs=xs.length:=by
 have:=lcs_ub xs xs xs (List.Sublist.refl _) (List.Sublist.refl _);have:=Zi xs xs;omega
theorem lcs_cons_same(a:Int)(xs ys:List Int):lcs (a::xs) (a::ys)=lcs xs ys+1:=by rw[Qd,if_pos rfl]
theorem lcs_snoc(a b:Int)(xs ys:List Int):lcs (xs++[a]) (ys++[b])=if a=b then lcs xs ys+1 else max (lcs xs (ys++[b])) (lcs (xs++[a]) ys):=by
 rw[← ZD,← ZD xs ys,← ZD xs (ys++[b]),← ZD (xs++[a]) ys];simp[Qd]
theorem lcs_prefix(p xs ys:List Int):lcs (p++xs) (p++ys)=p.length+lcs xs ys:=by
 induction p with
 |nil=>simp
 |cons a p ih=>simp only[List.cons_append,lcs_cons_same,ih,List.length_cons];omega
theorem lcs_suffix(p xs ys:List Int):lcs (xs++p) (ys++p)=p.length+lcs xs ys:=by
 rw[← ZD,← ZD xs ys];simp[lcs_prefix]
def dist(xs ys:List Int):Nat:=xs.length+ys.length-2*lcs xs ys
theorem dist_add(xs ys:List Int):dist xs ys+2*lcs xs ys=xs.length+ys.length:=by
 have:=Zi xs ys;have:=lcs_le_right xs ys;unfold dist;omega
def seq{α:Type}(n:Nat)(F:Nat->α):List α:=(List.range n).map F
def upd{α:Type}(F:Nat->α)(i:Nat)(v:α):Nat->α:=fun j=>if j=i then v else F j
theorem upd_same{α:Type}(F:Nat->α)(i:Nat)(v:α):upd F i v i=v:=by simp[upd]
theorem upd_ne{α:Type}(F:Nat->α){i j:Nat}(v:α)(h:j≠i):upd F i v j=F j:=by simp[upd,h]
theorem Zk{α:Type}(n:Nat)(F:Nat->α):(seq n F).length=n:=by simp[seq]
theorem seq_getD{α:Type}{n:Nat}(F:Nat->α){i:Nat}(h:i<n)(d:α):(seq n F).getD i d=F i:=by simp[seq,h,List.getD_eq_getElem?_getD]
theorem seq_getElem{α:Type}{n:Nat}(F:Nat->α){i:Nat}(h:i<(seq n F).length):(seq n F)[i]=F i:=by simp[seq]
theorem seq_ext{α:Type}{n:Nat}{F G:Nat->α}(h:∀ i,i<n->F i=G i):seq n F=seq n G:=by
 unfold seq;exact List.map_congr_left fun i hi=>h i (List.mem_range.1 hi)
theorem seq_set{α:Type}{n:Nat}(F:Nat->α)(i:Nat)(v:α):(seq n F).set i v=seq n (upd F i v):=by
 apply List.ext_getElem
 ·simp[Zk]
 ·intro j h1 h2
  rw[List.getElem_set,seq_getElem,seq_getElem];unfold upd;by_cases h:i=j
  ·rw[if_pos h,if_pos h.symm]
  ·rw[if_neg h,if_neg (fun e=>h e.symm)]
theorem seq_const{α:Type}(n:Nat)(v:α):List.replicate n v=seq n (fun _=>v):=by
 apply List.ext_getElem
 ·simp[Zk]
 ·intro j h1 h2;simp[seq]
theorem rd_seq{n:Nat}(F:Nat->Int){i:Int}{p:Nat}(h:p<n)(e:i=(p:Int)):rd (seq n F) i=F p:=by
 subst e;rw[rd_nat,seq_getD F h]
def T(a b:List Int)(i j:Nat):Nat:=lcs (a.drop i) (b.drop j)
theorem T_out_left{a b:List Int}{i j:Nat}(h:a.length<=i):T a b i j=0:=by unfold T;rw[List.drop_eq_nil_of_le h];simp
theorem T_out_right{a b:List Int}{i j:Nat}(h:b.length<=j):T a b i j=0:=by unfold T;rw[List.drop_eq_nil_of_le h];simp
theorem T_step{a b:List Int}{i j:Nat}(h:i<a.length)(h':j<b.length):T a b i j=if a.getD i 0=b.getD j 0 then T a b (i+1) (j+1)+1 else max (T a b (i+1) j) (T a b i (j+1)):=by
 unfold T;rw[drop_getD h,drop_getD h',Qd]
theorem T_le_left(a b:List Int)(i j:Nat):T a b i j<=a.length-i:=by have:=Zi (a.drop i) (b.drop j);unfold T;simpa using this
def behind(a b:List Int):List (List Int):=seq (a.length+1) fun i=>seq (b.length+1) fun j=>(T a b i j:Int)
def H(a b:List Int)(i j:Nat):Nat:=lcs (a.take i) (b.take j)
theorem H_step{a b:List Int}{i j:Nat}(h:i<a.length)(h':j<b.length):H a b (i+1) (j+1)=if a.getD i 0=b.getD j 0 then H a b i j+1 else max (H a b i (j+1)) (H a b (i+1) j):=by
 unfold H;rw[take_getD h,take_getD h',lcs_snoc]
def lenN(n:Nat):Nat:=if n=0 then 0 else n.log2+1
theorem len8_size:Lib.len8tab.size=256:=by kernel_rfl
theorem len8_small(n:Nat)(hn:n<=24):n<Lib.len8tab.size:=by rw[len8_size];omega
theorem len8_all:(List.range 25).all (fun n=>bt Lib.len8tab (n:Int) == (lenN n:Int))=true:=by decide +kernel
theorem len8_at(n:Nat)(hn:n<=24)(h:n<Lib.len8tab.size):wrap64 (wrap64 ((Lib.len8tab[n]'h).toNat:Int))=(lenN n:Int):=by
 have h1:=List.all_eq_true.1 len8_all n (List.mem_range.2 (by omega));have h2:bt Lib.len8tab (n:Int)=(lenN n:Int):=eq_of_beq h1;have h3:bt Lib.len8tab (n:Int)=((Lib.len8tab[n]'h).toNat:Int):=by
  unfold bt;rw[dif_pos (by rw[Int.toNat_natCast];exact h)];rfl
 rw[h3]at h2;rw[h2];have h4:lenN n<=25:=by
  unfold lenN;split
  ·omega
  ·have:=Nat.log2_le_self n;omega
 have h5:wrap64 (lenN n:Int)=(lenN n:Int):=(zp _).symm.trans (IntWalk.i64_in _ (by omega));rw[h5,h5]
theorem bits_Len64.small(n:Nat)(hn:n<=24)(w:World):Calls Tryz.prog 208 #[.int .u64 n] w fun e w'=>e=.returned (.int .i64 (lenN n:Nat))/\Drawn0 w w':=by
 have c0:decide ((n:Int)≥4294967296)=false:=Qn (by omega);have c1:decide ((n:Int)≥65536)=false:=Qn (by omega);have c2:decide ((n:Int)≥256)=false:=Qn (by omega);have c3:IntKind.u8.wrap (n:Int)=(n:Int):=by simp[IntKind.wrap,IntKind.bits,IntKind.signed];omega
 have hlt:n<Lib.len8tab.size:=len8_small n hn;have hv:∀ h:n<Lib.len8tab.size,wrap64 (wrap64 ((Lib.len8tab[n]'h).toNat:Int))=(lenN n:Int):=len8_at n hn
 go_enter Tryz.func208,Tryz.ntmps208;go_wp2;go_ret;exact⟨by rw[hv hlt];rfl,Drawn0.refl _⟩
theorem bits_Len.small(n:Nat)(hn:n<=24)(w:World):Calls Tryz.prog 184 #[.int .u64 n] w fun e w'=>e=.returned (.int .i64 (lenN n:Nat))/\Drawn0 w w':=by
 have H:=Qk (bits_Len64.small n hn);go_enter Tryz.func184,Tryz.ntmps184;go_wp2_with (first|(go_at_call 208;((with_reducible refine(H.out _).mono ?_);rintro e w2 ⟨rfl,m,rfl⟩)))
 go_ret;exact⟨rfl,_,rfl⟩
theorem keyed3:Maps.Keyed Tryz.prog 3:=Maps.int_keyed Tryz.underlying3
theorem zero2(w:World):(zeroValue 2).run Tryz.prog w=.ok (.int .i64 0) w:=by kernel_rfl
theorem wf64{x:Int}(h : -9223372036854775808<=x)(h':x<9223372036854775808):(Lit.int .i64 x).wf=true:=WalkArith.wf_i64 (by omega)
def Z5(a b:List Int):Nat:=(a.map fun x=>b.count x).sum
def klits(l:List Int):List Lit:=l.map fun x=>.int .i64 x
def kindsN(l:List Int):Nat:=((klits l).foldl Maps.addKey []).length
theorem klits_key(l:List Int):∀ x∈klits l,WideAt.IsKeyLit x:=by
 intro x hx;obtain⟨y,_,rfl⟩:=List.mem_map.1 hx;exact trivial
theorem foldl_addKey_le:∀ (l L:List Lit),(l.foldl Maps.addKey L).length<=L.length+l.length
 |[],L=>by simp
 |x::l,L=>by
  have h:=foldl_addKey_le l (Maps.addKey L x);have h2:(Maps.addKey L x).length<=L.length+1:=by unfold Maps.addKey;split <;> simp
  simp only[List.foldl_cons,List.length_cons];omega
theorem kindsN_le(l:List Int):kindsN l<=l.length:=by
 have:=foldl_addKey_le (klits l) [];unfold kindsN;simpa [klits]using this
theorem count_le_len(l:List Int)(x:Int):l.count x<=l.length:=List.count_le_length ..
theorem hitsN_le(a b:List Int):Z5 a b<=a.length*b.length:=by
 unfold Z5
 induction a with
 |nil=>simp
 |cons x a ih =>
  have:=count_le_len b x;simp only[List.map_cons,List.sum_cons,List.length_cons,Nat.succ_mul];omega
theorem hitsN_snoc(a b:List Int)(x:Int):Z5 (a++[x]) b=Z5 a b+b.count x:=by unfold Z5;simp
def Counts(D:DataW Unit)(l:List Int):Prop:=Maps.IsMap D/\∀ x,D.atKey (.int .i64 x) (.lit (.int .i64 0))=.lit (.int .i64 (l.count x:Nat))
theorem counts_nil:Counts (.map []) []:=⟨Maps.isMap_empty,fun x=>rfl⟩
theorem Counts.snoc{D:DataW Unit}{l:List Int}(h:Counts D l)(x:Int):Counts (D.put (.int .i64 x) (.lit (.int .i64 ((l.count x:Nat)+1:Int)))) (l++[x]):=by
 refine⟨h.1.put _ _,fun y=>?_⟩;rw[List.count_append];by_cases e:y=x
 ·subst e
  rw[Maps.atKey_put_same h.1 (show WideAt.IsKeyLit (.int .i64 y)from trivial)];simp
 ·rw[Maps.atKey_put_other (by simpa using e),h.2 y]
  have:[x].count y=0:=by rw[List.count_eq_zero];simpa using e
  rw[this];rfl
theorem Counts.at_{D:DataW Unit}{l:List Int}(h:Counts D l){x c:Int}(hc:D.atKey (.int .i64 x) (.lit (.int .i64 0))=.lit (.int .i64 c)):c=(l.count x:Nat):=by
 rw[h.2 x]at hc;injection hc with hc
 injection hc with _ hc
 exact hc.symm
theorem Counts.next{D:DataW Unit}{l:List Int}(h:Counts D l){x c:Int}(hl:l.length<=1000000)(hc:D.atKey (.int .i64 x) (.lit (.int .i64 0))=.lit (.int .i64 c)):∃ n:Nat,c=(n:Int)/\Aside0 (Counts (D.put (.int .i64 x) (.lit (.int .i64 ((n:Nat)+1:Int)))) (l++[x]))/\n<=1000000 :=
 ⟨l.count x,h.at_ hc,⟨h.snoc x⟩,by have:=count_le_len l x;omega⟩
theorem Counts.count{D:DataW Unit}{l:List Int}(h:Counts D l){x c:Int}(hl:l.length<=1000000)(hc:D.atKey (.int .i64 x) (.lit (.int .i64 0))=.lit (.int .i64 c)):∃ n:Nat,c=(n:Int)/\Aside0 (l.count x=n)/\n<=1000000 :=
 ⟨l.count x,h.at_ hc,⟨rfl⟩,by have:=count_le_len l x;omega⟩
def shp(n m s r:Int):Array Value:=#[.int .i64 n,.int .i64 m,.int .i64 s,.int .i64 r]
theorem set_snoc(l:List Int)(x:Int):Maps.setOf (H:=Unit) (.lit (.bool true)) (klits (l++[x]))=(Maps.setOf (.lit (.bool true)) (klits l)).put (.int .i64 x) (.lit (.bool true)):=by
 unfold klits;rw[List.map_append,List.map_cons,List.map_nil,Maps.setOf_snoc]
theorem rd_take{l:List Int}{k:Nat}(h:k<l.length):l.take (k+1)=l.take k++[rd l k]:=by
 rw[List.take_succ_eq_append_getElem h];simp[rd,h]
theorem rd_mem{l:List Int}{k:Nat}(h:k<l.length):rd l k∈l:=by
 have:rd l k=l[k]:=by simp[rd,h]
 rw[this];exact List.getElem_mem h
theorem cost_Of.calls(A0:Option Addr)(c0:Nat)(l0:List Int)(A1:Option Addr)(c1:Nat)(l1:List Int)(w:World)(hr0:Kd.C (Kd.int .i64) w A0 l0.length l0)(hr1:Kd.C (Kd.int .i64) w A1 l1.length l1)(hl0:l0.length<=1000000)(hl1:l1.length<=1000000)
 (hw0:∀ x∈l0,(Lit.int .i64 x).wf=true) (hw1:∀ x∈l1,(Lit.int .i64 x).wf=true) :
 Calls Tryz.prog 64 #[.slice A0 l0.length c0,.slice A1 l1.length c1] w fun e w'=>e=.returned (.agg #[.int .i64 l0.length,.int .i64 l1.length,.int .i64 (kindsN (l1++l0):Nat),.int .i64 (Z5 l0 l1:Nat)])/\Below w.heap.size w w':=by
 have H0:=Qk hr0;have H1:=Qk hr1;have HW0:=Qk hw0;have HW1:=Qk hw1;clear hr0 hr1 hw0 hw1;have hmm:=@run_makeMap Tryz.prog;have hsize:∀ (w:World) (o:Obj),(w.alloc o).heap.size=w.heap.size+1:=Z2
 go_enter Tryz.func64,Tryz.ntmps64;go_wp2_with fail
 obtain⟨cs,hcs⟩:∃ cs,#[Value.int IntKind.i64 0,Value.int IntKind.i64 0,Value.int IntKind.i64 0,Value.int IntKind.i64 0]=cs:=⟨_,rfl⟩
 have HCS:=Qk hcs;rw[hcs];clear hcs;have HB:=Qk (za (za (za (Below.refl w.heap.size w) (Obj.cells cs 30)) (Obj.map #[] 0)) (Obj.map #[] 0));have HG:=Qk (zl (zl (qv w (Obj.cells cs 30)) (Obj.map #[] 0)) (Obj.map #[] 0));have HM:=Qk ((World.ownsMap_made (w.alloc (Obj.cells cs 30)) Tryz.prog 3 (plainElem (H:=Unit) Tryz.prog 2)).alloc (Obj.map #[] 0));have HN:=Qk (World.ownsMap_made ((w.alloc (Obj.cells cs 30)).alloc (Obj.map #[] 0)) Tryz.prog 3 (plainElem (H:=Unit) Tryz.prog 4));simp only[hsize]at HM HN;clear hsize;generalize ((w.alloc (Obj.cells cs 30)).alloc (Obj.map #[] 0)).alloc (Obj.map #[] 0)=w1 at HB HG HM HN ⊢;go_loopw [16] (fun v16 wr=>∃ (k:Nat) (D:DataW Unit),k<=l1.length/\v16=.int .i64 k/\Aside0 (Counts D (l1.take k))/\Aside0 (Below w.heap.size w wr)/\Aside0 (wr.heap[w.heap.size]?=some (.cells cs 30 (0,0)))/\Aside0 (wr.ownsMap Tryz.prog 3 (plainElem Tryz.prog 2) (w.heap.size+1) k D)/\Aside0 (wr.ownsMap Tryz.prog 3 (plainElem (H:=Unit) Tryz.prog 4) (w.heap.size+1+1) k (Maps.setOf (.lit (.bool true)) (klits (l1.take k))))) (fun v16 _=>l1.length-(intOf v16).toNat)
 case atStart=>exact⟨0,.map [],by omega,rfl,⟨counts_nil⟩,HB,HG,HM,HN⟩
 case round =>
  clear HB HG HM HN;obtain⟨k,D,hk,rfl,HD,HB,HG,HM,HN⟩:=hrel;by_cases hlt:k<l1.length
  ·obtain⟨ad1,rfl,hx1⟩:=Kd.at_int (Kd.C_below H1.out HB.out) (k:Int) (by omega) (by omega)
   rw[Int.toNat_natCast]at hx1;have HT:=Qk (rd_take hlt);have HCL:=Qk (show (l1.take k).length<=1000000 by rw[List.length_take];omega);have HKEY:=Qk (Maps.keyOf_int_mk (P:=Tryz.prog) (k:=3) Tryz.underlying3 (HW1.out _ (rd_mem hlt)));generalize rd l1 k=x at hx1 HT HKEY;have hc0:(0:Int)<=(k:Int):=by omega
   have hc1:(k:Int)<(l1.length:Int):=by omega
   go_wp2_with (first
    |(at_lookup;refine wpList_lookup_own_int _ rfl _ _ 149 rfl 3 2 .i64 keyed3 Tryz.underlying149 Tryz.underlying2 (zero2 _) (w.heap.size+1) k _ rfl HM.out _ _ rfl HKEY.out ?_;intro c hat hwc;obtain⟨n,rfl,HD2,hcn⟩:=HD.out.next (HCL.out) hat;clear hat hwc)
    |(at_mapUpdate;refine wpList_mapUpdate_own _ rfl _ _ _ 149 rfl 3 2 keyed3 Tryz.underlying149 _ (w.heap.size+1) k _ rfl HM.out (by unfold maxLen;omega) _ _ _ rfl rfl HKEY.out _ [] (plainElem_int Tryz.underlying2 (wf64 (by omega) (by omega))) ?_;intro w1 hown hg;have HM1:=Qk hown;have HB1:=Qk (HB.out.grown hg HB.out.size (fun j hj=>by cases hj;omega));have HG1:=Qk ((hg.block _ (Zh HG.out) (by intro e;injection e with e;omega)).trans HG.out);have HN1:=Qk (HN.out.kept hg (by intro e;injection e with e;omega));clear hown hg)
    |(at_mapUpdate;refine wpList_mapUpdate_own _ rfl _ _ _ 150 rfl 3 4 keyed3 Tryz.underlying150 _ (w.heap.size+1+1) k _ rfl HN1.out (by unfold maxLen;omega) _ _ _ rfl rfl HKEY.out _ [] (plainElem_bool Tryz.underlying4 true) ?_;intro w2 hown hg;have HN2:=Qk hown;have HB2:=Qk (HB1.out.grown hg HB1.out.size (fun j hj=>by cases hj;omega));have HG2:=Qk ((hg.block _ (Zh HG1.out) (by intro e;injection e with e;omega)).trans HG1.out);have HM2:=Qk (HM1.out.kept hg (by intro e;injection e with e;omega));clear hown hg)
    |fail)
   go_roundw
   case rel=>exact⟨k+1,_,by omega,by go_num,⟨by rw[HT.out];exact HD2.out⟩,HB2,HG2,HM2,⟨by rw[HT.out,set_snoc];exact HN2.out⟩⟩
   case measure=>simp[intOf];omega
  ·obtain rfl:k=l1.length:=by omega
   go_wp2_with fail
   rw[show (#[Value.int IntKind.i64 l0.length,Value.int IntKind.i64 l1.length,Value.int IntKind.i64 0,Value.int IntKind.i64 0]:Array Value)=shp l0.length l1.length 0 0 from rfl]
   have HB2:=Qk (zi HB.out (za (Below.refl wr.heap.size wr) (Obj.cells (shp l0.length l1.length 0 0) 30)));have HG2:=Qk (zl HG.out (Obj.cells (shp l0.length l1.length 0 0) 30));have HM2:=Qk (HM.out.alloc (Obj.cells (shp l0.length l1.length 0 0) 30));have HN2:=Qk (HN.out.alloc (Obj.cells (shp l0.length l1.length 0 0) 30));have HS2:=Qk (qv wr (Obj.cells (shp l0.length l1.length 0 0) 30));have HLM:=Qk HN.out.lt;have HD1:=Qk (show Counts D l1 by have:=HD.out;rwa [List.take_length]at this);have HT1:=Qk (show l1.take l1.length=l1 from List.take_length);rw[HT1.out]at HN2;clear HB HG HM HN HD;generalize wr.alloc (Obj.cells (shp l0.length l1.length 0 0) 30)=w2 at HB2 HG2 HM2 HN2 HS2 ⊢;generalize wr.heap.size=bs at HS2 HLM ⊢;have hbs1:w.heap.size≠bs:=by have:=HLM.out;omega
   have hbs2:w.heap.size+1≠bs:=by have:=HLM.out;omega
   have hbs3:w.heap.size+1+1≠bs:=by have:=HLM.out;omega
   go_loopw [34] (fun v34 wr=>∃ (k:Nat),k<=l0.length/\v34=.int .i64 k/\Aside0 (Below w.heap.size w wr)/\Aside0 (wr.heap[w.heap.size]?=some (.cells cs 30 (0,0)))/\Aside0 (wr.ownsMap Tryz.prog 3 (plainElem Tryz.prog 2) (w.heap.size+1) l1.length D)/\Aside0 (wr.ownsMap Tryz.prog 3 (plainElem (H:=Unit) Tryz.prog 4) (w.heap.size+1+1) (l1.length+k) (Maps.setOf (.lit (.bool true)) (klits (l1++l0.take k))))/\Aside0 (wr.heap[bs]?=some (.cells (shp l0.length l1.length 0 (Z5 (l0.take k) l1:Nat)) 30 (0,0)))) (fun v34 _=>l0.length-(intOf v34).toNat)
   case atStart=>exact⟨0,by omega,rfl,HB2,HG2,HM2,⟨by simpa using HN2.out⟩,⟨by simpa [Z5]using HS2.out⟩⟩
   case round =>
    clear HB2 HG2 HM2 HN2 HS2;obtain⟨k,hk,rfl,HB,HG,HM,HN,HS⟩:=hrel;by_cases hlt:k<l0.length
    ·obtain⟨ad0,rfl,hx0⟩:=Kd.at_int (Kd.C_below H0.out HB.out) (k:Int) (by omega) (by omega)
     rw[Int.toNat_natCast]at hx0;have HT:=Qk (rd_take hlt);have HKEY:=Qk (Maps.keyOf_int_mk (P:=Tryz.prog) (k:=3) Tryz.underlying3 (HW0.out _ (rd_mem hlt)));have HSN:=Qk (hitsN_snoc (l0.take k) l1 (rd l0 k));have HLE:=Qk (show Z5 (l0.take k) l1<=1000000*1000000 from Nat.le_trans (hitsN_le _ _) (Nat.mul_le_mul (by rw[List.length_take];omega) hl1));generalize rd l0 k=x at hx0 HT HKEY HSN;have hc0:(0:Int)<=(k:Int):=by omega
     have hc1:(k:Int)<(l0.length:Int):=by omega
     have hz3:wr.cell? ⟨bs,3,none⟩=some (.int .i64 (Z5 (l0.take k) l1:Nat)):=(zf HS.out 3).trans rfl;have hf3:=zh HS.out 3;have hn0:Z5 (l0.take k) l1<=1000000000000:=HLE.out;go_wp2_with (first
      |(at_lookup;refine wpList_lookup_own_int _ rfl _ _ 149 rfl 3 2 .i64 keyed3 Tryz.underlying149 Tryz.underlying2 (zero2 _) (w.heap.size+1) l1.length _ rfl HM.out _ _ rfl HKEY.out ?_;intro c hat hwc;obtain⟨n,rfl,HN1,hcn⟩:=HD1.out.count hl1 hat;clear hat hwc)
      |(at_mapUpdate;refine wpList_mapUpdate_own _ rfl _ _ _ 150 rfl 3 4 keyed3 Tryz.underlying150 _ (w.heap.size+1+1) (l1.length+k) _ rfl (HN.out.setCell hbs3 _) (by unfold maxLen;omega) _ _ _ rfl rfl HKEY.out _ [] (plainElem_bool Tryz.underlying4 true) ?_;intro w3 hown hg;have HN3:=Qk hown;have HG3:=Qk hg;clear hown hg)
      |fail)
     have HG4:=Qk (qD HG.out (p:=⟨bs,3,none⟩) hbs1 (.int .i64 ((Z5 (l0.take k) l1:Nat)+(n:Int))));have HS4:=Qk (qi HS.out 3 (.int .i64 ((Z5 (l0.take k) l1:Nat)+(n:Int))) (cs':=shp l0.length l1.length 0 (Z5 (l0.take (k+1)) l1:Nat)) (by rw[HT.out,HSN.out,HN1.out];rfl));go_roundw
     case rel =>
      refine⟨k+1,by omega,by go_num,⟨(zr HB.out (g:=bs) (by have:=HLM.out;omega)).grown HG3.out (by have:=HB.out.size;simpa using this) (fun j hj=>by cases hj;omega)⟩,⟨qC HG4.out HG3.out (by intro e;injection e with e;omega)⟩,⟨(HM.out.setCell hbs2 _).kept HG3.out (by intro e;injection e with e;omega)⟩,⟨?_⟩,⟨qC HS4.out HG3.out (by intro e;injection e with e;omega)⟩⟩
      rw[HT.out,← List.append_assoc,set_snoc];exact HN3.out
     case measure=>simp[intOf];omega
    ·obtain rfl:k=l0.length:=by omega
     have HT0:=Qk (show l0.take l0.length=l0 from List.take_length);rw[HT0.out]at HN HS;have hz0:wr.cell? ⟨bs,0,none⟩=some (.int .i64 l0.length):=(zf HS.out 0).trans rfl;have hz1:wr.cell? ⟨bs,1,none⟩=some (.int .i64 l1.length):=(zf HS.out 1).trans rfl;have hz2:wr.cell? ⟨bs,2,none⟩=some (.int .i64 0):=(zf HS.out 2).trans rfl;have hz3:wr.cell? ⟨bs,3,none⟩=some (.int .i64 (Z5 l0 l1:Nat)):=(zf HS.out 3).trans rfl;have hf0:=zh HS.out 2;have hy:∀ i,i<4->wr.cell? ⟨w.heap.size,i,none⟩=some (.int .i64 0):=fun i hi=>(zf HG.out i).trans (by rw[← HCS.out];match i,hi with|0,_=>rfl|1,_=>rfl|2,_=>rfl|3,_=>rfl)
     have hy0:=hy 0 (by omega);have hy1:=hy 1 (by omega);have hy2:=hy 2 (by omega);have hy3:=hy 3 (by omega);clear hy;have hg0:=zh HG.out 0;have hg1:=zh HG.out 1;have hg2:=zh HG.out 2;have hg3:=zh HG.out 3;have HK:=Qk (Maps.size_setOf (H:=Unit) (.lit (.bool true)) (klits (l1++l0)) (klits_key _));have HZ:=Qk (kindsN_le (l1++l0));go_wp2_with (first
      |(at_len;refine wpList_len_own _ rfl _ 150 rfl 3 4 Tryz.underlying150 _ (w.heap.size+1+1) (l1.length+l0.length) _ rfl HN.out ?_;rw[HK.out];rw[show ((klits (l1++l0)).foldl Maps.addKey []).length=kindsN (l1++l0)from rfl])
      |fail)
     refine bodyPost_ret (v:=.agg #[.int .i64 l0.length,.int .i64 l1.length,.int .i64 (kindsN (l1++l0):Nat),.int .i64 (Z5 l0 l1:Nat)]) (by simp[results,Tryz.results64,go_sem,hy0,hy1,hy2,hy3,hg0,hg1,hg2,hg3]) rfl ⟨rfl,?_⟩;have hbl:w.heap.size<=bs:=by have:=HLM.out;omega
     repeat(first|exact HB.out|refine zr ?_ (by omega))
end Go.Proofs.YtdiojfaenfggkaaGreat.PTopNear
namespace Go.Proofs.YtdiojfaenfggkaaGreat.PTopNear
open Go.RowKit Go.Proofs.YtdiojfaenfggkaaGreatW.PrintWords Go.Proofs.YtdiojfaenfggkaaGreatW.PrintLast Go.Proofs.YtdiojfaenfggkaaGreatW.PrintMore
attribute [local go_sem] qW qU Zg Zf qK qJ qV qT
set_option linter.unusedVariables false
set_option linter.unusedSimpArgs false
theorem cost_is.small(n:Nat)(hn:n<=24)(w:World):Calls Tryz.prog 206 #[.int .i64 n] w fun e w'=>e=.returned (.bool true)/\w'=w:=by
 have h0:decide (0<=(n:Int))=true:=Qm (by omega);have h1:decide ((n:Int)<=1048576)=true:=Qm (by omega);go_enter Tryz.func206,Tryz.ntmps206;go_wp2;go_ret;exact⟨rfl,rfl⟩
def upN(n t:Nat):Nat:=(n+t-1) / t
theorem upN_le(n t:Nat)(hn:n<=24)(ht:0<t)(ht2:t<=64):upN n t<=100:=Nat.le_trans (Nat.div_le_self _ _) (by omega)
theorem Z6.small(n t:Nat)(hn:n<=24)(ht:0<t)(ht2:t<=64)(w:World):Calls Tryz.prog 149 #[.int .i64 n,.int .i64 t] w fun e w'=>e=.returned (.int .i64 (upN n t:Nat))/\w'=w:=by
 have e1:((upN n t:Nat):Int)=((n:Int)+t-1) / t:=by unfold upN;rw[Int.natCast_ediv,Int.natCast_sub (by omega)];rfl
 rw[e1];have hq0:0<=((n:Int)+t-1) / t:=Int.ediv_nonneg (by omega) (by omega);have hq1:((n:Int)+t-1) / t<=(n:Int)+t-1:=Int.ediv_le_self _ (by omega);have h0:((t:Int) == 0)=false:=beq_eq_false_iff_ne.mpr (by omega);have h1:(0:Int)<=(n:Int)+t-1:=by omega
 go_enter Tryz.func149,Tryz.ntmps149;go_wp2;go_ret;exact⟨rfl,rfl⟩
theorem Z6.two(n:Nat)(hn:n<=24)(w:World):Calls Tryz.prog 149 #[.int .i64 n,.int .i64 2] w fun e w'=>e=.returned (.int .i64 (upN n 2:Nat))/\w'=w:=Z6.small n 2 hn (by decide) (by decide) w
theorem Z6.word(n:Nat)(hn:n<=24)(w:World):Calls Tryz.prog 149 #[.int .i64 n,.int .i64 64] w fun e w'=>e=.returned (.int .i64 (upN n 64:Nat))/\w'=w:=Z6.small n 64 hn (by decide) (by decide) w
theorem ret_pair{a b c:Int}(h:a=b):Ending.returned (.tuple #[.int .i64 a,.int .i64 c])=Ending.returned (.tuple #[.int .i64 b,.int .i64 c]):=by rw[h]
theorem cost_digits.small(n:Nat)(hn:n<=24)(w:World):Calls Tryz.prog 150 #[.int .i64 n] w fun e w'=>e=.returned (.int .i64 (lenN n:Nat))/\Drawn0 w w':=by
 have H:=Qk (bits_Len.small n hn);go_enter Tryz.func150,Tryz.ntmps150;go_wp2_with (first|(go_at_call 184;((with_reducible refine(H.out _).mono ?_);rintro e w2 ⟨rfl,m,rfl⟩)))
 go_ret;exact⟨rfl,_,rfl⟩
theorem lenN_le(n:Nat)(hn:n<=24):lenN n<=5:=by
 have h:∀ k:Fin 25,lenN k.val<=5:=by decide +kernel
 exact h ⟨n,by omega⟩
theorem wrap_in{x:Int}(h : -9223372036854775808<=x)(h':x<9223372036854775808):wrap64 x=x:=by unfold wrap64;omega
theorem mul_in{a b:Int}(h0:0<=a)(h1:a<=1000000)(h2:0<=b)(h3:b<=1000000):0<=a*b/\a*b<=1000000*1000000:=⟨Int.mul_nonneg h0 h2,Int.mul_le_mul h1 h3 h2 (by omega)⟩
theorem wmul{a b:Int}(h0:0<=a)(h1:a<=1000000)(h2:0<=b)(h3:b<=1000000):wrap64 (a*b)=a*b:=by
 have:=mul_in h0 h1 h2 h3;exact wrap_in (by omega) (by omega)
theorem wmul256{a b:Int}(h0:0<=a)(h1:a<=1000000)(h2:0<=b)(h3:b<=1000000):wrap64 (256+a*b)=256+a*b:=by
 have:=mul_in h0 h1 h2 h3;exact wrap_in (by omega) (by omega)
def shpV(n m s r:Nat):Value:=.agg #[.int .i64 n,.int .i64 m,.int .i64 s,.int .i64 r]
structure Small(n m s r:Nat):Prop where
 hn:n<=24
 hm:m<=24
 hs:s<=n+m
 hr:r<=n*m
theorem cost_Right.small(n m s r:Nat)(hs:Small n m s r)(w:World):Calls Tryz.prog 183 #[shpV n m s r] w fun e w'=>e=.returned (.bool true)/\Below w.heap.size w w':=by
 obtain⟨h1,h2,h3,h4⟩:=hs;have hnm:(n:Int)*m<=576:=by have:=Nat.mul_le_mul h1 h2;exact_mod_cast this
 have hnm0:0<=(n:Int)*m:=by exact_mod_cast Nat.zero_le (n*m)
 have a0:decide (0<=(s:Int))=true:=Qm (by omega);have a1:decide ((s:Int)<=(n:Int)+m)=true:=Qm (by omega);have a2:decide (0<=(r:Int))=true:=Qm (by omega);have a3:decide ((r:Int)<=(n:Int)*m)=true:=Qm (by exact_mod_cast h4);clear h3 h4;unfold shpV;go_enter Tryz.func183,Tryz.ntmps183;go_wp2_with (first|(go_at_call 206;((with_reducible refine(cost_is.small n h1 _).mono ?_);rintro e w2 ⟨rfl,rfl⟩))|(go_at_call 206;((with_reducible refine(cost_is.small m h2 _).mono ?_);rintro e w2 ⟨rfl,rfl⟩)))
 go_ret;exact⟨rfl,za (Below.refl _ _) _⟩
theorem cost_ask.small(g n m s r:Nat)(h0:1<=g)(h1:g<=8)(hs:Small n m s r)(w:World):Calls Tryz.prog 148 #[.int .i64 g,shpV n m s r] w fun e w'=>e=.returned (.bool true)/\Below w.heap.size w w':=by
 have a0:decide (1<=(g:Int))=true:=Qm (by omega);have a1:decide ((g:Int)<=8)=true:=Qm (by omega);have H:=Qk (cost_Right.small n m s r hs);unfold shpV at *;go_enter Tryz.func148,Tryz.ntmps148;go_wp2_with (first|(go_at_call 183;((with_reducible refine(H.out _).mono ?_);rintro e w2 ⟨rfl,hb⟩)))
 go_ret;exact⟨rfl,zi (za (Below.refl _ _) _) hb⟩
def ZA(g n m r:Nat):Nat :=
 let words:=upN m 64
 let w:=(n-m)+(m-n)
 match g with
 |1=>n*m
 |2=>(2*n+lenN n)*m
 |3=>256+3*upN n 2*upN m 2
 |4=>(n+m+r)*(1+lenN m)
 |5=>(n+m+1)*(w+1)
 |6=>(n+m+1)*(2*w+1)
 |7=>2*n*words
 |8=>3*n*words
 |_=>0
theorem cost_Work.small(g n m s r:Nat)(h0:1<=g)(h1:g<=8)(hs:Small n m s r)(w:World):Calls Tryz.prog 106 #[.int .i64 g,shpV n m s r] w fun e w'=>e=.returned (.tuple #[.int .i64 (ZA g n m r:Nat),.int .i64 0])/\Below w.heap.size w w':=by
  have H:=Qk (cost_ask.small g n m s r h0 h1 hs)
  obtain⟨b1,b2,b3,b4⟩:=hs
  unfold shpV at *
  go_enter Tryz.func106,Tryz.ntmps106
  have HG:=Qk (qv w (.cells #[.int .i64 n,.int .i64 m,.int .i64 s,.int .i64 r] 30 (0,0)))
  have HB:=Qk (za (Below.refl w.heap.size w) (.cells #[.int .i64 n,.int .i64 m,.int .i64 s,.int .i64 r] 30 (0,0)))
  go_upto_region 3 with(first|(go_at_call 148;((with_reducible refine(H.out _).mono ?_);rintro e w2 ⟨rfl,hb⟩;have n0_:=Qk (zy HG.out hb);have n1_:=Qk (zi HB.out hb);clear HG HB hb;have HG:=n0_;have HB:=n1_;clear n0_ n1_)))
  have hz0:w2.cell? ⟨w.heap.size,0,none⟩=some (.int .i64 n):=(zf HG.out 0).trans rfl
  have hz1:w2.cell? ⟨w.heap.size,1,none⟩=some (.int .i64 m):=(zf HG.out 1).trans rfl
  have hz3:w2.cell? ⟨w.heap.size,3,none⟩=some (.int .i64 r):=(zf HG.out 3).trans rfl
  go_quiet ((go_at_call 149;with_reducible exact Calls.quiet_of_same (Z6.word m b2 _)))
  have HBq:=Qk (zb HB.out nq)
  have HL:=Qk (cost_digits.small n b1)
  have HM:=Qk (cost_digits.small m b2)
  have HU0:=Qk (Z6.two n b1)
  have HU1:=Qk (Z6.two m b2)
  have hg:g=1\/g=2\/g=3\/g=4\/g=5\/g=6\/g=7\/g=8:=by omega
  have hz0:(w2.drewN nq).cell? ⟨w.heap.size,0,none⟩=some (.int .i64 n):=hz0
  have hz1:(w2.drewN nq).cell? ⟨w.heap.size,1,none⟩=some (.int .i64 m):=hz1
  have hz3:(w2.drewN nq).cell? ⟨w.heap.size,3,none⟩=some (.int .i64 r):=hz3
  generalize w2.drewN nq=w3 at HBq hz0 hz1 hz3 ⊢
  rcases hg with h|h|h|h|h|h|h|h
  all_goals
    (first|have j1:((g:Int) == 1)=true:=by rw[h];rfl
           |have j1:((g:Int) == 1)=false:=by rw[h];rfl)
    (first|have j2:((g:Int) == 2)=true:=by rw[h];rfl
           |have j2:((g:Int) == 2)=false:=by rw[h];rfl)
    (first|have j3:((g:Int) == 3)=true:=by rw[h];rfl
           |have j3:((g:Int) == 3)=false:=by rw[h];rfl)
    (first|have j4:((g:Int) == 4)=true:=by rw[h];rfl
           |have j4:((g:Int) == 4)=false:=by rw[h];rfl)
    (first|have j5:((g:Int) == 5)=true:=by rw[h];rfl
           |have j5:((g:Int) == 5)=false:=by rw[h];rfl)
    (first|have j6:((g:Int) == 6)=true:=by rw[h];rfl
           |have j6:((g:Int) == 6)=false:=by rw[h];rfl)
    (first|have j7:((g:Int) == 7)=true:=by rw[h];rfl
           |have j7:((g:Int) == 7)=false:=by rw[h];rfl)
    (first|have j8:((g:Int) == 8)=true:=by rw[h];rfl
           |have j8:((g:Int) == 8)=false:=by rw[h];rfl)
    have HG:=Qk h
    clear h
  all_goals
    go_wp2_with (first|(go_at_call 150;((with_reducible refine(HL.out _).mono ?_);rintro e w4 ⟨rfl,nd,rfl⟩)))
    all_goals
      (try(go_quiet ((first|(go_at_call 149;with_reducible exact Calls.quiet_of_same (HU0.out _))|(go_at_call 149;with_reducible exact Calls.quiet_of_same (HU1.out _))|(go_at_call 150;with_reducible exact Calls.quiet_of ((HM.out _).mono (fun e w' hp=>⟨hp.1,hp.2.out⟩)))));go_wp2))
      go_ret2
      refine⟨ret_pair ?_,by first|exact HBq.out|exact zb HBq.out _⟩
  all_goals
    clear HBq HL HM HU0 HU1 hz0 hz1 hz3 H j1 j2 j3 j4 j5 j6 j7 j8 h0 h1
    have c1:=lenN_le n b1
    have c2:=lenN_le m b2
    have c3:=upN_le n 2 b1 (by decide) (by decide)
    have c4:=upN_le m 2 b2 (by decide) (by decide)
    have c5:=upN_le m 64 b2 (by decide) (by decide)
    have c6:r<=24*24:=Nat.le_trans b4 (Nat.mul_le_mul b1 b2)
    rw[HG.out]
    simp(disch:=omega) only[wmul,wmul256,wrap_in]
    simp only[ZA]
    first
      |(push_cast;rfl)
      |(push_cast;congr 2;omega)
      |(push_cast;congr 3;omega)
end Go.Proofs.YtdiojfaenfggkaaGreat.PTopNear
namespace Go.Proofs.YtdiojfaenfggkaaGreat.PTopNear
open Go.RowKit Go.Proofs.YtdiojfaenfggkaaGreatW.PrintWords Go.Proofs.YtdiojfaenfggkaaGreatW.PrintLast Go.Proofs.YtdiojfaenfggkaaGreatW.PrintMore
attribute [local go_sem] qW qU Zg Zf qK qJ qV qT
set_option linter.unusedVariables false
set_option linter.unusedSimpArgs false
def roomN(g n m s r:Nat):Nat :=
 match g with
 |1=>(n+1)*(m+1)
 |2=>2*(m+1)
 |3=>256+upN n 2*(m+1)+upN m 2*(n+1)
 |4=>m+3*r
 |5=>4*(n+m+3)
 |6=>2*(n+m+1)
 |7=>(s+n+1)*upN m 64
 |8=>(2*s+n+1)*upN m 64
 |_=>0
theorem wroom{a b c d:Int}(h0:0<=a)(h1:a<=1000000)(h2:0<=b)(h3:b<=1000000)(k0:0<=c)(k1:c<=1000000)(k2:0<=d)(k3:d<=1000000):wrap64 (256+a*b+c*d)=256+a*b+c*d:=by
 have:=mul_in h0 h1 h2 h3;have:=mul_in k0 k1 k2 k3;exact wrap_in (by omega) (by omega)
theorem cost_Room.small(g n m s r:Nat)(h0:1<=g)(h1:g<=8)(hs:Small n m s r)(w:World):Calls Tryz.prog 107 #[.int .i64 g,shpV n m s r] w fun e w'=>e=.returned (.tuple #[.int .i64 (roomN g n m s r:Nat),.int .i64 0])/\Below w.heap.size w w':=by
  have H:=Qk (cost_ask.small g n m s r h0 h1 hs)
  obtain⟨b1,b2,b3,b4⟩:=hs
  have c6:r<=24*24:=Nat.le_trans b4 (Nat.mul_le_mul b1 b2)
  unfold shpV at *
  go_enter Tryz.func107,Tryz.ntmps107
  have HG:=Qk (qv w (.cells #[.int .i64 n,.int .i64 m,.int .i64 s,.int .i64 r] 30 (0,0)))
  have HB:=Qk (za (Below.refl w.heap.size w) (.cells #[.int .i64 n,.int .i64 m,.int .i64 s,.int .i64 r] 30 (0,0)))
  go_upto_region 3 with(first|(go_at_call 148;((with_reducible refine(H.out _).mono ?_);rintro e w2 ⟨rfl,hb⟩;have n0_:=Qk (zy HG.out hb);have n1_:=Qk (zi HB.out hb);clear HG HB hb;have HG:=n0_;have HB:=n1_;clear n0_ n1_)))
  have hz0:w2.cell? ⟨w.heap.size,0,none⟩=some (.int .i64 n):=(zf HG.out 0).trans rfl
  have hz1:w2.cell? ⟨w.heap.size,1,none⟩=some (.int .i64 m):=(zf HG.out 1).trans rfl
  have hz2:w2.cell? ⟨w.heap.size,2,none⟩=some (.int .i64 s):=(zf HG.out 2).trans rfl
  have hz3:w2.cell? ⟨w.heap.size,3,none⟩=some (.int .i64 r):=(zf HG.out 3).trans rfl
  go_quiet ((go_at_call 149;with_reducible exact Calls.quiet_of_same (Z6.word m b2 _)))
  have HBq:=Qk (zb HB.out nq)
  have HU0:=Qk (Z6.two n b1)
  have HU1:=Qk (Z6.two m b2)
  have hg:g=1\/g=2\/g=3\/g=4\/g=5\/g=6\/g=7\/g=8:=by omega
  have hz0:(w2.drewN nq).cell? ⟨w.heap.size,0,none⟩=some (.int .i64 n):=hz0
  have hz1:(w2.drewN nq).cell? ⟨w.heap.size,1,none⟩=some (.int .i64 m):=hz1
  have hz2:(w2.drewN nq).cell? ⟨w.heap.size,2,none⟩=some (.int .i64 s):=hz2
  have hz3:(w2.drewN nq).cell? ⟨w.heap.size,3,none⟩=some (.int .i64 r):=hz3
  generalize w2.drewN nq=w3 at HBq hz0 hz1 hz2 hz3 ⊢
  rcases hg with h|h|h|h|h|h|h|h
  all_goals
    (first|have j1:((g:Int) == 1)=true:=by rw[h];rfl
           |have j1:((g:Int) == 1)=false:=by rw[h];rfl)
    (first|have j2:((g:Int) == 2)=true:=by rw[h];rfl
           |have j2:((g:Int) == 2)=false:=by rw[h];rfl)
    (first|have j3:((g:Int) == 3)=true:=by rw[h];rfl
           |have j3:((g:Int) == 3)=false:=by rw[h];rfl)
    (first|have j4:((g:Int) == 4)=true:=by rw[h];rfl
           |have j4:((g:Int) == 4)=false:=by rw[h];rfl)
    (first|have j5:((g:Int) == 5)=true:=by rw[h];rfl
           |have j5:((g:Int) == 5)=false:=by rw[h];rfl)
    (first|have j6:((g:Int) == 6)=true:=by rw[h];rfl
           |have j6:((g:Int) == 6)=false:=by rw[h];rfl)
    (first|have j7:((g:Int) == 7)=true:=by rw[h];rfl
           |have j7:((g:Int) == 7)=false:=by rw[h];rfl)
    (first|have j8:((g:Int) == 8)=true:=by rw[h];rfl
           |have j8:((g:Int) == 8)=false:=by rw[h];rfl)
    have HG:=Qk h
    clear h
    go_wp2
    (try(go_quiet ((first|(go_at_call 149;with_reducible exact Calls.quiet_of_same (HU0.out _))|(go_at_call 149;with_reducible exact Calls.quiet_of_same (HU1.out _))));go_wp2))
    go_ret2
    refine⟨ret_pair ?_,by first|exact HBq.out|exact zb HBq.out _⟩
    clear HBq HU0 HU1 hz0 hz1 hz2 hz3 H j1 j2 j3 j4 j5 j6 j7 j8 h0 h1
    have c3:=upN_le n 2 b1 (by decide) (by decide)
    have c4:=upN_le m 2 b2 (by decide) (by decide)
    have c5:=upN_le m 64 b2 (by decide) (by decide)
    rw[HG.out]
    try simp(disch:=omega) only[wmul,wmul256,wroom,wrap_in]
    simp only[roomN]
    push_cast
    rfl
theorem cost_Fits.small(g n m s r:Nat)(h0:1<=g)(h1:g<=8)(hs:Small n m s r)(lim:Int)(w:World):Calls Tryz.prog 66 #[.int .i64 g,shpV n m s r,.int .i64 lim] w fun e w'=>e=.returned (.int .i64 (if lim<(roomN g n m s r:Nat)then 2 else 0))/\Below w.heap.size w w':=by
 have H:=Qk (cost_Room.small g n m s r h0 h1 hs);have HG:=Qk (qv w (.cells #[.int .i64 n,.int .i64 m,.int .i64 s,.int .i64 r] 30 (0,0)));have HB:=Qk (za (Below.refl w.heap.size w) (.cells #[.int .i64 n,.int .i64 m,.int .i64 s,.int .i64 r] 30 (0,0)));generalize roomN g n m s r=R at H ⊢;unfold shpV at *;by_cases hl:lim<(R:Int)
 ·have hd:decide (lim<(R:Int))=true:=Qm hl
  rw[if_pos hl];clear hl;go_enter Tryz.func66,Tryz.ntmps66;go_wp2_with (first|(go_at_call 107;((with_reducible refine(H.out _).mono ?_);rintro e w2 ⟨rfl,hb⟩)))
  go_ret;exact⟨rfl,zi HB.out hb⟩
 ·have hd:decide (lim<(R:Int))=false:=Qn hl
  rw[if_neg hl];clear hl;go_enter Tryz.func66,Tryz.ntmps66;go_wp2_with (first|(go_at_call 107;((with_reducible refine(H.out _).mono ?_);rintro e w2 ⟨rfl,hb⟩)))
  go_ret;exact⟨rfl,zi HB.out hb⟩
def Zj(f:Nat->Nat):Nat->Nat×Nat
 |0=>(0,0)
 |i+1=>if (Zj f i).1=0\/f (i+1)<(Zj f i).2 then(i+1,f (i+1))else Zj f i
def chooseN(n m r:Nat):Nat:=(Zj (fun g=>ZA g n m r) 8).1
theorem bestN_le(f:Nat->Nat):∀ i,(Zj f i).1<=i
 |0=>by simp[Zj]
 |i+1=>by
  have:=bestN_le f i;unfold Zj;split <;> simp <;> omega
theorem workN_le(g n m r:Nat)(hn:n<=24)(hm:m<=24)(hr:r<=n*m):ZA g n m r<=1000000:=by
 have c1:=lenN_le n hn;have c2:=lenN_le m hm;have c3:=upN_le n 2 hn (by decide) (by decide);have c4:=upN_le m 2 hm (by decide) (by decide);have c5:=upN_le m 64 hm (by decide) (by decide);have c6:r<=24*24:=Nat.le_trans hr (Nat.mul_le_mul hn hm);unfold ZA;split
 ·exact Nat.le_trans (Nat.mul_le_mul hn hm) (by decide)
 ·exact Nat.le_trans (Nat.mul_le_mul (show 2*n+lenN n<=53 by omega) hm) (by decide)
 ·have:=Nat.mul_le_mul (Nat.mul_le_mul_left 3 c3) c4;show 256+3*upN n 2*upN m 2<=_;omega
 ·exact Nat.le_trans (Nat.mul_le_mul (show n+m+r<=624 by omega) (show 1+lenN m<=6 by omega)) (by decide)
 ·exact Nat.le_trans (Nat.mul_le_mul (show n+m+1<=49 by omega) (show (n-m)+(m-n)+1<=49 by omega)) (by decide)
 ·exact Nat.le_trans (Nat.mul_le_mul (show n+m+1<=49 by omega) (show 2*((n-m)+(m-n))+1<=97 by omega)) (by decide)
 ·exact Nat.le_trans (Nat.mul_le_mul (show 2*n<=48 by omega) c5) (by decide)
 ·exact Nat.le_trans (Nat.mul_le_mul (show 3*n<=72 by omega) c5) (by decide)
 ·exact Nat.zero_le _
theorem bestN_spec (f : Nat → Nat) : ∀ i, 1 ≤ (Zj f (i + 1)).1 ∧ (Zj f (i + 1)).1 ≤ i + 1 ∧ (Zj f (i + 1)).2 = f (Zj f (i + 1)).1 ∧ (∀ j, 1 ≤ j → j ≤ i + 1 → f (Zj f (i + 1)).1 ≤ f j) ∧ ∀ j, 1 ≤ j → j < (Zj f (i + 1)).1 → f (Zj f (i + 1)).1 < f j
  | 0 => by
    have e : Zj f 1 = (1, f 1) := by simp [Zj]
    rw [e]
    exact ⟨by omega, by omega, rfl, fun j h1 h2 => by obtain rfl : j = 1 := by omega
                                                      exact Nat.le_refl _, fun j h1 h2 => by omega⟩
  | i + 1 => by
    obtain ⟨h1, h2, h3, h4, h5⟩ := bestN_spec f i
    have e : Zj f (i + 1 + 1) = if (Zj f (i + 1)).1 = 0 ∨ f (i + 1 + 1) < (Zj f (i + 1)).2 then (i + 1 + 1, f (i + 1 + 1)) else Zj f (i + 1) := rfl
    rw [e]
    by_cases hc : f (i + 1 + 1) < (Zj f (i + 1)).2
    · rw [if_pos (.inr hc)]
      rw [h3] at hc
      refine ⟨by simp, by simp, rfl, fun j a b => ?_, fun j a b => ?_⟩
      · by_cases ej : j = i + 1 + 1
        · subst ej; exact Nat.le_refl _
        · have := h4 j a (by omega); simp only; omega
      · have := h4 j a (by simp only at b; omega); simp only; omega
    · rw [if_neg (by omega)]
      refine ⟨h1, by omega, h3, fun j a b => ?_, h5⟩
      by_cases ej : j = i + 1 + 1
      · subst ej; omega
      · exact h4 j a (by omega)
theorem choose_rest:∀ n m:Fin 25,∀ g:Fin 9,g.val=2\/g.val=3\/g.val=5\/g.val=6\/g.val=8->ZA 1 n.val m.val 0<=ZA g.val n.val m.val 0\/ZA 7 n.val m.val 0<ZA g.val n.val m.val 0:=by decide +kernel
theorem upN_one(m:Nat)(h:1<=m)(hm:m<=24):upN m 64=1:=by unfold upN;omega
theorem chooseN_is(n m r:Nat)(hn:n<=24)(hm:m<=24):chooseN n m r=1\/chooseN n m r=7/\1<=m:=by
 obtain⟨h1,h2,_,h4,h5⟩:=bestN_spec (fun g=>ZA g n m r) 7;unfold chooseN;generalize (Zj (fun g=>ZA g n m r) (7+1)).1=g at h1 h2 h4 h5 ⊢;by_cases g1:g=1
 ·exact .inl g1
 by_cases g7:g=7
 ·refine .inr ⟨g7,?_⟩
  by_cases hm0:m=0
  ·subst hm0
   have h:=h5 1 (by omega) (by omega);subst g7;simp[ZA]at h
  ·omega
 ·exfalso
  have e1:ZA g n m r<ZA 1 n m r:=h5 1 (by omega) (by omega);have e7:ZA g n m r<=ZA 7 n m r:=h4 7 (by omega) (by omega);by_cases g4:g=4
  ·subst g4
   by_cases hm0:m=0
   ·subst hm0;simp[ZA]at e1
   ·have hl:1<=lenN m:=by unfold lenN;rw[if_neg hm0];omega
    have h1:ZA 7 n m r=2*n:=by show 2*n*upN m 64=_;rw[upN_one m (by omega) hm];omega
    have h2:(n+m+r)*2<=ZA 4 n m r:=Nat.mul_le_mul_left _ (show 2<=1+lenN m by omega);omega
  ·have hr:=choose_rest ⟨n,by omega⟩ ⟨m,by omega⟩ ⟨g,by omega⟩ (show g=2\/g=3\/g=5\/g=6\/g=8 by omega)
   have hg:ZA g n m r=ZA g n m 0:=by
    have:g=2\/g=3\/g=5\/g=6\/g=8:=by omega
    rcases this with rfl|rfl|rfl|rfl|rfl <;> rfl
   rw[hg]at e1 e7;have h1:ZA 1 n m r=ZA 1 n m 0:=rfl;have h7:ZA 7 n m r=ZA 7 n m 0:=rfl;rw[h1]at e1;rw[h7]at e7;simp only at hr;omega
theorem cost_Choose.small(n m s r:Nat)(hs:Small n m s r)(w:World):Calls Tryz.prog 65 #[shpV n m s r] w fun e w'=>e=.returned (.int .i64 (chooseN n m r:Nat))/\Below w.heap.size w w':=by
 have H:=Qk (fun(g:Nat) h0 h1=>cost_Work.small g n m s r h0 h1 hs);have HL:=Qk (fun g=>workN_le g n m r hs.hn hs.hm hs.hr);unfold chooseN;clear hs;generalize hf:(fun g=>ZA g n m r)=f;have hfg:∀ g,ZA g n m r=f g:=fun g=>by rw[← hf]
 clear hf;simp only[hfg]at H HL;clear hfg;have HG:=Qk (qv w (.cells #[.int .i64 n,.int .i64 m,.int .i64 s,.int .i64 r] 30 (0,0)));have HB:=Qk (za (Below.refl w.heap.size w) (.cells #[.int .i64 n,.int .i64 m,.int .i64 s,.int .i64 r] 30 (0,0)));unfold shpV at *;go_enter Tryz.func65,Tryz.ntmps65;go_wp2_with fail
 go_loopw [5,3,4] (fun v5 v3 v4 wr=>∃ i:Nat,i<=8/\v5=.int .i64 ((i:Int)+1)/\v3=.int .i64 ((Zj f i).1:Nat)/\v4=.int .i64 ((Zj f i).2:Nat)/\Aside0 (wr.heap[w.heap.size]?=some (.cells #[.int .i64 n,.int .i64 m,.int .i64 s,.int .i64 r] 30 (0,0)))/\Aside0 (Below w.heap.size w wr)) (fun v5 _ _ _=>10-(intOf v5).toNat)
 case atStart=>exact⟨0,by omega,rfl,rfl,rfl,HG,HB⟩
 case round =>
  clear HG HB;obtain⟨i,hi,rfl,rfl,rfl,HG,HB⟩:=hrel;by_cases hlt:i<8
  ·have hz0:wr.cell? ⟨w.heap.size,0,none⟩=some (.int .i64 n):=(zf HG.out 0).trans rfl
   have hz1:wr.cell? ⟨w.heap.size,1,none⟩=some (.int .i64 m):=(zf HG.out 1).trans rfl;have hz2:wr.cell? ⟨w.heap.size,2,none⟩=some (.int .i64 s):=(zf HG.out 2).trans rfl;have hz3:wr.cell? ⟨w.heap.size,3,none⟩=some (.int .i64 r):=(zf HG.out 3).trans rfl;have HW:=H.out (i+1) (by omega) (by omega);rw[Int.natCast_succ]at HW;have HW:=Qk HW;have HS:=Qk (show Zj f (i+1)=if (Zj f i).1=0\/f (i+1)<(Zj f i).2 then(i+1,f (i+1))else Zj f i from rfl);have HM:=Qk (HL.out (i+1));generalize hb:Zj f i=p at HS ⊢;obtain⟨b,l⟩:=p;have HBI:=Qk hb;clear hb;simp only at HS;generalize hF:f (i+1)=F at HW HS HM;clear hF;have t1:decide ((i:Int)+1<=8)=true:=Qm (by omega);have hb0:b<=8:=by have:=bestN_le f i;rw[HBI.out]at this;simp only at this;omega
   have stop:∀ (W:World) (q:Nat×Nat),q=Zj f (i+1)->Below wr.heap.size wr W->∃ i':Nat,i'<=8/\Value.int .i64 ((i:Int)+1+1)=.int .i64 ((i':Int)+1)/\Value.int .i64 (q.1:Nat)=.int .i64 ((Zj f i').1:Nat)/\Value.int .i64 (q.2:Nat)=.int .i64 ((Zj f i').2:Nat)/\Aside0 (W.heap[w.heap.size]?=some (.cells #[.int .i64 n,.int .i64 m,.int .i64 s,.int .i64 r] 30 (0,0)))/\Aside0 (Below w.heap.size w W):=fun W q hq hW=>⟨i+1,by omega,by rw[Int.natCast_succ],by rw[hq],by rw[hq],⟨zy HG.out hW⟩,⟨zi HB.out hW⟩⟩
   by_cases hbz:b=0
   ·have q1:((b:Int) == 0)=true:=beq_iff_eq.mpr (by omega)
    have HQ:=Qk (show (i+1,F)=Zj f (i+1) by rw[HS.out,if_pos (.inl hbz)]);clear hbz;go_wp2_with (first|(go_at_call 106;((with_reducible refine(HW.out _).mono ?_);rintro e w2 ⟨rfl,hb⟩)))
    go_roundw
    case rel=>exact stop _ _ HQ.out hb
    case measure=>simp[intOf];omega
   ·have q1:((b:Int) == 0)=false:=beq_eq_false_iff_ne.mpr (by omega)
    by_cases hl:F<l
    ·have q2:decide ((F:Int)<l)=true:=Qm (by omega)
     have q3:decide (F<l)=true:=Qm hl;have HQ:=Qk (show (i+1,F)=Zj f (i+1) by rw[HS.out,if_pos (.inr hl)]);clear hbz hl;go_wp2_with (first|(go_at_call 106;((with_reducible refine(HW.out _).mono ?_);rintro e w2 ⟨rfl,hb⟩)))
     go_roundw
     case rel=>exact stop _ _ HQ.out hb
     case measure=>simp[intOf];omega
    ·have q2:decide ((F:Int)<l)=false:=Qn (by omega)
     have q3:decide (F<l)=false:=Qn hl;have HQ:=Qk (show (b,l)=Zj f (i+1) by rw[HS.out,if_neg (by simp only[not_or];exact⟨hbz,hl⟩)]);clear hbz hl;go_wp2_with (first|(go_at_call 106;((with_reducible refine(HW.out _).mono ?_);rintro e w2 ⟨rfl,hb⟩)))
     go_roundw
     case rel=>exact stop _ _ HQ.out hb
     case measure=>simp[intOf];omega
  ·obtain rfl:i=8:=by omega
   go_wp2;go_ret;exact⟨rfl,HB.out⟩
theorem step_append_run{P:Program}{ops:Array Oper}{o:Oper}{a:Act}{w w':World}{K:Act->World->Prop}{Q:Exit->Act->World->Prop}{E:Prop}(hg:o.guard=none)(s x:Operand)(t:TypeId)
 (ho:o.op=.call { callee:=.builtin .append,args:=#[s,x],argTypes:=#[t,t] }) {v u v':Value} (hs:a.eval s=v) (hx:a.eval x=u) (hr:(Builtin.append_ #[t,t] o.type #[v,u]).run P w=.ok v' w') (hK:K (a.put o.dst v') w') :
 if Region.wanted o (yielded ops a.tmps)=true then Oper.wp P o a w K Q else E:=by
 have hw:Region.wanted o (yielded ops a.tmps)=true:=by simp[Region.wanted,hg]
 rw[if_pos hw];unfold Oper.wp execOp;simp only[ho,resolve,invoke,builtin,Sem.run_bind,Sem.run_pure,Result.andThen_ok,List.map_toArray,List.map_cons,List.map_nil,hs,hx,hr];exact hK
def toP(p:Nat×Nat):S54:=⟨p.1,p.2⟩
end Go.Proofs.YtdiojfaenfggkaaGreat.PTopNear
