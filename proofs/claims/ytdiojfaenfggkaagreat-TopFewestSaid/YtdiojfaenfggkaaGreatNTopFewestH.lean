/- Functions of the given program, each a Lean function and the walk that shows it. -/
import Derived.Test.YtdiojfaenfggkaaGreatNTopFewestG
import Derived.Outline
import Derived.Deep.RegionHeld3
import Derived.Deep.DeepCutAuto
import Derived.Deep.QuietTactic
import Derived.BigQuiet
import Derived.IntWalk
namespace Go.Proofs.YtdiojfaenfggkaaGreat.PTopNear
open Go.RowKit Go.Proofs.YtdiojfaenfggkaaGreatW.PrintWords Go.Proofs.YtdiojfaenfggkaaGreatW.PrintLast Go.Proofs.YtdiojfaenfggkaaGreatW.PrintMore
attribute [local go_sem] qW qU Zg Zf qK qJ qV qT
set_option linter.unusedVariables false
set_option linter.unusedSimpArgs false
theorem number_go(b:List Int)(hb:b.length<=100000)(m:Int)(a:Nat):∀ (d k i n:Nat),i+d=b.length->2*d+2<=k->a<=i->n<=1048576->(i=a->n=0)->(1<i-a->b.getD a 0≠48) ->
 ∃ r,zj.l0 k (n:Int) (a:Int) b (i:Int) m=some r/\match Qc b a i n with
  |some (v,j)=>r=((v:Int),true,(j:Int),m)
  |none=>∃ (z:Int) (j:Nat),r=(z,false,(j:Int),m)/\j<=b.length:=by
 intro d
 induction d with
 |zero =>
  intro k i n hi hk ha hn h0 h1;obtain⟨k,rfl⟩:∃ m,k=m+2:=⟨k-2,by omega⟩
  rw[zj.l0,if_neg (by omega),zj.j1,if_neg (by decide)];refine⟨_,rfl,?_⟩;unfold Qc;rw[digN_stop b i n (fun h=>by omega)];simp only[Nat.add_zero];by_cases c1:i=a
  ·subst c1;rw[if_pos (by omega)];exact⟨n,i,by rw[Qn (by omega)],by omega⟩
  ·rw[if_neg (by
    rintro(h|h|h)
    ·omega
    ·exact h1 h.1 h.2
    ·omega)]
   show _=_
   rw[Qm (by omega)]
 |succ d ih =>
  intro k i n hi hk ha hn h0 h1;obtain⟨k,rfl⟩:∃ m,k=m+2:=⟨k-2,by omega⟩
  by_cases c:48<=b.getD i 0/\b.getD i 0<=57
  ·obtain⟨c1,c2⟩:=c
   rw[zj.l0,if_pos (by omega),if_pos (by omega),rd_NN,if_pos c1,Qm c2,zj.j1,if_pos rfl,if_pos (by omega),if_pos (by omega),rd_NN,digit_mod c1 c2];rw[numGo_step b a i n ha (by omega) c1 c2];have hd:(b.getD i 0-48).toNat<=9:=by omega
   rw[wr64 (x:=10*(n:Int)) (by omega) (by omega),wr64 (x:=10*(n:Int)+_) (by omega) (by omega),wr64 (x:=(i:Int)+1) (by omega) (by omega),wr64 (x:=(i:Int)+1-_) (by omega) (by omega),rd_NN];have next:10*n+(b.getD i 0-48).toNat<=1048576->(1<i+1-a->b.getD a 0≠48)->_:=fun hn' hz=>ih k (i+1) (10*n+(b.getD i 0-48).toNat) (by omega) (by omega) (by omega) hn' (by omega) hz
   rw[show ((10*n+(b.getD i 0-48).toNat:Nat):Int)=10*(n:Int)+((b.getD i 0-48).toNat:Int) by omega,show ((i+1:Nat):Int)=(i:Int)+1 by omega]at next
   by_cases c3:1048576<10*n+(b.getD i 0-48).toNat
   ·rw[if_pos (by omega)]
    refine⟨_,rfl,?_⟩;have hn:Qc b a (i+1) (10*n+(b.getD i 0-48).toNat)=none:=by
     unfold Qc;have:=digN_le (b.drop (i+1)) (10*n+(b.getD i 0-48).toNat);exact if_pos (by omega)
    rw[hn];exact⟨0,i+1,by simp,by omega⟩
   ·rw[if_neg (by omega)]
    by_cases c4:1<i+1-a
    ·rw[if_pos (by omega),if_pos (by omega),if_pos (by omega)]
     by_cases c5:b.getD a 0=48
     ·rw[if_pos c5]
      refine⟨_,rfl,?_⟩;have hn:Qc b a (i+1) (10*n+(b.getD i 0-48).toNat)=none:=by
       unfold Qc;exact if_pos (.inr (.inl ⟨by omega,c5⟩))
      rw[hn];exact⟨0,i+1,by simp,by omega⟩
     ·rw[if_neg c5]
      exact next (by omega) (fun _=>c5)
    ·rw[if_neg (by omega)]
     exact next (by omega) (fun h=>absurd h c4)
  ·have e:zj.l0 (k+1+1) (n:Int) (a:Int) b (i:Int) m=zj.j1 (k+1) (n:Int) (a:Int) false b (i:Int) m:=by
    rw[zj.l0,if_pos (by omega),if_pos (by omega),rd_NN];by_cases c1:48<=b.getD i 0
    ·rw[if_pos c1,Qn (fun h=>c ⟨c1,h⟩)]
    ·rw[if_neg c1]
   rw[e,zj.j1,if_neg (by decide)];refine⟨_,rfl,?_⟩;unfold Qc;rw[digN_stop b i n (fun h=>c h.2)];simp only[Nat.add_zero];by_cases c1:i=a
   ·subst c1;rw[if_pos (by omega)];exact⟨n,i,by rw[Qn (by omega)],by omega⟩
   ·rw[if_neg (by
     rintro(h|h|h)
     ·omega
     ·exact h1 h.1 h.2
     ·omega)]
    show _=_
    rw[Qm (by omega)]
theorem ZH(b:List Int)(hb:b.length<=300)(m:Int)(a:Nat)(ha:a<=b.length)(k:Nat)(hk:700<=k) :
 ∃ r,zj.f k b (a:Int) m=some r/\match numN b a with
  |some (v,j)=>r=((v:Int),true,(j:Int),m)
  |none=>∃ (z:Int) (j:Nat),r=(z,false,(j:Int),m)/\j<=b.length:=by
 unfold zj.f;rw[← numGo_start];exact number_go b (by omega) m a (b.length-a) k a 0 (by omega) (by omega) (Nat.le_refl _) (by omega) (fun _=>rfl) (fun h=>absurd h (by omega))
theorem toNums_u8(s:ByteArray):Lib.bytesOf (bytesOf s)=s.data.toList:=by
 unfold bytesOf Lib.bytesOf;rw[List.map_map];conv=>rhs;rw[← List.map_id s.data.toList]
 refine List.map_congr_left fun x _=>?_
 simp
theorem bytes_inj:∀ {x y:List Int},u8s x->u8s y->Lib.bytesOf x=Lib.bytesOf y->x=y
 |[],[],_,_,_=>rfl
 |[],_::_,_,_,h=>by cases h
 |_::_,[],_,_,h=>by cases h
 |c::x,d::y,hx,hy,h=>by
  have h1:UInt8.ofNat c.toNat=UInt8.ofNat d.toNat:=by injection h
  have h2:Lib.bytesOf x=Lib.bytesOf y:=by injection h
  have hc:=hx c (by simp);have hd:=hy d (by simp);have h3:c.toNat=d.toNat:=by
   have:=congrArg UInt8.toNat h1;simp at this;omega
  rw[bytes_inj (fun z hz=>hx z (by simp[hz])) (fun z hz=>hy z (by simp[hz])) h2,show c=d by omega]
theorem bytesOf_u8(s:ByteArray):u8s (bytesOf s):=fun x hx=>by
 unfold bytesOf at hx;obtain⟨c,_,rfl⟩:=List.mem_map.1 hx;have:=c.toNat_lt;omega
theorem text_eq(b:List Int)(hb:b.length<=300)(hu:u8s b)(m:Int)(i:Nat)(hi:i<=b.length)(s:ByteArray)(hs:s.size<=300) :
 zq.f b (i:Int) m s=some (if (b.drop i).take s.size=bytesOf s then(true,((i+s.size:Nat):Int),m)else(false,(i:Int),m)):=by
 unfold zq.f;rw[if_pos ⟨by omega,by omega,by omega⟩,Int.toNat_natCast,Lib.strOfNums_toList,Lib.strOfNums_toList,Zp];by_cases c:(b.drop i).take s.size=bytesOf s
 ·have hl:s.size<=(b.drop i).length:=by
   have:=congrArg List.length c;rw[List.length_take,Zp]at this;omega
  rw[if_pos c,c,Qm hl,if_pos (by simp),wr64 (by omega) (by omega)];rfl
 ·rw[if_neg c,if_neg]
  rw[Bool.and_eq_true,beq_iff_eq];rintro⟨_,h⟩;exact c (bytes_inj (u8s_take (u8s_drop hu i) _) (bytesOf_u8 s) h)
theorem text_one(b:List Int)(hb:b.length<=300)(hu:u8s b)(m:Int)(i:Nat)(hi:i<=b.length)(c:UInt8) :
 zq.f b (i:Int) m ⟨#[c]⟩=some (match qQ b i (c.toNat:Int)with|some j=>(true,(j:Int),m)|none=>(false,(i:Int),m)):=by
 rw[text_eq b hb hu m i hi ⟨#[c]⟩ (by show 1<=300;omega)];have e1:bytesOf ⟨#[c]⟩=[(c.toNat:Int)]:=rfl;have e2:(⟨#[c]⟩:ByteArray).size=1:=rfl;rw[e1,e2];unfold qQ;by_cases h:i<b.length
 ·have e3:(b.drop i).take 1=[b.getD i 0]:=by
   have e4:b.getD i 0=b[i]:=by simp[List.getD_eq_getElem?_getD,h]
   rw[List.drop_eq_getElem_cons h,List.take_succ_cons,List.take_zero,e4]
  rw[e3];by_cases hc:b.getD i 0=(c.toNat:Int)
  ·rw[if_pos (by rw[hc]),if_pos ⟨h,hc⟩]
  ·rw[if_neg (fun h'=>hc (by injection h')),if_neg (fun h'=>hc h'.2)]
 ·have e3:(b.drop i).take 1=[]:=by rw[List.drop_eq_nil_of_le (by omega)];rfl
  rw[e3,if_neg (by simp),if_neg (fun h'=>h h'.1)]
theorem ZJ{b:List Int}{i n k:Nat}(h:numN b i=some (n,k)):n<=1048576/\i<k/\k<=b.length:=numN_is h
theorem rline_eq(b:List Int)(hb:b.length<=300)(i:Nat)(hi:i<b.length)(k:Nat)(hk:700<=k) :
 qA.f k b (i:Int)=some (match ZX b (i+1)with|some (x,y,z,q)=>((x:Int),(y:Int),(z:Int),(q:Int))|none=>(0,0,0,-1)):=by
 unfold qA.f;rw[wr64 (by omega) (by omega),show (i:Int)+1=((i+1:Nat):Int) by omega,Number_eq b hb (i+1) (by omega) k hk,bsd]
 cases h1:numN b (i+1)with
 |none =>
  simp only[ansN,ZX,h1,Option.bind_eq_bind,Option.bind_none];rw[sign_neg,bsd,if_neg (by decide)]
 |some p =>
  obtain⟨x,i1⟩:=p;have l1:=ZJ h1;simp only[ansN];rw[sign_eq,bsd]
  cases h2:(qQ b i1 32).isSome with
  |false =>
   have h2':=ZP h2;simp only[ZX,h1,h2',Option.bind_eq_bind,Option.bind_none,Option.bind_some];rw[if_neg (by decide)]
  |true =>
   obtain⟨h2',l2⟩:=ZO h2;rw[if_pos rfl,wr64 (by omega) (by omega),show (i1:Int)+1=((i1+1:Nat):Int) by omega,Number_eq b hb (i1+1) (by omega) k hk,bsd]
   cases h3:numN b (i1+1)with
   |none =>
    simp only[ansN,ZX,h1,h2',h3,Option.bind_eq_bind,Option.bind_none,Option.bind_some];rw[sign_neg,bsd,if_neg (by decide)]
   |some p =>
    obtain⟨y,i2⟩:=p;have l3:=ZJ h3;simp only[ansN];rw[sign_eq,bsd]
    cases h4:(qQ b i2 32).isSome with
    |false =>
     have h4':=ZP h4;simp only[ZX,h1,h2',h3,h4',Option.bind_eq_bind,Option.bind_none,Option.bind_some];rw[if_neg (by decide)]
    |true =>
     obtain⟨h4',l4⟩:=ZO h4;rw[if_pos rfl,wr64 (by omega) (by omega),show (i2:Int)+1=((i2+1:Nat):Int) by omega,Number_eq b hb (i2+1) (by omega) k hk,bsd]
     cases h5:numN b (i2+1)with
     |none =>
      simp only[ansN,ZX,h1,h2',h3,h4',h5,Option.bind_eq_bind,Option.bind_none,Option.bind_some];rw[sign_neg,bsd,if_neg (by decide)]
     |some p =>
      obtain⟨z,i3⟩:=p;have l5:=ZJ h5;simp only[ansN];rw[sign_eq,bsd]
      cases h6:(qQ b i3 10).isSome with
      |false =>
       have h6':=ZP h6;simp only[ZX,h1,h2',h3,h4',h5,h6',Option.bind_eq_bind,Option.bind_none,Option.bind_some];rw[if_neg (by decide)]
      |true =>
       obtain⟨h6',l6⟩:=ZO h6;simp only[ZX,h1,h2',h3,h4',h5,h6',Option.bind_eq_bind,Option.bind_some,Option.pure_def];rw[if_pos trivial,wr64 (by omega) (by omega)];rfl
theorem pj0_false(b:List Int)(hb:b.length<=300)(m x:Int)(i:Nat)(hi:i<=b.length)(k:Nat)(hk:701<=k) :
 ∃ (y z:Int) (j:Nat),zH.j0 k x false b (i:Int) m=some (x,y,z,false,(j:Int),m)/\j<=b.length:=by
 obtain⟨k,rfl⟩:∃ n,k=n+1:=⟨k-1,by omega⟩
 rw[zH.j0];obtain⟨r,e1,h1⟩:=ZH b hb m i hi k (by omega);have hr:∃ (v:Int) (o:Bool) (j:Nat),r=(v,o,(j:Int),m)/\j<=b.length:=by
  cases h:numN b i with
  |none=>rw[h]at h1;obtain⟨z,j,rfl,hj⟩:=h1;exact⟨_,_,j,rfl,hj⟩
  |some p=>obtain⟨v,j⟩:=p;rw[h]at h1;exact⟨_,_,j,h1,(ZJ h).2.2⟩
 obtain⟨v,o,j,rfl,hj⟩:=hr;obtain⟨r2,e2,h2⟩:=ZH b hb m j hj k (by omega);have hr2:∃ (v:Int) (o:Bool) (j':Nat),r2=(v,o,(j':Int),m)/\j'<=b.length:=by
  cases h:numN b j with
  |none=>rw[h]at h2;obtain⟨z,j',rfl,hj'⟩:=h2;exact⟨_,_,j',rfl,hj'⟩
  |some p=>obtain⟨v,j'⟩:=p;rw[h]at h2;exact⟨_,_,j',h2,(ZJ h).2.2⟩
 obtain⟨v2,o2,j2,rfl,hj2⟩:=hr2;rw[e1,bsd,if_neg (by decide)];dsimp only;rw[e2,bsd];exact⟨v,v2,j2,rfl,hj2⟩
theorem pj0_true(b:List Int)(hb:b.length<=300)(hu:u8s b)(m:Int)(x i:Nat)(hi:i<=b.length)(k:Nat)(hk:701<=k) :
 ∃ r,zH.j0 k (x:Int) true b (i:Int) m=some r/\match (numN b i).bind fun p=>(qQ b p.2 32).bind fun j=>(numN b j).bind fun q=>(qQ b q.2 10).bind fun e=>some (p.1,q.1,e)with
  |some (y,z,q)=>r=((x:Int),(y:Int),(z:Int),true,(q:Int),m)
  |none=>∃ (y z:Int) (j:Nat),r=((x:Int),y,z,false,(j:Int),m)/\j<=b.length:=by
 obtain⟨k,rfl⟩:∃ n,k=n+1:=⟨k-1,by omega⟩
 rw[zH.j0];obtain⟨r,e1,h1⟩:=ZH b hb m i hi k (by omega);rw[e1,bsd,if_pos rfl]
 cases h:numN b i with
 |none =>
  rw[h]at h1;obtain⟨z,j,rfl,hj⟩:=h1;simp only[Option.bind_none];rw[if_neg (by decide)];obtain⟨r2,e2,h2⟩:=ZH b hb m j hj k (by omega);have hr2:∃ (v:Int) (o:Bool) (j':Nat),r2=(v,o,(j':Int),m)/\j'<=b.length:=by
   cases h:numN b j with
   |none=>rw[h]at h2;obtain⟨z,j',rfl,hj'⟩:=h2;exact⟨_,_,j',rfl,hj'⟩
   |some p=>obtain⟨v,j'⟩:=p;rw[h]at h2;exact⟨_,_,j',h2,(ZJ h).2.2⟩
  obtain⟨v2,o2,j2,rfl,hj2⟩:=hr2;rw[e2,bsd];exact⟨_,rfl,z,v2,j2,rfl,hj2⟩
 |some p =>
  obtain⟨y,i1⟩:=p;rw[h]at h1;subst h1;have l1:=ZJ h;simp only[Option.bind_some];rw[if_pos trivial,text_one b hb hu m i1 l1.2.2 32,bsd];have e32:((32:UInt8).toNat:Int)=32:=rfl;rw[e32]
  cases h2:qQ b i1 32 with
  |none =>
   simp only[Option.bind_none];obtain⟨r2,e2,h3⟩:=ZH b hb m i1 l1.2.2 k (by omega);have hr2:∃ (v:Int) (o:Bool) (j':Nat),r2=(v,o,(j':Int),m)/\j'<=b.length:=by
    cases h:numN b i1 with
    |none=>rw[h]at h3;obtain⟨z,j',rfl,hj'⟩:=h3;exact⟨_,_,j',rfl,hj'⟩
    |some p=>obtain⟨v,j'⟩:=p;rw[h]at h3;exact⟨_,_,j',h3,(ZJ h).2.2⟩
   obtain⟨v2,o2,j2,rfl,hj2⟩:=hr2;rw[e2,bsd,if_neg (by decide)];exact⟨_,rfl,y,v2,j2,rfl,hj2⟩
  |some i2 =>
   have l2:=Zv h2;simp only[Option.bind_some];obtain⟨r2,e2,h3⟩:=ZH b hb m i2 (by omega) k (by omega);rw[e2,bsd,if_pos trivial]
   cases h4:numN b i2 with
   |none =>
    rw[h4]at h3;obtain⟨z,j,rfl,hj⟩:=h3;simp only[Option.bind_none];rw[if_neg (by decide)];exact⟨_,rfl,y,z,j,rfl,hj⟩
   |some q =>
    obtain⟨z,i3⟩:=q;rw[h4]at h3;subst h3;have l4:=ZJ h4;simp only[Option.bind_some];rw[if_pos trivial,text_one b hb hu m i3 l4.2.2 10,bsd];have e10:((10:UInt8).toNat:Int)=10:=rfl;rw[e10]
    cases h5:qQ b i3 10 with
    |none=>exact⟨_,rfl,y,z,i3,rfl,l4.2.2⟩
    |some i4=>exact⟨_,rfl,rfl⟩
theorem pline_eq(b:List Int)(hb:b.length<=300)(hu:u8s b)(m:Int)(i:Nat)(hs:qQ b i 64=some (i+1))(k:Nat)(hk:701<=k) :
 ∃ r,zH.f k b (i:Int) m=some r/\match ZX b (i+1)with
  |some (x,y,z,q)=>r=((x:Int),(y:Int),(z:Int),true,(q:Int),m)
  |none=>∃ (x y z:Int) (j:Nat),r=(x,y,z,false,(j:Int),m)/\j<=b.length:=by
 unfold zH.f;have ls:=Zv hs;have e64:((64:UInt8).toNat:Int)=64:=rfl;rw[text_one b hb hu m i (by omega) 64,bsd,e64,hs];simp only;rw[if_pos trivial];obtain⟨r,e1,h1⟩:=ZH b hb m (i+1) (by omega) k (by omega);rw[e1,bsd]
 cases h:numN b (i+1)with
 |none =>
  rw[h]at h1;obtain⟨z,j,rfl,hj⟩:=h1;rw[if_neg (by simp)];obtain⟨y,z',j',e,hj'⟩:=pj0_false b hb m z j hj k hk;dsimp only;rw[e];have:ZX b (i+1)=none:=by simp only[ZX,h,Option.bind_eq_bind,Option.bind_none]
  rw[this];exact⟨_,rfl,z,y,z',j',rfl,hj'⟩
 |some p =>
  obtain⟨x,i1⟩:=p;rw[h]at h1;subst h1;have l1:=ZJ h;dsimp only;have e32:((32:UInt8).toNat:Int)=32:=rfl;rw[if_pos rfl,text_one b hb hu m i1 l1.2.2 32,bsd,e32]
  cases h2:qQ b i1 32 with
  |none =>
   obtain⟨y,z',j',e,hj'⟩:=pj0_false b hb m x i1 l1.2.2 k hk;dsimp only;rw[e];have:ZX b (i+1)=none:=by simp only[ZX,h,h2,Option.bind_eq_bind,Option.bind_some,Option.bind_none]
   rw[this];exact⟨_,rfl,x,y,z',j',rfl,hj'⟩
  |some i2 =>
   have l2:=Zv h2;obtain⟨r,e,hr⟩:=pj0_true b hb hu m x i2 (by omega) k hk;dsimp only;rw[e];refine⟨r,rfl,?_⟩;have:ZX b (i+1)=((numN b i2).bind fun p=>(qQ b p.2 32).bind fun j=>(numN b j).bind fun q=>(qQ b q.2 10).bind fun e=>some (p.1,q.1,e)).bind fun t=>some (x,t.1,t.2.1,t.2.2):=by
    simp only[ZX,h,h2,Option.bind_eq_bind,Option.bind_some,Option.pure_def,Option.bind_assoc]
   rw[this]
   cases hN:((numN b i2).bind fun p=>(qQ b p.2 32).bind fun j=>(numN b j).bind fun q=>(qQ b q.2 10).bind fun e=>some (p.1,q.1,e))with
   |none=>rw[hN]at hr;obtain⟨y,z,j,e1,e2⟩:=hr;exact⟨x,y,z,j,e1,e2⟩
   |some t=>obtain⟨y,z,q⟩:=t;rw[hN]at hr;exact hr
theorem index_neg:∀ b:List Int,u8s b->decide (Lib.indexByte (Lib.bytesOf b) (10:Int).toNat.toUInt8<0)=decide ((10:Int)∉b)
 |[],_=>rfl
 |c::t,h=>by
  have ih:=index_neg t (fun x hx=>h x (List.mem_cons_of_mem _ hx));have hc:=ten_iff c (h c List.mem_cons_self);have e:Lib.bytesOf (c::t)=UInt8.ofNat c.toNat::Lib.bytesOf t:=rfl;rw[e,Lib.indexByte,hc];by_cases c10:c=10
  ·rw[Qm c10,if_pos rfl,c10]
   simp
  ·rw[Qn c10,if_neg (by decide)]
   rcases ZV t (fun x hx=>h x (List.mem_cons_of_mem _ hx))with⟨i1,_,_⟩|⟨i1,_⟩
   ·rw[i1]at ih ⊢
    rw[if_pos (by decide)];have:(10:Int)∉t:=by simpa using ih.symm
    rw[Qm (by decide),eq_comm,decide_eq_true_eq];rw[List.mem_cons];rintro(h|h)
    ·exact c10 h.symm
    ·exact this h
   ·have hne:(Lib.indexByte (Lib.bytesOf t) (10:Int).toNat.toUInt8 == -1)=false:=beq_eq_false_iff_ne.2 (by omega)
    rw[Qn (by omega)]at ih;have h10:(10:Int)∈t:=by simpa using ih.symm
    rw[hne,if_neg (by decide),Qn (by omega),eq_comm,decide_eq_false_iff_not];exact fun hn=>hn (List.mem_cons_of_mem _ h10)
theorem take_pred(t:List Int):t.take (t.length-1)=t.dropLast:=by rw[List.dropLast_eq_take]
theorem pIs_eq(m:Bool)(t:List Int)(ht:t.length<=300)(hu:u8s t):tok_Is.f (z7 m) t=some (isTok m t):=by
 unfold tok_Is.f qp.f
 cases m with
 |false =>
  rw[show z7 false=0 from rfl,if_pos rfl]
  unfold isTok;rw[if_neg (by decide)];congr 1;by_cases c:t.length=1
  ·rw[Qm c,c];rfl
  ·rw[Qn c];exact beq_eq_false_iff_ne.2 (by omega)
 |true =>
  rw[show z7 true=1 from rfl,if_neg (by decide),if_pos rfl]
  unfold isTok;rw[if_pos rfl];by_cases c:t=[]
  ·subst c
   rw[if_neg (by simp)];simp
  ·have hl:0<t.length:=List.length_pos_iff.2 c
   rw[if_pos (by omega),wr64 (by omega) (by omega),if_pos (by omega),if_pos (by omega),bsd,show ((t.length:Int)-1).toNat=t.length-1 by omega,index_neg _ (u8s_take hu _),take_pred]
   congr 1;rw[Bool.eq_iff_iff,decide_eq_true_eq,decide_eq_true_eq];exact⟨fun h=>⟨c,h⟩,fun h=>h.2⟩
theorem rIs_l0(t:List Int)(ht:t.length<=300):∀ (d k p:Nat),p+d=t.length->d<k->zP.l0 k t (p:Int)=some (decide ((10:Int)∉t.dropLast.drop p)):=by
 intro d
 induction d with
 |zero =>
  intro k p hp hk;obtain⟨k,rfl⟩:∃ m,k=m+1:=⟨k-1,by omega⟩
  rw[zP.l0,wr64 (by omega) (by omega),if_neg (by omega),List.drop_eq_nil_of_le (by simp;omega)];simp
 |succ d ih =>
  intro k p hp hk;obtain⟨k,rfl⟩:∃ m,k=m+1:=⟨k-1,by omega⟩
  have h4:=ih k (p+1) (by omega) (by omega);simp only[Int.natCast_add,Int.cast_ofNat_Int]at h4;rw[zP.l0,wr64 (by omega) (by omega)];by_cases c:p+1<t.length
  ·have hp:p<t.dropLast.length:=by simp;omega
   have e4:t.getD p 0=t.dropLast[p]:=by simp[List.getD_eq_getElem?_getD,show p<t.length by omega]
   rw[if_pos (by omega),if_pos (by omega),if_pos (by omega),rd_NN,h4,List.drop_eq_getElem_cons hp,e4];by_cases c1:t.dropLast[p]=10
   ·rw[if_pos c1,c1];simp
   ·rw[if_neg c1]
    congr 1;rw[Bool.eq_iff_iff,decide_eq_true_eq,decide_eq_true_eq,List.mem_cons];exact⟨fun h h'=>h'.elim (fun e=>c1 e.symm) h,fun h h'=>h (.inr h')⟩
  ·rw[if_neg (by omega),List.drop_eq_nil_of_le (by simp;omega)]
   simp
theorem rIs_eq(m:Bool)(t:List Int)(ht:t.length<=300)(k:Nat)(hk:400<=k):zP.f k (z7 m) t=some (isTok m t):=by
 unfold zP.f
 cases m with
 |false =>
  rw[show z7 false=0 from rfl,if_pos rfl]
  unfold isTok;rw[if_neg (by decide)];congr 1;by_cases c:t.length=1
  ·rw[Qm c,c];rfl
  ·rw[Qn c];exact beq_eq_false_iff_ne.2 (by omega)
 |true =>
  obtain⟨k,rfl⟩:∃ m,k=m+1:=⟨k-1,by omega⟩
  rw[show z7 true=1 from rfl,if_neg (by decide),if_pos rfl,zP.j0]
  unfold isTok;rw[if_pos rfl];by_cases c:t=[]
  ·subst c
   rw[if_pos (by rfl)];simp
  ·have hl:0<t.length:=List.length_pos_iff.2 c
   have:=rIs_l0 t ht t.length k 0 (by omega) (by omega);rw[if_neg (by simpa using c)];refine this.trans ?_;rw[List.drop_zero];congr 1;rw[Bool.eq_iff_iff,decide_eq_true_eq,decide_eq_true_eq];exact⟨fun h=>⟨c,h⟩,fun h=>h.2⟩
theorem cut_tok(b:List Int)(i n:Nat):(b.take (i+n)).drop i=(b.drop i).take n:=by rw[List.drop_take];congr 1;omega
theorem rtok_eq(m:Bool)(b:List Int)(hb:b.length<=300)(i:Nat)(hi:i<=b.length)(k:Nat)(hk:700<=k) :
 qk.f k (z7 m) b (i:Int)=some (match tokN m b i with|some (t,q)=>(t,(q:Int))|none=>([],-1)):=by
 unfold qk.f;rw[Number_eq b hb i hi k hk,bsd]
 cases h1:numN b i with
 |none =>
  simp only[ansN,tokN,h1,Option.bind_eq_bind,Option.bind_none];rw[sign_neg,bsd,if_neg (by decide)]
 |some p =>
  obtain⟨n,i1⟩:=p;have l1:=ZJ h1;have eA:ansN (some (n,i1))=((n:Int),(i1:Int)):=rfl;rw[eA];dsimp only;rw[sign_eq,bsd]
  cases h2:(qQ b i1 58).isSome with
  |false =>
   have h2':=ZP h2;simp only[tokN,h1,h2',Option.bind_eq_bind,Option.bind_none,Option.bind_some];rw[if_neg (by decide)]
  |true =>
   obtain⟨h2',l2⟩:=ZO h2;rw[if_pos rfl,if_pos ⟨by omega,by omega,by omega,by omega,by omega⟩];simp only[tokN,h1,h2',Option.bind_eq_bind,Option.bind_some];by_cases c:b.length<i1+1+n
   ·rw[if_pos (by omega),if_pos c]
   ·rw[if_neg (by omega),if_neg c,show (i1:Int)+1+(n:Int)=((i1+1+n:Nat):Int) by omega,sign_eq,bsd,show (i1:Int)+1=((i1+1:Nat):Int) by omega,Int.toNat_natCast,Int.toNat_natCast,cut_tok]
    cases h3:(qQ b (i1+1+n) 10).isSome with
    |false =>
     have h3':=ZP h3;simp only[h3',Option.bind_none];rw[if_neg (by decide)]
    |true =>
     obtain⟨h3',l3⟩:=ZO h3;simp only[h3',Option.bind_some];rw[if_pos trivial,rIs_eq m _ (by rw[List.length_take,List.length_drop];omega) k (by omega),bsd]
     cases h4:isTok m ((b.drop (i1+1)).take n)with
     |false=>rw[if_neg (by decide),if_neg (by decide)]
     |true=>rw[if_pos rfl,if_pos rfl];rfl
theorem ptok_eq(m:Bool)(b:List Int)(hb:b.length<=300)(hu:u8s b)(i:Nat)(hi:i<=b.length)(k:Nat)(hk:700<=k) :
 ∃ r,qu.f k b (i:Int) (z7 m)=some r/\match tokN m b i with
  |some (t,q)=>r=(t,true,(q:Int),z7 m)
  |none=>∃ (t:List Int) (j:Nat),r=(t,false,(j:Int),z7 m)/\j<=b.length:=by
 unfold qu.f;obtain⟨r,e1,hr⟩:=ZH b hb (z7 m) i hi k hk;rw[e1,bsd]
 cases h1:numN b i with
 |none =>
  rw[h1]at hr;obtain⟨z,j,rfl,hj⟩:=hr;rw[if_neg (by simp)];have:tokN m b i=none:=by simp only[tokN,h1,Option.bind_eq_bind,Option.bind_none]
  rw[this];exact⟨_,rfl,[],j,rfl,hj⟩
 |some p =>
  obtain⟨n,i1⟩:=p;rw[h1]at hr;subst hr;have l1:=ZJ h1;dsimp only;have e58:((58:UInt8).toNat:Int)=58:=rfl;have e10:((10:UInt8).toNat:Int)=10:=rfl;rw[if_pos rfl,text_one b hb hu (z7 m) i1 l1.2.2 58,bsd,e58]
  cases h2:qQ b i1 58 with
  |none =>
   have:tokN m b i=none:=by simp only[tokN,h1,h2,Option.bind_eq_bind,Option.bind_some,Option.bind_none]
   rw[this];dsimp only;rw[if_neg (by decide)];exact⟨_,rfl,[],i1,rfl,l1.2.2⟩
  |some i2 =>
   have l2:=Zv h2;dsimp only;rw[if_pos rfl,if_pos ⟨by omega,by omega,by omega,by omega⟩];simp only[tokN,h1,h2,Option.bind_eq_bind,Option.bind_some];by_cases c:b.length<i2+n
   ·rw[if_pos (by omega),if_pos c]
    exact⟨_,rfl,[],i2,rfl,by omega⟩
   ·rw[if_neg (by omega),if_neg c,show (i2:Int)+(n:Int)=((i2+n:Nat):Int) by omega,text_one b hb hu (z7 m) (i2+n) (by omega) 10,bsd,e10,Int.toNat_natCast,Int.toNat_natCast,cut_tok]
    cases h3:qQ b (i2+n) 10 with
    |none =>
     dsimp only;rw[if_neg (by decide)];exact⟨_,rfl,_,i2+n,rfl,by omega⟩
    |some i3 =>
     have l3:=Zv h3;dsimp only;rw[if_pos rfl,pIs_eq m _ (by rw[List.length_take,List.length_drop];omega) (u8s_take (u8s_drop hu _) _),bsd,Option.bind_some]
     cases h4:isTok m ((b.drop i2).take n)with
     |false =>
      rw[if_neg (by decide)];exact⟨_,rfl,_,i3,rfl,by omega⟩
     |true =>
      rw[if_pos rfl];exact⟨_,rfl,rfl⟩
theorem toksN_len{m:Bool}{b:List Int}{n i:Nat}{l:List (List Int)}{q:Nat}(h:q9 m b n i=some (l,q))(hi:i<=b.length):l.length=n/\i+n<=q/\q<=b.length :=
 ⟨(toksN_is h hi).1,(toksN_is h hi).2.2⟩
theorem ptoks_l0(m:Bool)(b:List Int)(hb:b.length<=300)(hu:u8s b):∀ (d k p i:Nat) (acc:List (List Int)) (N:Nat),p+d=N->N<=1048576->acc.length=p->i<=b.length->b.length-i+710<=k ->
 ∃ r,zI.l0 k acc (N:Int) (p:Int) b (i:Int) (z7 m)=some r/\match q9 m b d i with
  |some (l,q)=>r=(acc++l,0,true,(q:Int),z7 m)
  |none=>∃ (l:List (List Int)) (z:Int) (j:Nat),r=(l,z,false,(j:Int),z7 m)/\j<=b.length:=by
 intro d
 induction d with
 |zero =>
  intro k p i acc N hp hN ha hi hk;obtain⟨k,rfl⟩:∃ m,k=m+1:=⟨k-1,by omega⟩
  rw[zI.l0,if_neg (by omega),q9];exact⟨_,rfl,by simp⟩
 |succ d ih =>
  intro k p i acc N hp hN ha hi hk;obtain⟨k,rfl⟩:∃ m,k=m+1:=⟨k-1,by omega⟩
  rw[zI.l0,if_pos (by omega)];obtain⟨r,e1,hr⟩:=ptok_eq m b hb hu i hi k (by omega);rw[e1,bsd]
  cases h1:tokN m b i with
  |none =>
   rw[h1]at hr;obtain⟨t,j,rfl,hj⟩:=hr;rw[if_neg (by simp)];have:q9 m b (d+1) i=none:=by simp only[q9,h1,Option.bind_eq_bind,Option.bind_none]
   rw[this];exact⟨_,rfl,[],i,j,rfl,hj⟩
  |some p' =>
   obtain⟨t,i1⟩:=p';rw[h1]at hr;subst hr;have l1:=tokN_is h1;rw[if_pos rfl,if_pos (by omega),wr64 (by omega) (by omega),show (p:Int)+1=((p+1:Nat):Int) by omega]
   obtain⟨r,e2,hr⟩:=ih k (p+1) i1 (acc++[t]) N (by omega) hN (by simp[ha]) (by omega) (by omega);dsimp only;rw[e2];refine⟨r,rfl,?_⟩;have:q9 m b (d+1) i=(q9 m b d i1).bind fun t'=>some (t::t'.1,t'.2):=by simp only[q9,h1,Option.bind_eq_bind,Option.bind_some,Option.pure_def]
   rw[this]
   cases h2:q9 m b d i1 with
   |none=>rw[h2]at hr;exact hr
   |some l=>obtain⟨l,q⟩:=l;rw[h2]at hr;simp only[Option.bind_some];rw[hr,List.append_assoc];rfl
theorem ptoks_eq(m:Bool)(b:List Int)(hb:b.length<=300)(hu:u8s b)(n i:Nat)(hn:n<=1048576)(hi:i<=b.length)(k:Nat)(hk:1100<=k) :
 ∃ r,zI.f k b (i:Int) (z7 m) (n:Int)=some r/\match q9 m b n i with
  |some (l,q)=>r=(l,0,true,(q:Int),z7 m)
  |none=>∃ (l:List (List Int)) (z:Int) (j:Nat),r=(l,z,false,(j:Int),z7 m)/\j<=b.length:=by
 unfold zI.f;have h:=ptoks_l0 m b hb hu n k 0 i [] n (by omega) hn rfl hi (by omega);simp only[List.nil_append]at h;exact h
def toS(h:Nat×List (List Int)×List (List Int)):S99:=⟨(h.1:Int),h.2.1,h.2.2⟩
def tokNE(l:List (List Int)):Bool:=l.all fun t=>decide (t.length≠0)
def hGood(h:S99):Bool:=decide (h.f1.length+h.f2.length≠0) && (tokNE h.f1 && tokNE h.f2)
def Zl:Int->List S99->Bool
 |_,[]=>true
 |e,h::s=>decide (e<h.f0) && (decide (h.f0<=1048576) && (hGood h && Zl (h.f0+h.f1.length) s))
def Z4(a:List (List Int)):Prop:=∀ t∈a,t.length<=300
def totN:List S99->Nat
 |[]=>0
 |h::s=>1+h.f1.length+h.f2.length+totN s
structure Sm(s:List S99):Prop where
 n:totN s<=300
 s1:∀ h∈s,Z4 h.f1
 s2:∀ h∈s,Z4 h.f2
theorem Sm.cons{h:S99}{s:List S99}(H:Sm (h::s)):h.f1.length<=300/\h.f2.length<=300/\Z4 h.f1/\Z4 h.f2/\Sm s:=by
 have:=H.n;rw[totN]at this;exact⟨by omega,by omega,H.s1 h (by simp),H.s2 h (by simp),by omega,fun x hx=>H.s1 x (by simp[hx]),fun x hx=>H.s2 x (by simp[hx])⟩
theorem totN_len:∀ s:List S99,s.length<=totN s
 |[]=>Nat.le_refl _
 |h::s=>by have:=totN_len s;rw[totN,List.length_cons];omega
theorem Sm.len{s:List S99}(H:Sm s):s.length<=300:=Nat.le_trans (totN_len s) H.n
theorem Sm.drop:∀ {s:List S99} (_:Sm s) (p:Nat),Sm (s.drop p)
 |[],H,p=>by simpa using H
 |_::_,H,0=>H
 |_::s,H,p+1=>Sm.drop H.cons.2.2.2.2 p
theorem totN_toS:∀ s:List (Nat×List (List Int)×List (List Int)),totN (s.map toS)=hkLen s
 |[]=>rfl
 |(x,o,w)::s=>by simp only[List.map_cons,totN,hkLen,toS,totN_toS s]
theorem hkGood_sm:∀ {e:Nat} {s:List (Nat×List (List Int)×List (List Int))},hkGood e s->(∀ h∈s.map toS,Z4 h.f1)/\(∀ h∈s.map toS,Z4 h.f2)
 |_,[],_=>by simp
 |e,(x,o,w)::s,h=>by
  obtain⟨h1,h2,h3,h4,h5⟩:=h;obtain⟨i1,i2⟩:=hkGood_sm h5;constructor
  ·intro g hg
   rcases List.mem_cons.1 hg with rfl|hg
   ·exact fun t ht=>(h4 t (List.mem_append_left _ ht)).2
   ·exact i1 g hg
  ·intro g hg
   rcases List.mem_cons.1 hg with rfl|hg
   ·exact fun t ht=>(h4 t (List.mem_append_right _ ht)).2
   ·exact i2 g hg
theorem hkGood_from:∀ {e:Nat} {s:List (Nat×List (List Int)×List (List Int))},hkGood e s->Zl ((e:Int)-1) (s.map toS)=true
 |_,[],_=>rfl
 |e,(x,o,w)::s,h=>by
  obtain⟨h1,h2,h3,h4,h5⟩:=h;have ih:=hkGood_from h5;have hn:∀ l:List (List Int),(∀ t,t∈l->t≠[])->tokNE l=true:=fun l hl=>List.all_eq_true.2 fun t ht=>Qm (fun e=>hl t ht (List.length_eq_zero_iff.1 e))
  simp only[List.map_cons,Zl,toS,hGood,Bool.and_eq_true,decide_eq_true_eq];refine⟨by omega,by omega,⟨h3,hn o fun t ht=>(h4 t (List.mem_append_left _ ht)).1,hn w fun t ht=>(h4 t (List.mem_append_right _ ht)).1⟩,?_⟩
  rw[show (x:Int)+(o.length:Int)=((x+o.length+1:Nat):Int)-1 by omega]
  exact ih
theorem dec_sm{m:Bool}{b:List Int}(hb:b.length<=300){s:List (Nat×List (List Int)×List (List Int))}(h:decN b=some (m,s)):Sm (s.map toS)/\Zl (-1) (s.map toS)=true:=by
 obtain⟨g,n⟩:=decN_is hb h;exact⟨⟨by rw[totN_toS];exact n,(hkGood_sm g).1,(hkGood_sm g).2⟩,hkGood_from g⟩
theorem goodFrom_cons{e:Int}{h:S99}{s:List S99}(hg:Zl e (h::s)=true):e<h.f0/\h.f0<=1048576/\hGood h=true/\Zl (h.f0+h.f1.length) s=true:=by
 simp only[Zl,Bool.and_eq_true,decide_eq_true_eq]at hg;exact hg
theorem drop_tok{l:List (List Int)}{j:Nat}(h:j<l.length):l.drop j=l.getD j []::l.drop (j+1):=by
 rw[List.drop_eq_getElem_cons h];simp[List.getD_eq_getElem?_getD,h]
theorem drop_hunk{s:List S99}{j:Nat}(h:j<s.length):s.drop j=s.getD j z99::s.drop (j+1):=by
 rw[List.drop_eq_getElem_cons h];simp[List.getD_eq_getElem?_getD,h]
theorem rd_hunk(s:List S99)(j:Nat):zX s (j:Int)=s.getD j z99:=rfl
def Zm:List S99->List (List Int)->Nat->List (List Int)
 |[],a,i=>a.drop i
 |h::s,a,i=>(a.take h.f0.toNat).drop i++(h.f2++Zm s a (h.f0.toNat+h.f1.length))
def fits:List S99->List (List Int)->Bool
 |[],_=>true
 |h::s,a=>decide (h.f0.toNat+h.f1.length<=a.length) && (Z7 ((a.drop h.f0.toNat).take h.f1.length) h.f1 && fits s a)
def pApp(s:List S99)(a:List (List Int)):List (List Int)×Int:=if fits s a=true then(Zm s a 0,0)else([],5)
def delN:List S99->Nat
 |[]=>0
 |h::s=>h.f1.length+delN s
def insN:List S99->Nat
 |[]=>0
 |h::s=>h.f2.length+insN s
theorem delN_le:∀ (s:List S99),delN s+insN s+s.length=totN s
 |[]=>rfl
 |h::s=>by
  have:=delN_le s;simp only[delN,insN,totN,List.length_cons];omega
theorem appOut_short(a:List (List Int))(ha:Z4 a):∀ (s:List S99) (i:Nat),Sm s->Z4 (Zm s a i)
 |[],i,_=>fun t ht=>ha t (List.mem_of_mem_drop ht)
 |h::s,i,hs=>by
  obtain⟨_,_,_,f2,f3⟩:=hs.cons;intro t ht;rw[Zm,List.mem_append,List.mem_append]at ht
  rcases ht with ht|ht|ht
  ·exact ha t (List.mem_of_mem_take (List.mem_of_mem_drop ht))
  ·exact f2 t ht
  ·exact appOut_short a ha s _ f3 t ht
theorem lcs_app(f:List Int->Int)(a:List (List Int)):∀ (s:List S99) (i:Nat) (e:Int),Zl e s=true -> -1<=e->(i:Int)<=e+1->i<=a.length->fits s a=true ->
 a.length-i<=lcs ((a.drop i).map f) ((Zm s a i).map f)+delN s/\(Zm s a i).length+delN s=(a.length-i)+insN s
 |[],i,e,_,_,_,_,_=>by
  rw[Zm,lcs_self];simp[delN,insN]
 |h::s,i,e,hg,he,hie,hi,hf=>by
  obtain⟨g1,g2,_,g4⟩:=goodFrom_cons hg;simp only[fits,Bool.and_eq_true,decide_eq_true_eq]at hf;obtain⟨f1,f2,f3⟩:=hf;obtain⟨m,hm⟩:∃ m:Nat,h.f0=(m:Int):=⟨h.f0.toNat,by omega⟩
  rw[hm]at g1 g2 g4;rw[hm,Int.toNat_natCast]at f1 f2;obtain⟨h1,h2⟩:=lcs_app f a s (m+h.f1.length) _ g4 (by omega) (by omega) f1 f3;have hseg:((a.take m).drop i).length=m-i:=by rw[List.length_drop,List.length_take];omega
  have e1:a.drop i=(a.take m).drop i++((a.drop m).take h.f1.length++a.drop (m+h.f1.length)):=by
   have e2:a.drop m=(a.drop m).take h.f1.length++a.drop (m+h.f1.length):=by
    rw[← List.drop_drop];exact(List.take_append_drop _ _).symm
   rw[← e2,List.drop_take];have:a.drop m=(a.drop i).drop (m-i):=by rw[List.drop_drop];congr 1;omega
   rw[this];exact(List.take_append_drop _ _).symm
  have e2:Zm (h::s) a i=(a.take m).drop i++(h.f2++Zm s a (m+h.f1.length)):=by rw[Zm,hm,Int.toNat_natCast]
  rw[e2];refine⟨?_,by simp only[List.length_append,hseg,delN,insN];omega⟩;rw[e1];simp only[List.map_append];rw[lcs_prefix,List.length_map,hseg,delN];have h3:=lcs_mono (List.sublist_append_right (((a.drop m).take h.f1.length).map f) ((a.drop (m+h.f1.length)).map f)) (List.sublist_append_right (h.f2.map f) ((Zm s a (m+h.f1.length)).map f));omega
theorem dropEnd(b:List Int)(i:Nat):b.drop i=[46,10]↔((b.drop i).take 2=[46,10]/\b.length<=i+2):=by
 constructor
 ·intro h
  have hl:=congrArg List.length h;rw[List.length_drop]at hl;simp only[List.length_cons,List.length_nil]at hl;exact⟨by rw[h];rfl,by omega⟩
 ·rintro⟨h1,h2⟩
  rw[← h1,List.take_of_length_le (by rw[List.length_drop];omega)]
theorem take2(b:List Int)(i:Nat):(b.drop i).take 2=[46,10]↔(qQ b i 46).isSome=true/\(qQ b (i+1) 10).isSome=true:=by
 constructor
 ·intro h
  have hl:=congrArg List.length h;rw[List.length_take,List.length_drop]at hl;simp only[List.length_cons,List.length_nil]at hl;have h0:b[i]?=some 46:=by
   have:=congrArg (fun l=>l[0]?) h
   simpa [List.getElem?_take,List.getElem?_drop]using this
  have h1:b[i+1]?=some 10:=by
   have:=congrArg (fun l=>l[1]?) h
   simpa [List.getElem?_take,List.getElem?_drop]using this
  unfold qQ;rw[if_pos ⟨by omega,by rw[List.getD_eq_getElem?_getD,h0];rfl⟩,if_pos ⟨by omega,by rw[List.getD_eq_getElem?_getD,h1];rfl⟩];exact⟨rfl,rfl⟩
 ·rintro⟨h1,h2⟩
  unfold qQ at h1 h2;split at h1
  ·rename_i c1
   split at h2
   ·rename_i c2
    have e1:b[i]'c1.1=46:=by have:=c1.2;rwa [List.getD_eq_getElem?_getD,List.getElem?_eq_getElem c1.1]at this
    have e2:b[i+1]'c2.1=10:=by have:=c2.2;rwa [List.getD_eq_getElem?_getD,List.getElem?_eq_getElem c2.1]at this
    rw[List.drop_eq_getElem_cons c1.1,List.drop_eq_getElem_cons c2.1,e1,e2];rfl
   ·cases h2
  ·cases h1
def restN(m:Bool)(b:List Int)(f i e:Nat):Option (List (Nat×List (List Int)×List (List Int))):=(hunksN m b f i e).bind fun q=>if b.drop q.2=[46,10]then some q.1 else none
def okR(md:Int)(pre:List S99)(o:Option (List (Nat×List (List Int)×List (List Int))))(r:Int×List S99×Int×Int):Prop :=
 match o with|some s=>r=(md,pre++s.map toS,0,0)|none=>∃ z,r=(0,[],z,4)
theorem restN_none{m:Bool}{b:List Int}{f i e:Nat}(h:qQ b i 64=none):restN m b (f+1) i e=if b.drop i=[46,10]then some []else none:=by
 unfold restN hunksN;rw[h];rfl
theorem restN_some{m:Bool}{b:List Int}{f i e i1:Nat}(h:qQ b i 64=some i1):restN m b (f+1) i e=(ZX b i1).bind fun l=>if l.1<e\/l.2.1+l.2.2.1=0 then none else(q9 m b l.2.1 l.2.2.2).bind fun o=>(q9 m b l.2.2.1 o.2).bind fun w=>(restN m b f w.2 (l.1+l.2.1+1)).bind fun r=>some ((l.1,o.1,w.1)::r):=by
 unfold restN;conv=>lhs;unfold hunksN
 rw[h];simp only[Option.bind_eq_bind]
 cases hl:ZX b i1 with
 |none=>rfl
 |some l =>
  obtain⟨x,y,z,k⟩:=l;simp only[Option.bind_some];by_cases c:x<e\/y+z=0
  ·rw[if_pos c,if_pos c];rfl
  ·rw[if_neg c,if_neg c]
   cases ho:q9 m b y k with
   |none=>rfl
   |some o =>
    obtain⟨o,k1⟩:=o;simp only[Option.bind_some]
    cases hw:q9 m b z k1 with
    |none=>rfl
    |some w =>
     obtain⟨w,k2⟩:=w;simp only[Option.bind_some]
     cases hh:hunksN m b f k2 (x+y+1)with
     |none=>rfl
     |some q =>
      obtain⟨r,q⟩:=q;simp only[Option.bind_some,Option.pure_def];by_cases c2:b.drop q=[46,10]
      ·rw[if_pos c2,if_pos c2];rfl
      ·rw[if_neg c2,if_neg c2];rfl
theorem pfin_eq(m:Bool)(b:List Int)(hb:b.length<=300)(hu:u8s b)(s:List S99)(i:Nat)(hi:i<=b.length) :
 ∃ r,zV.fin b s (i:Int) (z7 m)=some r/\okR (z7 m) s (if b.drop i=[46,10]then some []else none) r:=by
 unfold zV.fin;rw[text_eq b hb hu (z7 m) i hi ⟨#[46,10]⟩ (by show 2<=300;omega),bsd];have e1:bytesOf ⟨#[46,10]⟩=[46,10]:=rfl;have e2:(⟨#[46,10]⟩:ByteArray).size=2:=rfl;rw[e1,e2];by_cases c1:(b.drop i).take 2=[46,10]
 ·rw[if_pos c1]
  dsimp only;rw[if_pos rfl];by_cases c2:i+2<b.length
  ·rw[if_pos (by omega),if_neg (fun h=>by have:=((dropEnd b i).1 h).2;omega)]
   exact⟨_,rfl,_,rfl⟩
  ·rw[if_neg (by omega),if_pos ((dropEnd b i).2 ⟨c1,by omega⟩)]
   exact⟨_,rfl,by simp[okR]⟩
 ·rw[if_neg c1]
  dsimp only;rw[if_neg (by decide),if_neg (fun h=>c1 ((dropEnd b i).1 h).1)];exact⟨_,rfl,_,rfl⟩
theorem pdec_l0(m:Bool)(b:List Int)(hb:b.length<=300)(hu:u8s b):∀ (f k i e:Nat) (s:List S99),b.length<f+i->i<=b.length->f+1200<=k->s.length<=i->e<=2097153 ->
 ∃ r,zV.l0 b k s ((e:Int)-1) (i:Int) (z7 m)=some r/\okR (z7 m) s (restN m b f i e) r
 |0,k,i,e,s,hf,hi,hk,hs,he=>by omega
 |f+1,k,i,e,s,hf,hi,hk,hs,he=>by
  obtain⟨k,rfl⟩:∃ m,k=m+1:=⟨k-1,by omega⟩
  rw[zV.l0,rd_NN];by_cases c:i<b.length/\b.getD i 0=64
  ·have hsg:qQ b i 64=some (i+1):=by unfold qQ;exact if_pos c
   rw[if_pos ⟨by omega,by omega,c.2⟩,restN_some hsg];unfold zV.body;obtain⟨r,e1,hr⟩:=pline_eq b hb hu (z7 m) i hsg k (by omega);rw[e1,bsd]
   cases h1:ZX b (i+1)with
   |none =>
    rw[h1]at hr;obtain⟨x,y,z,j,rfl,hj⟩:=hr;rw[if_neg (by simp)];exact⟨_,rfl,_,rfl⟩
   |some l =>
    obtain⟨x,y,z,q⟩:=l;rw[h1]at hr;subst hr;have l1:=lineN_is h1;dsimp only;rw[if_pos rfl,if_pos ⟨by omega,by omega,by omega,by omega,by omega,by omega⟩];simp only[Option.bind_some];by_cases cx:x<e
    ·rw[if_pos (by omega),if_pos (.inl cx)]
     exact⟨_,rfl,_,rfl⟩
    ·rw[if_neg (by omega)]
     by_cases cy:y+z=0
     ·rw[if_pos (by omega),if_pos (.inr cy)]
      exact⟨_,rfl,_,rfl⟩
     ·rw[if_neg (by omega),if_neg (fun h=>h.elim cx cy)]
      obtain⟨r,e2,hr⟩:=ptoks_eq m b hb hu y q (by omega) (by omega) k (by omega);rw[e2,bsd]
      cases h2:q9 m b y q with
      |none =>
       rw[h2]at hr;obtain⟨l,z',j,rfl,hj⟩:=hr;rw[if_neg (by simp)];exact⟨_,rfl,_,rfl⟩
      |some o =>
       obtain⟨o,q2⟩:=o;rw[h2]at hr;subst hr;have l2:=toksN_len h2 (by omega);dsimp only;rw[if_pos rfl];simp only[Option.bind_some];obtain⟨r,e3,hr⟩:=ptoks_eq m b hb hu z q2 (by omega) (by omega) k (by omega);rw[e3,bsd]
       cases h3:q9 m b z q2 with
       |none =>
        rw[h3]at hr;obtain⟨l,z',j,rfl,hj⟩:=hr;rw[if_neg (by simp)];exact⟨_,rfl,_,rfl⟩
       |some w =>
        obtain⟨w,q3⟩:=w;rw[h3]at hr;subst hr;have l3:=toksN_len h3 (by omega);dsimp only;rw[if_pos rfl,if_pos (by omega)];simp only[Option.bind_some];obtain⟨r,e4,hr⟩:=pdec_l0 m b hb hu f k q3 (x+y+1) (s++[⟨(x:Int),o,w⟩]) (by omega) (by omega) (by omega) (by rw[List.length_append];simp;omega) (by omega);rw[show (((x+y+1:Nat):Int)-1)=(x:Int)+(y:Int) by omega]at e4
        rw[e4];refine⟨r,rfl,?_⟩
        cases h4:restN m b f q3 (x+y+1)with
        |none=>rw[h4]at hr;exact hr
        |some t=>rw[h4]at hr;simp only[okR,Option.bind_some]at hr ⊢;rw[hr,List.append_assoc];rfl
  ·have hsg:qQ b i 64=none:=by unfold qQ;exact if_neg c
   rw[if_neg (fun h=>c ⟨by omega,h.2.2⟩),if_pos (by omega),restN_none hsg];exact pfin_eq m b hb hu s i hi
theorem rtoks2(m:Bool)(b:List Int)(hb:b.length<=300)(acc:List S99)(ha:acc.length<=300)(y z:Nat)(hy:y<=1048576)(hz:z<=1048576)(x:Int)(o:List (List Int)):∀ (n k p i:Nat) (w:List (List Int)),p+n=y+z->y<=p->w.length<=2097152-n->i<=b.length->3*(b.length-i)+1003<=k ->
 match q9 m b n i with
 |some (l,q)=>∃ k',3*(b.length-q)+1000<=k'/\zc.l2 k b (z7 m) (i:Int) acc (y:Int) (z:Int) (p:Int) x o w=zc.l1 k' b (z7 m) (q:Int) (acc++[⟨x,o,w++l⟩])
 |none=>∃ zz,zc.l2 k b (z7 m) (i:Int) acc (y:Int) (z:Int) (p:Int) x o w=some (0,[],zz,4):=by
 intro n
 induction n with
 |zero =>
  intro k p i w hp hyp hw hi hk;obtain⟨k,rfl⟩:∃ m,k=m+1:=⟨k-1,by omega⟩
  rw[zc.l2,wr64 (x:=(y:Int)+_) (by omega) (by omega),if_neg (by omega),if_pos (by omega),q9];exact⟨k,by omega,by rw[List.append_nil]⟩
 |succ n ih =>
  intro k p i w hp hyp hw hi hk;obtain⟨k,rfl⟩:∃ m,k=m+1:=⟨k-1,by omega⟩
  rw[zc.l2,wr64 (x:=(y:Int)+_) (by omega) (by omega),if_pos (by omega),rtok_eq m b hb i hi k (by omega),bsd]
  cases h1:tokN m b i with
  |none =>
   have:q9 m b (n+1) i=none:=by simp only[q9,h1,Option.bind_eq_bind,Option.bind_none]
   rw[this];rw[if_pos (by show (-1:Int)<0;decide)];exact⟨_,rfl⟩
  |some t =>
   obtain⟨t,i1⟩:=t;have l1:=tokN_is h1;have:q9 m b (n+1) i=(q9 m b n i1).bind fun t'=>some (t::t'.1,t'.2):=by simp only[q9,h1,Option.bind_eq_bind,Option.bind_some,Option.pure_def]
   rw[this];dsimp only;rw[if_neg (by omega),if_neg (by omega),if_pos (by omega),wr64 (by omega) (by omega),show (p:Int)+1=((p+1:Nat):Int) by omega]
   have h4:=ih k (p+1) i1 (w++[t]) (by omega) (by omega) (by simp;omega) (by omega) (by omega)
   cases h2:q9 m b n i1 with
   |none=>rw[h2]at h4;exact h4
   |some l =>
    obtain⟨l,q⟩:=l;rw[h2]at h4;obtain⟨k',e1,e2⟩:=h4;exact⟨k',e1,by rw[e2,List.append_assoc];rfl⟩
theorem rtoks1(m:Bool)(b:List Int)(hb:b.length<=300)(acc:List S99)(y z:Nat)(hy:y<=1048576)(hz:z<=1048576)(x:Int):∀ (n k p i:Nat) (o:List (List Int)),p+n=y->o.length=p->i<=b.length->3*(b.length-i)+1003<=k ->
 match q9 m b n i with
 |some (l,q)=>∃ k',3*(b.length-q)+1003<=k'/\zc.l2 k b (z7 m) (i:Int) acc (y:Int) (z:Int) (p:Int) x o []=zc.l2 k' b (z7 m) (q:Int) acc (y:Int) (z:Int) (y:Int) x (o++l) []
 |none=>∃ zz,zc.l2 k b (z7 m) (i:Int) acc (y:Int) (z:Int) (p:Int) x o []=some (0,[],zz,4):=by
 intro n
 induction n with
 |zero =>
  intro k p i o hp ho hi hk;rw[q9,show p=y by omega]
  exact⟨k,by omega,by rw[List.append_nil]⟩
 |succ n ih =>
  intro k p i o hp ho hi hk;obtain⟨k,rfl⟩:∃ m,k=m+1:=⟨k-1,by omega⟩
  rw[zc.l2,wr64 (x:=(y:Int)+_) (by omega) (by omega),if_pos (by omega),rtok_eq m b hb i hi k (by omega),bsd]
  cases h1:tokN m b i with
  |none =>
   have:q9 m b (n+1) i=none:=by simp only[q9,h1,Option.bind_eq_bind,Option.bind_none]
   rw[this];rw[if_pos (by show (-1:Int)<0;decide)];exact⟨_,rfl⟩
  |some t =>
   obtain⟨t,i1⟩:=t;have l1:=tokN_is h1;have:q9 m b (n+1) i=(q9 m b n i1).bind fun t'=>some (t::t'.1,t'.2):=by simp only[q9,h1,Option.bind_eq_bind,Option.bind_some,Option.pure_def]
   rw[this];dsimp only;rw[if_neg (by omega),if_pos (by omega),if_pos (by omega),wr64 (by omega) (by omega),show (p:Int)+1=((p+1:Nat):Int) by omega]
   have h4:=ih k (p+1) i1 (o++[t]) (by omega) (by simp[ho]) (by omega) (by omega)
   cases h2:q9 m b n i1 with
   |none=>rw[h2]at h4;exact h4
   |some l =>
    obtain⟨l,q⟩:=l;rw[h2]at h4;obtain⟨k',e1,e2⟩:=h4;exact⟨k',e1,by rw[e2,List.append_assoc];rfl⟩
def endOK(e:Nat)(acc:List S99):Prop:=(acc=[]/\e=0)\/∃ pre h,acc=pre++[h]/\h.f0+(h.f1.length:Int)+1=(e:Int)/\0<=h.f0
theorem rd_last(pre:List S99)(h:S99):zX (pre++[h]) (((pre++[h]).length:Int)-1)=h:=by
 unfold zX;rw[List.length_append,show (((pre.length+[h].length:Nat):Int)-1).toNat=pre.length by simp,List.getD_eq_getElem?_getD]
 simp
theorem rfin_eq(m:Bool)(b:List Int)(hb:b.length<=300)(acc:List S99)(i:Nat)(hi:i<=b.length)(k:Nat) :
 ∃ r,((zm.f b (i:Int) 46).bind fun t732=>(if t732=true then((zm.f b (wrap64 ((i:Int)+1)) 10).bind fun t733=>(zc.j4 (k+1) b (z7 m) (i:Int) acc (!t733)))else(zc.j4 (k+1) b (z7 m) (i:Int) acc true)))=some r/\okR (z7 m) acc (if b.drop i=[46,10]then some []else none) r:=by
 rw[sign_eq,bsd,wr64 (by omega) (by omega),show (i:Int)+1=((i+1:Nat):Int) by omega,sign_eq,bsd,zc.j4,zc.j4]
 cases h1:(qQ b i 46).isSome with
 |false =>
  rw[if_neg (by decide),if_pos rfl,if_neg (fun h=>by have:=((take2 b i).1 ((dropEnd b i).1 h).1).1;rw[h1]at this;cases this)];exact⟨_,rfl,_,rfl⟩
 |true =>
  rw[if_pos rfl]
  cases h2:(qQ b (i+1) 10).isSome with
  |false =>
   rw[Bool.not_false,if_pos rfl,if_neg (fun h=>by have:=((take2 b i).1 ((dropEnd b i).1 h).1).2;rw[h2]at this;cases this)];exact⟨_,rfl,_,rfl⟩
  |true =>
   rw[Bool.not_true,if_neg (by decide),wr64 (by omega) (by omega)];by_cases c2:i+2<b.length
   ·rw[if_pos (by omega),if_neg (fun h=>by have:=((dropEnd b i).1 h).2;omega)]
    exact⟨_,rfl,_,rfl⟩
   ·rw[if_neg (by omega),if_pos ((dropEnd b i).2 ⟨(take2 b i).2 ⟨h1,h2⟩,by omega⟩)]
    exact⟨_,rfl,by simp[okR]⟩
theorem rdec_l1(m:Bool)(b:List Int)(hb:b.length<=300):∀ (f k i e:Nat) (acc:List S99),b.length<f+i->i<=b.length->3*(b.length-i)+1000<=k->acc.length<=i->endOK e acc->e<=2097153 ->
 ∃ r,zc.l1 k b (z7 m) (i:Int) acc=some r/\okR (z7 m) acc (restN m b f i e) r
 |0,k,i,e,acc,hf,hi,hk,hs,hE,he=>by omega
 |f+1,k,i,e,acc,hf,hi,hk,hs,hE,he=>by
  obtain⟨k,rfl⟩:∃ m,k=m+2:=⟨k-2,by omega⟩
  rw[zc.l1,sign_eq,bsd]
  cases hsg:(qQ b i 64).isSome with
  |false =>
   rw[if_neg (by decide),restN_none (ZP hsg)];exact rfin_eq m b hb acc i hi k
  |true =>
   obtain⟨hsg',ls⟩:=ZO hsg;rw[if_pos rfl,restN_some hsg',rline_eq b hb i ls (k+1) (by omega),bsd]
   cases h1:ZX b (i+1)with
   |none =>
    dsimp only;rw[if_pos (by decide),zc.j2,if_pos rfl];exact⟨_,rfl,_,rfl⟩
   |some l =>
    obtain⟨x,y,z,q⟩:=l;have l1:=lineN_is h1;dsimp only;rw[if_neg (by omega),wr64 (x:=(y:Int)+_) (by omega) (by omega)];simp only[Option.bind_some];by_cases cy:y+z=0
    ·rw[if_pos (by omega),zc.j2,if_pos rfl,if_pos (.inr cy)]
     exact⟨_,rfl,_,rfl⟩
    ·rw[if_neg (by omega)]
     have hj:(if ((acc.length:Nat):Int) > 0 then(if 0<=(wrap64 ((acc.length:Int)-1))then(if (wrap64 ((acc.length:Int)-1))<(acc.length:Int)then(zc.j2 (k+1) b (z7 m) (i:Int) acc (x:Int) (y:Int) (z:Int) (q:Int) (decide ((wrap64 ((x:Int)-((zX acc (wrap64 ((acc.length:Int)-1))).f0)))<=(((zX acc (wrap64 ((acc.length:Int)-1))).f1).length:Int))))else(none))else(none))else(zc.j2 (k+1) b (z7 m) (i:Int) acc (x:Int) (y:Int) (z:Int) (q:Int) false))=zc.j2 (k+1) b (z7 m) (i:Int) acc (x:Int) (y:Int) (z:Int) (q:Int) (decide (x<e)):=by
      rcases hE with⟨rfl,rfl⟩|⟨pre,h,rfl,hh,h0⟩
      ·rw[if_neg (by simp),Qn (by omega)]
      ·have hp:0<(pre++[h]).length:=by simp
       rw[if_pos (by omega),wr64 (x:=((pre++[h]).length:Int)-1) (by omega) (by omega),if_pos (by omega),if_pos (by omega),rd_last,wr64 (by omega) (by omega)];congr 1;rw[Bool.eq_iff_iff,decide_eq_true_eq,decide_eq_true_eq];omega
     rw[hj,zc.j2];by_cases cx:x<e
     ·rw[Qm cx,if_pos rfl,if_pos (.inl cx)]
      exact⟨_,rfl,_,rfl⟩
     ·rw[Qn cx,if_neg (by decide),if_neg (fun h=>h.elim cx cy)]
      have p1:=rtoks1 m b hb acc y z l1.2.1 l1.2.2.1 (x:Int) y k 0 q [] (by omega) rfl (by omega) (by omega)
      cases h2:q9 m b y q with
      |none =>
       rw[h2]at p1;obtain⟨zz,p1⟩:=p1;rw[show ((0:Nat):Int)=0 from rfl]at p1
       rw[p1];exact⟨_,rfl,zz,rfl⟩
      |some o =>
       obtain⟨o,q2⟩:=o;rw[h2]at p1;obtain⟨k2,g2,p1⟩:=p1;rw[show ((0:Nat):Int)=0 from rfl]at p1
       rw[p1];have l2:=toksN_len h2 (by omega);simp only[Option.bind_some];have p2:=rtoks2 m b hb acc (by omega) y z l1.2.1 l1.2.2.1 (x:Int) ([]++o) z k2 y q2 [] (by omega) (by omega) (by have:([]:List (List Int)).length=0:=rfl;omega) (by omega) g2
       cases h3:q9 m b z q2 with
       |none =>
        rw[h3]at p2;obtain⟨zz,p2⟩:=p2;rw[p2];exact⟨_,rfl,zz,rfl⟩
       |some w =>
        obtain⟨w,q3⟩:=w;rw[h3]at p2;obtain⟨k3,g3,p2⟩:=p2;rw[p2];have l3:=toksN_len h3 (by omega);simp only[Option.bind_some,List.nil_append];obtain⟨r,e4,hr⟩:=rdec_l1 m b hb f k3 q3 (x+y+1) (acc++[⟨(x:Int),o,w⟩]) (by omega) (by omega) g3 (by rw[List.length_append];simp;omega) (.inr ⟨acc,_,rfl,by simp[l2.1],by simp⟩) (by omega);rw[e4];refine⟨r,rfl,?_⟩
        cases h4:restN m b f q3 (x+y+1)with
        |none=>rw[h4]at hr;exact hr
        |some t=>rw[h4]at hr;simp only[okR,Option.bind_some]at hr ⊢;rw[hr,List.append_assoc];rfl
theorem data_app(x y:ByteArray):(x++y).data.toList=x.data.toList++y.data.toList:=by simp
def headB(t:ByteArray):ByteArray:=((⟨#[116,97,116,116,105,110,103,32,49,32]⟩:ByteArray)++t)++(⟨#[10]⟩:ByteArray)
theorem headB_num(t:ByteArray):bytesOf (headB t)=[116,97,116,116,105,110,103,32,49,32]++bytesOf t++[10]:=by
 unfold bytesOf headB;rw[data_app,data_app,List.map_append,List.map_append];rfl
theorem headB_size(t:ByteArray):(headB t).size=10+t.size+1:=by
 unfold headB;rw[ByteArray.size_append,ByteArray.size_append];rfl
theorem headB_list(t:ByteArray):(headB t).toList=Lib.bytesOf (bytesOf (headB t)):=by
 rw[toNums_u8,Lib.toList_data]
theorem head_u8(m:Bool):u8s (Qf m):=by
 intro x hx
 cases m <;> (simp[Qf]at hx;omega)
def Z8(m:Bool):ByteArray:=if m=true then⟨#[108,105,110,101,115]⟩else⟨#[98,121,116,101,115]⟩
theorem Zs(m:Bool):bytesOf (headB (Z8 m))=Qf m/\(headB (Z8 m)).size=16:=by
 rw[headB_num,headB_size]
 cases m <;> exact⟨rfl,rfl⟩
theorem head_ne:Qf false≠Qf true:=by decide
theorem first_eq(b:List Int)(hb:b.length<=300)(hu:u8s b)(k:Nat)(hk:3<=k) :
 zN.f k b 0 0=some (match modeN b with|some m=>(true,16,z7 m)|none=>(false,0,0)):=by
 obtain⟨k,rfl⟩:∃ n,k=n+3:=⟨k-3,by omega⟩
 unfold zN.f;have t0:zq.f b 0 0 (headB (Z8 false))=some (if b.take 16=Qf false then(true,16,0)else(false,0,0)):=by
  have:=text_eq b hb hu 0 0 (by omega) (headB (Z8 false)) (by rw[(Zs false).2];omega);rw[(Zs false).1,(Zs false).2,List.drop_zero]at this;exact this
 have t1:zq.f b 0 0 (headB (Z8 true))=some (if b.take 16=Qf true then(true,16,0)else(false,0,0)):=by
  have:=text_eq b hb hu 0 0 (by omega) (headB (Z8 true)) (by rw[(Zs true).2];omega);rw[(Zs true).1,(Zs true).2,List.drop_zero]at this;exact this
 have n0:Z9.f (rd ([0,1]:List Int) 0)=some (Z8 false):=rfl;have n1:Z9.f (rd ([0,1]:List Int) 1)=some (Z8 true):=rfl;have w1:wrap64 (0+1)=1:=wr64 (by decide) (by decide);have w2:wrap64 (1+1)=2:=wr64 (by decide) (by decide);have s1:∀ m,(Z8 m).size=5:=fun m=>by cases m <;> rfl
 have s2:∀ t:ByteArray,((⟨#[116,97,116,116,105,110,103,32,49,32]⟩:ByteArray)++t).size=10+t.size:=fun t=>by rw[ByteArray.size_append];rfl
 rw[bsd,zN.l0,if_pos (by decide),if_pos (by decide),if_pos (by decide),n0,bsd,if_pos (by rw[s1];decide),if_pos (by rw[s2,s1];decide)];rw[show ((⟨#[116,97,116,116,105,110,103,32,49,32]⟩:ByteArray)++Z8 false)++(⟨#[10]⟩:ByteArray)=headB (Z8 false)from rfl,t0,bsd]
 unfold modeN;by_cases c0:b.take 16=Qf false
 ·rw[if_pos c0,if_pos c0]
  rfl
 ·rw[if_neg c0,if_neg c0]
  dsimp only;rw[if_neg (by decide),w1,zN.l0,if_pos (by decide),if_pos (by decide),if_pos (by decide),n1,bsd,if_pos (by rw[s1];decide),if_pos (by rw[s2,s1];decide)];rw[show ((⟨#[116,97,116,116,105,110,103,32,49,32]⟩:ByteArray)++Z8 true)++(⟨#[10]⟩:ByteArray)=headB (Z8 true)from rfl,t1,bsd]
  by_cases c1:b.take 16=Qf true
  ·rw[if_pos c1,if_pos c1]
   rfl
  ·rw[if_neg c1,if_neg c1]
   dsimp only;rw[if_neg (by decide),w2,zN.l0,if_neg (by decide)]
theorem decN_rest(b:List Int):decN b=(modeN b).bind fun m=>(restN m b b.length 16 0).bind fun s=>some (m,s):=by
 unfold decN restN;congr 1
 funext m
 rw[Option.bind_assoc];congr 1
 funext q
 by_cases c:b.drop q.2=[46,10]
 ·rw[if_pos c,if_pos c];rfl
 ·rw[if_neg c,if_neg c];rfl
def decR(b:List Int)(r:Int×List S99×Int×Int):Prop :=
 match decN b with|some (m,s)=>r=(z7 m,s.map toS,0,0)|none=>∃ z,r=(0,[],z,4)
theorem pDec_eq(b:List Int)(hb:b.length<=300)(hu:u8s b)(k:Nat)(hk:2000<=k):∃ r,zV.f k b=some r/\decR b r:=by
 unfold zV.f decR;rw[first_eq b hb hu k (by omega),bsd,decN_rest]
 cases h:modeN b with
 |none=>exact⟨_,rfl,0,rfl⟩
 |some m =>
  have hl:=modeN_len h;dsimp only;rw[if_pos rfl];obtain⟨r,e,hr⟩:=pdec_l0 m b hb hu b.length k 16 0 [] (by omega) hl (by omega) (by simp) (by omega);rw[show (((0:Nat):Int)-1) = -1 from rfl,show ((16:Nat):Int)=16 from rfl]at e
  rw[e];refine⟨r,rfl,?_⟩;simp only[Option.bind_some]
  cases h2:restN m b b.length 16 0 with
  |none=>rw[h2]at hr;exact hr
  |some s=>rw[h2]at hr;simpa [okR]using hr
theorem rhead_eq(b:List Int)(hu:u8s b)(m:Bool):((strOfNums (b.take 16)).toList=(headB (Z8 m)).toList)↔b.take 16=Qf m:=by
 rw[Lib.strOfNums_toList,headB_list,(Zs m).1];exact⟨fun h=>bytes_inj (u8s_take hu 16) (head_u8 m) h,fun h=>by rw[h]⟩
theorem rDec_eq(b:List Int)(hb:b.length<=300)(hu:u8s b)(k:Nat)(hk:3000<=k):∃ r,zc.f k b=some r/\decR b r:=by
 obtain⟨k,rfl⟩:∃ n,k=n+3:=⟨k-3,by omega⟩
 unfold zc.f decR;have n0:qz.f 0=some (Z8 false):=rfl;have n1:qz.f (0+1)=some (Z8 true):=by rw[show (0:Int)+1=1 from rfl];rfl
 have s1:∀ m,(Z8 m).size=5:=fun m=>by cases m <;> rfl
 have s2:∀ t:ByteArray,((⟨#[116,97,116,116,105,110,103,32,49,32]⟩:ByteArray)++t).size=10+t.size:=fun t=>by rw[ByteArray.size_append];rfl
 have step:∀ (k:Nat) (x6 x7:Int) (m:Bool) (x8:Int),x8<2->qz.f x8=some (Z8 m) -> -10<=x8->zc.l0 (k+1) b x6 x7 x8=if b.take 16=Qf m then zc.l0 k b x8 16 (x8+1)else zc.l0 k b x6 x7 (x8+1):=fun k x6 x7 m x8 h8 hn h10=>by
  rw[zc.l0,if_pos h8,hn,bsd,if_pos (by rw[s1];decide),if_pos (by rw[s2,s1];decide)];rw[show ((⟨#[116,97,116,116,105,110,103,32,49,32]⟩:ByteArray)++Z8 m)++(⟨#[10]⟩:ByteArray)=headB (Z8 m)from rfl,(Zs m).2,wr64 (by omega) (by omega)]
  by_cases hl:16<=b.length
  ·rw[if_pos (by omega),if_pos (by omega),if_pos (by omega),show ((16:Nat):Int).toNat=16 from rfl]
   by_cases c:b.take 16=Qf m
   ·rw[if_pos ((rhead_eq b hu m).2 c),if_pos c];rfl
   ·rw[if_neg (fun h=>c ((rhead_eq b hu m).1 h)),if_neg c]
  ·rw[if_neg (by omega),if_neg (fun e=>by
    have:=congrArg List.length e;rw[List.length_take]at this;have h17:(Qf m).length=16:=by cases m <;> rfl
    omega)]
 rw[step _ _ _ false 0 (by decide) n0 (by decide),step _ _ _ true (0+1) (by decide) n1 (by decide),step _ _ _ true (0+1) (by decide) n1 (by decide),decN_rest];have fin:∀ m,modeN b=some m->∃ r,zc.l0 (k+1) b (z7 m) 16 (0+1+1)=some r/\match (restN m b b.length 16 0).bind fun s=>some (m,s)with|some (m,s)=>r=(z7 m,s.map toS,0,0)|none=>∃ z,r=(0,[],z,4):=fun m hm=>by
  have hl:=modeN_len hm;rw[zc.l0,if_neg (by decide),if_neg (by cases m <;> decide)];obtain⟨r,e,hr⟩:=rdec_l1 m b hb b.length k 16 0 [] (by omega) hl (by omega) (by simp) (.inl ⟨rfl,rfl⟩) (by omega);rw[show ((16:Nat):Int)=16 from rfl]at e
  rw[e];refine⟨r,rfl,?_⟩
  cases h2:restN m b b.length 16 0 with
  |none=>rw[h2]at hr;exact hr
  |some s=>rw[h2]at hr;simpa [okR]using hr
 by_cases c0:b.take 16=Qf false
 ·have hm:modeN b=some false:=if_pos c0
  rw[if_pos c0,if_neg (fun h=>head_ne (c0.symm.trans h)),hm,Option.bind_some];exact fin false hm
 ·rw[if_neg c0]
  by_cases c1:b.take 16=Qf true
  ·have hm:modeN b=some true:=by unfold modeN;rw[if_neg c0,if_pos c1]
   rw[if_pos c1,hm,Option.bind_some];exact fin true hm
  ·have hm:modeN b=none:=by unfold modeN;rw[if_neg c0,if_neg c1]
   rw[if_neg c1,hm,zc.l0,if_neg (by decide),if_pos (by decide)];exact⟨_,rfl,0,rfl⟩
theorem rd_tok(l:List (List Int))(j:Nat):qX l (j:Int)=l.getD j []:=rfl
theorem all_l0(l:List (List Int))(hl:l.length<=300):∀ (d k p:Nat),p+d=l.length->d<k->qF.l0 k l (l.length:Int) p=some (tokNE (l.drop p)):=by
 intro d
 induction d with
 |zero =>
  intro k p hp hk;obtain⟨k,rfl⟩:∃ m,k=m+1:=⟨k-1,by omega⟩
  rw[qF.l0,if_neg (by omega),List.drop_eq_nil_of_le (by omega)];rfl
 |succ d ih =>
  intro k p hp hk;obtain⟨k,rfl⟩:∃ m,k=m+1:=⟨k-1,by omega⟩
  have h4:=ih k (p+1) (by omega) (by omega);simp only[Int.natCast_add,Int.cast_ofNat_Int]at h4;rw[qF.l0,if_pos (by omega),if_pos (by omega),if_pos (by omega),rd_tok,wr (by omega) (by omega),h4,drop_tok (show p<l.length by omega)];unfold tokNE;rw[List.all_cons];by_cases c:(l.getD p []).length=0
  ·rw[if_pos (by omega),Qn (by omega),Bool.false_and]
  ·rw[if_neg (by omega),Qm c,Bool.true_and]
theorem all_eq(l:List (List Int))(hl:l.length<=300)(k:Nat)(hk:400<=k):qF.f k l=some (tokNE l):=by
 unfold qF.f;exact all_l0 l hl l.length k 0 (by omega) (by omega)
theorem editGood_l0(s:List S99)(hs:Sm s):∀ (d k p:Nat) (e:Int),-1<=e->p+d=s.length->d+401<=k->qx.l0 k e s (s.length:Int) p=some (Zl e (s.drop p)):=by
 have hl:=hs.len;intro d
 induction d with
 |zero =>
  intro k p e he hp hk;obtain⟨k,rfl⟩:∃ m,k=m+1:=⟨k-1,by omega⟩
  rw[qx.l0,if_neg (by omega),List.drop_eq_nil_of_le (by omega)];rfl
 |succ d ih =>
  intro k p e he hp hk;obtain⟨k,rfl⟩:∃ m,k=m+1:=⟨k-1,by omega⟩
  have hc:=drop_hunk (show p<s.length by omega);have hS:=hs.drop p;rw[hc]at hS;obtain⟨g1,g2,_,_,_⟩:=hS.cons;rw[qx.l0,if_pos (by omega),if_pos (by omega),if_pos (by omega),rd_hunk,drop_hunk (show p<s.length by omega),Zl];generalize s.getD p z99=x at g1 g2;by_cases c1:e<x.f0
  ·rw[if_neg (by omega),Qm c1,Bool.true_and]
   by_cases c2:x.f0<=1048576
   ·rw[if_neg (by omega),Qm c2,Bool.true_and,wr (x:=(x.f1.length:Int)+(x.f2.length:Int)) (by omega) (by omega)]
    unfold hGood;by_cases c3:x.f1.length+x.f2.length=0
    ·rw[if_pos (by omega),Qn (by omega)];rfl
    ·rw[if_neg (by omega),Qm c3,Bool.true_and,all_eq _ g1 _ (by omega),all_eq _ g2 _ (by omega),bs,bs]
     cases c4:tokNE x.f1
     ·simp
     ·cases c5:tokNE x.f2
      ·simp
      ·rw[itt,itt]
       have h4:=ih k (p+1) (x.f0+x.f1.length) (by omega) (by omega) (by omega);simp only[Int.natCast_add,Int.cast_ofNat_Int]at h4;rw[wr (by omega) (by omega),wr (by omega) (by omega),h4,Bool.true_and,Bool.true_and]
   ·rw[if_pos (by omega),Qn c2,Bool.false_and]
  ·rw[if_pos (by omega),Qn c1,Bool.false_and]
theorem editGood_eq(s:List S99)(hs:Sm s)(k:Nat)(hk:800<=k):qx.f k s=some (Zl (-1) s):=by
 have hl:=hs.len;unfold qx.f;exact editGood_l0 s hs s.length k 0 (-1) (by omega) (by omega) (by omega)
theorem short_cut{a:List (List Int)}(h:Z4 a)(n i:Nat):Z4 ((a.take n).drop i):=fun t ht=>h t (List.mem_of_mem_take (List.mem_of_mem_drop ht))
theorem short_drop{a:List (List Int)}(h:Z4 a)(i:Nat):Z4 (a.drop i):=fun t ht=>h t (List.mem_of_mem_drop ht)
theorem more_short{l t:List (List Int)}(hl:l.length+t.length<100000000)(ht:Z4 t):q7.f l t=some (l++t):=by
 unfold q7.f;rw[if_pos (by omega),if_pos (show tokOk t=true from List.all_eq_true.2 fun x hx=>Qm (by have:=ht x hx;omega))]
theorem cut_len(a:List (List Int))(n i:Nat):((a.take n).drop i).length<=a.length:=by rw[List.length_drop,List.length_take];omega
theorem patchApp_l0(a:List (List Int))(ha:a.length<=1000)(hs0:Z4 a):∀ (s:List S99) (i:Nat) (b:List (List Int)) (e:Int),Sm s->Zl e s=true -> -1<=e->(i:Int)<=e+1->i<=a.length->b.length+1400*s.length<=1000000 ->
 z2.l0 s a i b=some (if fits s a=true then(b++Zm s a i,0)else([],5))
 |[],i,b,e,_,_,_,_,hi,hb=>by
  have hl:=short_drop hs0 i;rw[z2.l0,if_pos hi,more_short (by rw[List.length_drop];simp at hb;omega) hl,bs,fits,if_pos rfl,Zm]
 |h::s,i,b,e,hs,hg,he,hie,hi,hb=>by
  obtain⟨l1,l2,f1,f2,f3⟩:=hs.cons;obtain⟨g1,g2,_,g4⟩:=goodFrom_cons hg;simp only[List.length_cons]at hb;obtain⟨m,hm⟩:∃ m:Nat,h.f0=(m:Int):=⟨h.f0.toNat,by omega⟩
  have hst:qP.f a h.f1 h.f0=some (decide (h.f0.toNat+h.f1.length<=a.length) && Z7 ((a.drop h.f0.toNat).take h.f1.length) h.f1):=by
   unfold qP.f;rw[hm,Int.toNat_natCast,if_pos (by omega)];by_cases c1:(m:Int)<=(a.length:Int)
   ·rw[if_pos c1]
    by_cases c2:(h.f1.length:Int)<=(a.length:Int)-(m:Int)
    ·rw[if_pos c2,Qm (by omega),Bool.true_and,List.drop_take,Nat.add_sub_cancel_left]
    ·rw[if_neg c2,Qn (by omega),Bool.false_and]
   ·rw[if_neg c1,Qn (by omega),Bool.false_and]
  rw[z2.l0,hst,bs,fits];by_cases c1:h.f0.toNat+h.f1.length<=a.length
  ·rw[Qm c1,Bool.true_and,Bool.true_and]
   cases c2:Z7 ((a.drop h.f0.toNat).take h.f1.length) h.f1
   ·rw[if_neg (by decide),Bool.false_and,if_neg (by decide)]
   ·have h3:=cut_len a h.f0.toNat i
    rw[if_pos rfl,Bool.true_and,if_pos (by omega),more_short (by omega) (short_cut hs0 _ _),bs,more_short (by rw[List.length_append];omega) f2,bs,
     patchApp_l0 a ha hs0 s _ _ (h.f0+h.f1.length) f3 g4 (by omega) (by omega) c1 (by simp only[List.length_append];omega),Zm,List.append_assoc,List.append_assoc]
  ·rw[Qn c1,Bool.false_and,Bool.false_and,if_neg (by decide),if_neg (by decide)]
theorem patchApp_eq(s:List S99)(a:List (List Int))(hs:Sm s)(hg:Zl (-1) s=true)(ha:a.length<=1000)(hs0:Z4 a)(k:Nat)(hk:800<=k):z2.f k s a=some (pApp s a):=by
 unfold z2.f pApp;have hl:=hs.len;rw[editGood_eq s hs k hk,bs,if_pos hg,patchApp_l0 a ha hs0 s 0 [] (-1) hs hg (by omega) (by omega) (by omega) (by simp;omega)];rfl
theorem count_l0(s:List S99)(hs:Sm s):∀ (d k p:Nat) (x y:Nat),p+d=s.length->d<k->x<=300*p->y<=300*p->zL.l0 k s x y p=some ((x:Int)+delN (s.drop p),(y:Int)+insN (s.drop p)):=by
 have hl:=hs.len;intro d
 induction d with
 |zero =>
  intro k p x y hp hk hx hy;obtain⟨k,rfl⟩:∃ m,k=m+1:=⟨k-1,by omega⟩
  rw[zL.l0,if_neg (by omega),List.drop_eq_nil_of_le (by omega)];simp[delN,insN]
 |succ d ih =>
  intro k p x y hp hk hx hy;obtain⟨k,rfl⟩:∃ m,k=m+1:=⟨k-1,by omega⟩
  have hc:=drop_hunk (show p<s.length by omega);have hS:=hs.drop p;rw[hc]at hS;obtain⟨l1,l2,_,_,_⟩:=hS.cons;have h4:=ih k (p+1) (x+(s.getD p z99).f1.length) (y+(s.getD p z99).f2.length) (by omega) (by omega) (by omega) (by omega);simp only[Int.natCast_add,Int.cast_ofNat_Int]at h4;rw[zL.l0,if_pos (by omega),if_pos (by omega),rd_hunk,wr (by omega) (by omega),wr (by omega) (by omega),wr (by omega) (by omega),h4,drop_hunk (show p<s.length by omega),delN,insN];congr 2 <;> omega
theorem count_eq(s:List S99)(hs:Sm s)(k:Nat)(hk:400<=k):zL.f k s=some ((delN s:Int),(insN s:Int)):=by
 have hl:=hs.len;unfold zL.f;have:=count_l0 s hs s.length k 0 0 0 (by omega) (by omega) (by omega) (by omega)
 simpa using this
def str(t:List Int):List UInt8:=(strOfNums t).toList
theorem below_l0(x y:List Int)(hx:x.length<=1000):∀ (d k p:Nat),p+d=x.length->2*d+2<=k->∃ c,zv.l0 k x y p=some c:=by
 intro d
 induction d with
 |zero =>
  intro k p hp hk;obtain⟨k,rfl⟩:∃ m,k=m+2:=⟨k-2,by omega⟩
  rw[zv.l0,if_neg (by omega),zv.j1,if_neg (by decide)];exact⟨_,rfl⟩
 |succ d ih =>
  intro k p hp hk;obtain⟨k,rfl⟩:∃ m,k=m+2:=⟨k-2,by omega⟩
  obtain⟨c,h4⟩:=ih k (p+1) (by omega) (by omega);simp only[Int.natCast_add,Int.cast_ofNat_Int]at h4;rw[zv.l0,if_pos (by omega),zv.j1];by_cases c1:(p:Int)<(y.length:Int)
  ·rw[Qm c1,if_pos rfl,if_pos (by omega),if_pos (by omega),if_pos c1,wr (by omega) (by omega),h4]
   by_cases c2:rd x p=rd y p
   ·rw[if_pos c2];exact⟨_,rfl⟩
   ·rw[if_neg c2];exact⟨_,rfl⟩
  ·rw[Qn c1,if_neg (by decide)];exact⟨_,rfl⟩
theorem below_some(x y:List Int)(hx:x.length<=300)(k:Nat)(hk:1000<=k):∃ c,zv.f k x y=some c:=by
 unfold zv.f;exact below_l0 x y (by omega) x.length k 0 (by omega) (by omega)
theorem sort_at_some(k:Nat)(hk:1000<=k)(t:List Int):∀ (d:List (List Int)) (q:Nat),(∀ x∈d,x.length<=300)->∃ r,Zu k t d q=some r
 |[],q,_=>⟨q,rfl⟩
 |x::d,q,h=>by
  obtain⟨c,hc⟩:=below_some x t (h x (by simp)) k hk;rw[Zu,hc,bs];by_cases c1:c=true
  ·rw[if_pos c1];exact sort_at_some k hk t d (q+1) (fun y hy=>h y (by simp[hy]))
  ·rw[if_neg c1];exact⟨_,rfl⟩
theorem sort_l0(k:Nat)(hk:1000<=k):∀ (l d:List (List Int)),(∀ x∈l,x.length<=300)->(∀ x∈d,x.length<=300)->d.length+l.length<=1000000 ->
 ∃ r,zJ.l0 k l d=some r/\(∀ x∈d,x∈r)/\(∀ x∈l,∃ u∈r,str u=str x)/\r.length<=d.length+l.length/\(∀ x∈r,x.length<=300)
 |[],d,_,hd,_=>⟨d,rfl,fun _ h=>h,by simp,by simp,hd⟩
 |t::l,d,hl,hd,hn=>by
  obtain⟨q,hq⟩:=sort_at_some k hk t d 0 hd;rw[zJ.l0,hq,bs];simp only[List.length_cons]at hn ⊢;by_cases c:q<d.length/\((strOfNums (d.getD q [])).toList == (strOfNums t).toList)=true
  ·rw[if_pos c]
   obtain⟨r,h1,h2,h3,h4,h5⟩:=sort_l0 k hk l d (fun x hx=>hl x (by simp[hx])) hd (by omega);refine⟨r,h1,h2,fun x hx=>?_,by omega,h5⟩;simp only[List.mem_cons]at hx
   rcases hx with rfl|hx
   ·refine⟨d.getD q [],h2 _ ?_,beq_iff_eq.1 c.2⟩
    rw[List.getD_eq_getElem?_getD,List.getElem?_eq_getElem c.1];exact List.getElem_mem c.1
   ·exact h3 x hx
  ·rw[if_neg c,if_pos (by omega)]
   have hin:∀ x,x∈d.take q++[t]++d.drop q↔x=t\/x∈d:=fun x=>by
    rw[List.mem_append,List.mem_append,List.mem_singleton];constructor
    ·rintro((h|h)|h)
     ·exact .inr (List.mem_of_mem_take h)
     ·exact .inl h
     ·exact .inr (List.mem_of_mem_drop h)
    ·rintro(h|h)
     ·exact .inl (.inr h)
     ·rw[← List.take_append_drop q d,List.mem_append]at h
      rcases h with h|h
      ·exact .inl (.inl h)
      ·exact .inr h
   have hlen:(d.take q++[t]++d.drop q).length=d.length+1:=by simp only[List.length_append,List.length_take,List.length_drop,List.length_cons,List.length_nil];omega
   obtain⟨r,h1,h2,h3,h4,h5⟩:=sort_l0 k hk l (d.take q++[t]++d.drop q) (fun x hx=>hl x (by simp[hx])) (fun x hx=>by
    rcases(hin x).1 hx with rfl|h
    ·exact hl x (by simp)
    ·exact hd x h) (by rw[hlen];omega)
   refine⟨r,h1,fun x hx=>h2 x ((hin x).2 (.inr hx)),fun x hx=>?_,by rw[hlen]at h4;omega,h5⟩;simp only[List.mem_cons]at hx
   rcases hx with rfl|hx
   ·exact⟨x,h2 x ((hin x).2 (.inl rfl)),rfl⟩
   ·exact h3 x hx
def idx:List (List Int)->List UInt8->Option Nat
 |[],_=>none
 |u::d,s=>if str u=s then some 0 else(idx d s).map (· + 1)
def idOf(d:List (List Int))(t:List Int):Int:=((idx d (str t)).getD 0:Nat)
theorem idx_some:∀ {d:List (List Int)} {s:List UInt8},(∃ u∈d,str u=s)->∃ m,idx d s=some m
 |[],_,⟨u,hu,_⟩=>by simp at hu
 |v::d,s,⟨u,hu,e⟩=>by
  rw[idx];by_cases c:str v=s
  ·rw[if_pos c];exact⟨0,rfl⟩
  ·rw[if_neg c]
   simp only[List.mem_cons]at hu
   rcases hu with rfl|hu
   ·exact absurd e c
   ·obtain⟨m,hm⟩:=idx_some ⟨u,hu,e⟩
    rw[hm];exact⟨m+1,rfl⟩
theorem find_l0(d:List (List Int))(t:List Int)(hd:d.length<=1000000):∀ (n k p:Nat),p+n=d.length->n<k->zE.l0 k d t p=some (match idx (d.drop p) (str t)with|some m=>((p:Int)+(m:Int),true)|none=>(0,false)):=by
 intro n
 induction n with
 |zero =>
  intro k p hp hk;obtain⟨k,rfl⟩:∃ m,k=m+1:=⟨k-1,by omega⟩
  rw[zE.l0,if_neg (by omega),List.drop_eq_nil_of_le (by omega)];rfl
 |succ n ih =>
  intro k p hp hk;obtain⟨k,rfl⟩:∃ m,k=m+1:=⟨k-1,by omega⟩
  have h4:=ih k (p+1) (by omega) (by omega);simp only[Int.natCast_add,Int.cast_ofNat_Int]at h4;have hS:qc.f (d.getD p []) t=some (str (d.getD p []) == str t):=rfl;rw[zE.l0,if_pos (by omega),if_pos (by omega),rd_tok,hS,bs,wr (by omega) (by omega),h4,drop_tok (show p<d.length by omega),idx];by_cases c:str (d.getD p [])=str t
  ·rw[if_pos (beq_iff_eq.2 c),if_pos c];simp
  ·rw[if_neg (by rw[beq_iff_eq];exact c),if_neg c]
   cases idx (d.drop (p+1)) (str t)with
   |none=>rfl
   |some m=>simp only[Option.map_some];congr 2;omega
theorem ids_l0(d l:List (List Int))(hd:d.length<=1000)(hl:l.length<=1000)(h:∀ t∈l,∃ u∈d,str u=str t):∀ (n k p:Nat) (acc:List Int),p+n=l.length->acc.length=p->n+1100<=k->zx.l0 k d l acc p=some (acc++(l.drop p).map (idOf d),true):=by
 intro n
 induction n with
 |zero =>
  intro k p acc hp ha hk;obtain⟨k,rfl⟩:∃ m,k=m+1:=⟨k-1,by omega⟩
  rw[zx.l0,if_neg (by omega),List.drop_eq_nil_of_le (by omega)];simp
 |succ n ih =>
  intro k p acc hp ha hk;obtain⟨k,rfl⟩:∃ m,k=m+1:=⟨k-1,by omega⟩
  have hmem:l.getD p []∈l:=by rw[List.getD_eq_getElem?_getD,List.getElem?_eq_getElem (show p<l.length by omega)];exact List.getElem_mem _
  obtain⟨m,hm⟩:=idx_some (h _ hmem);have hf:zE.f k d (l.getD p [])=some (idOf d (l.getD p []),true):=by
   unfold zE.f idOf;have:=find_l0 d (l.getD p []) (by omega) d.length k 0 (by omega) (by omega);rw[List.drop_zero,hm]at this;rw[hm];refine this.trans ?_;simp
  have h4:=ih k (p+1) (acc++[idOf d (l.getD p [])]) (by omega) (by simp[ha]) (by omega);simp only[Int.natCast_add,Int.cast_ofNat_Int]at h4;rw[zx.l0,if_pos (by omega),if_pos (by omega),rd_tok,hf,bs,if_pos rfl,if_pos (by omega),wr (by omega) (by omega),h4,drop_tok (show p<l.length by omega),List.map_cons,List.append_assoc];rfl
theorem two_eq(a b:List (List Int))(ha:a.length<=450)(hb:b.length<=450)(ha':Z4 a)(hb':Z4 b)(k:Nat)(hk:3000<=k) :
 ∃ d:List (List Int),zY.f k a b=some (a.map (idOf d),b.map (idOf d),(d.length:Int))/\(∀ x∈a++b,∃ u∈d,str u=str x):=by
 obtain⟨d,h1,_,h3,h4,_⟩:=sort_l0 k (by omega) (a++b) [] (fun x hx=>by rw[List.mem_append]at hx;rcases hx with h|h;exact ha' x h;exact hb' x h) (by simp) (by simp only[List.length_append,List.length_nil];omega);simp only[List.length_append,List.length_nil]at h4;refine⟨d,?_,h3⟩;have hA:zx.f k d a=some (a.map (idOf d),true):=by
  unfold zx.f;have:=ids_l0 d a (by omega) (by omega) (fun t ht=>h3 t (by simp[ht])) a.length k 0 [] (by omega) rfl (by omega)
  simpa using this
 have hB:zx.f k d b=some (b.map (idOf d),true):=by
  unfold zx.f;have:=ids_l0 d b (by omega) (by omega) (fun t ht=>h3 t (by simp[ht])) b.length k 0 [] (by omega) rfl (by omega)
  simpa using this
 have hS:zJ.f k (a++b)=some d:=h1;unfold zY.f;rw[bs,if_pos (by simp;omega),List.nil_append,bs,if_pos (by omega),hS,bs,hA,bs,hB,bs]
def trow(a b:List Int)(p:Nat):List Int:=seq (b.length+1) fun q=>(T a b p q:Int)
theorem tattingref7_Behind_l1(a b:List Int)(ha:a.length<=100000)(hb:b.length<=100000)(r:List (List Int))(i:Nat)(hi:i<a.length)(F:Nat->List Int)(hF:∀ p,i<p->p<=a.length->F p=trow a b p)
 (hr:∀ G:Nat->List Int,(∀ p,i<=p->p<=a.length->G p=trow a b p)->Ev (fun k=>zd.l0 k a b (seq (a.length+1) G) ((i:Int)-1)) r):∀ (j:Nat) (g:Nat->Int),j<=b.length->(∀ q,j<=q->q<=b.length->g q=T a b i q) ->
 Ev (fun k=>zd.l1 k a b (seq (a.length+1) (upd F i (seq (b.length+1) g))) i ((j:Int)-1)) r:=by
 intro j
 induction j with
 |zero =>
  intro g hj h2;refine Ev.step (f:=fun k=>zd.j2 k a b (seq (a.length+1) (upd F i (seq (b.length+1) g))) i (((0:Nat):Int)-1) false) (fun k=>?_) ?_
  ·have e:decide ((((0:Nat):Int)-1)≥0)=false:=Qn (by omega)
   rw[zd.l1,if_pos (by omega),e]
  ·refine Ev.step (fun k=>?_) (hr (upd F i (seq (b.length+1) g)) (fun p hp hp'=>?_))
   ·rw[zd.j2,ift,wr (by omega) (by omega)]
   ·by_cases h:p=i
    ·subst h;rw[upd_same];exact seq_ext fun q hq=>h2 q (by omega) (by omega)
    ·rw[upd_ne _ _ h];exact hF p (by omega) hp'
 |succ j ih =>
  intro g hj h2;refine Ev.step (f:=fun k=>zd.j2 k a b (seq (a.length+1) (upd F i (seq (b.length+1) g))) i (((j+1:Nat):Int)-1) true) (fun k=>?_) ?_
  ·have e:decide ((((j+1:Nat):Int)-1)≥0)=true:=Qm (by omega)
   rw[zd.l1,if_pos (by omega),e]
  have hF1:=hF (i+1) (by omega) (by omega);have hu:upd F i (seq (b.length+1) g) (i+1)=trow a b (i+1):=by rw[upd_ne _ _ (by omega)];exact hF1
  have l0:=Zk (a.length+1) (upd F i (seq (b.length+1) g));have l1:=Zk (b.length+1) g;have l2:(trow a b (i+1)).length=b.length+1:=Zk _ _;have e1:rd a (i:Int)=a.getD i 0:=rfl;have e2:rd b ((((j+1:Nat):Int))-1)=b.getD j 0:=rd_at (by omega);have e3:=rd_L4_seq (n:=a.length+1) (upd F i (seq (b.length+1) g)) (i:=(i:Int)) (p:=i) (by omega) rfl;rw[upd_same]at e3;have e4:=rd_L4_seq (n:=a.length+1) (upd F i (seq (b.length+1) g)) (i:=(i:Int)+1) (p:=i+1) (by omega) (by omega);rw[hu]at e4;have e5:rd (trow a b (i+1)) ((((j+1:Nat):Int))-1+1)=T a b (i+1) (j+1):=rd_seq (n:=b.length+1) (fun q=>(T a b (i+1) q:Int)) (p:=j+1) (by omega) (by omega);have e6:rd (trow a b (i+1)) ((((j+1:Nat):Int))-1)=T a b (i+1) j:=rd_seq (n:=b.length+1) (fun q=>(T a b (i+1) q:Int)) (p:=j) (by omega) (by omega);have e7:=rd_seq (n:=b.length+1) g (i:=(((j+1:Nat):Int))-1+1) (p:=j+1) (by omega) (by omega);have hs:=T_step (a:=a) (b:=b) (i:=i) (j:=j) hi (by omega);have t1:=T_le_left a b (i+1) (j+1);have v3:=h2 (j+1) (by omega) (by omega);have key:∀ v:Int,v=T a b i j->Ev (fun k=>zd.l1 k a b ((seq (a.length+1) (upd F i (seq (b.length+1) g))).set (i:Int).toNat ((seq (b.length+1) g).set ((((j+1:Nat):Int))-1).toNat v)) i ((((j+1:Nat):Int))-1-1)) r:=by
   intro v hv;rw[show ((((j+1:Nat):Int))-1).toNat=j by omega,show ((((j+1:Nat):Int))-1-1)=(j:Int)-1 by omega,Int.toNat_natCast,seq_set,seq_set]
   have hg:=ih (upd g j v) (by omega) (fun q hq hq'=>by
    by_cases h:q=j
    ·subst h;rw[upd_same,hv]
    ·rw[upd_ne _ _ h];exact h2 q (by omega) hq')
   have e:upd (upd F i (seq (b.length+1) g)) i (seq (b.length+1) (upd g j v))=upd F i (seq (b.length+1) (upd g j v)):=by
    funext p
    by_cases h:p=i
    ·subst h;rw[upd_same,upd_same]
    ·rw[upd_ne _ _ h,upd_ne _ _ h,upd_ne _ _ h]
   rw[e];exact hg
  by_cases hab:a.getD i 0=b.getD j 0
  ·refine Ev.step (fun k=>?_) (key (T a b (i+1) (j+1)+1) ?_)
   ·simp(disch:=omega) only[zd.j2,itt,ifT,wr,if_pos,e1,e2,e3,e4,e5,l0,l1,l2,if_pos hab]
   ·rw[hs,if_pos hab];simp
  ·refine Ev.step (fun k=>?_) (key (mx (T a b (i+1) j) (g (j+1))) ?_)
   ·simp(disch:=omega) only[zd.j2,itt,ifT,wr,if_pos,e1,e2,e3,e4,e6,e7,l0,l1,l2]
    simp(disch:=omega) only[if_neg hab,if_pos,wr]
   ·rw[hs,if_neg hab,v3];unfold mx;omega
theorem tattingref7_Behind_l0(a b:List Int)(ha:a.length<=100000)(hb:b.length<=100000):∀ (i:Nat) (F:Nat->List Int),i<=a.length ->
 (∀ p,i<=p->p<=a.length->F p=trow a b p)->Ev (fun k=>zd.l0 k a b (seq (a.length+1) F) ((i:Int)-1)) (behind a b):=by
 intro i
 induction i with
 |zero =>
  intro F hi h1;refine Ev.step (f:=fun _=>some _) (fun k=>?_) (Ev.now _);simp(disch:=omega) only[zd.l0,if_neg];congr 1;exact seq_ext fun p hp=>h1 p (by omega) (by omega)
 |succ i ih =>
  intro F hi h1;refine Ev.step (fun k=>?_) (tattingref7_Behind_l1 a b ha hb (behind a b) i (by omega) F (fun p hp hp'=>h1 p (by omega) hp') (fun G hG=>ih G (by omega) hG) b.length (fun _=>0) (by omega) (fun q hq hq'=>?_))
  ·have l0:=Zk (a.length+1) F
   have e:((b.length:Int)+1).toNat=b.length+1:=by omega
   simp(disch:=omega) only[zd.l0,wr,if_pos,e,l0,seq_const,seq_set];rw[show ((((i+1:Nat):Int))-1)=(i:Int) by omega,Int.toNat_natCast]
  ·rw[T_out_right (by omega)];rfl
theorem tattingref7_Behind_eq(a b:List Int)(ha:a.length<=100000)(hb:b.length<=100000):Ev (fun k=>zd.f k a b) (behind a b):=by
 have hrow:(seq (b.length+1) fun _=>(0:Int))=trow a b a.length:=seq_ext fun q hq=>by rw[T_out_left (by omega)];rfl
 have h0:=tattingref7_Behind_l0 a b ha hb a.length (upd (fun _=>[]) a.length (seq (b.length+1) fun _=>0)) (by omega) (fun p hp hp'=>by
  obtain rfl:p=a.length:=by omega
  rw[upd_same,hrow])
 have h1:Ev (fun k=>zd.l1 k a b (seq (a.length+1) (upd (fun _=>[]) a.length (seq (b.length+1) fun _=>0))) a.length ((b.length:Int)-1)) (behind a b):=by
  refine Ev.step (f:=fun k=>zd.j2 k a b (seq (a.length+1) (upd (fun _=>[]) a.length (seq (b.length+1) fun _=>0))) a.length ((b.length:Int)-1) false) (fun k=>?_) (Ev.step (fun k=>?_) h0)
  ·rw[zd.l1,if_neg (by omega)]
  ·rw[zd.j2,ift,wr (by omega) (by omega)]
 have h2:Ev (fun k=>zd.l0 k a b (seq (a.length+1) (fun _=>[])) a.length) (behind a b):=by
  refine Ev.step (fun k=>?_) h1;have l0:=Zk (a.length+1) (fun _=>([]:List Int));have e:((b.length:Int)+1).toNat=b.length+1:=by omega
  simp(disch:=omega) only[zd.l0,wr,if_pos,e,l0,seq_const,seq_set];rw[Int.toNat_natCast]
 refine Ev.congr (fun k=>?_) h2;have e:((a.length:Int)+1).toNat=a.length+1:=by omega
 unfold zd.f;simp(disch:=omega) only[wr,if_pos,e,seq_const]
theorem tattingref7_Len_eq(a b:List Int)(ha:a.length<=100000)(hb:b.length<=100000):Ev (fun k=>qS.f k a b) (lcs a b:Int):=by
 unfold qS.f;refine Ev.bind (tattingref7_Behind_eq a b ha hb) ?_;refine Ev.congr (fun k=>?_) (Ev.now _);have l0:(behind a b).length=a.length+1:=Zk _ _;have e3:zD (behind a b) 0=trow a b 0:=rd_L4_seq (n:=a.length+1) _ (p:=0) (by omega) rfl;have l1:(trow a b 0).length=b.length+1:=Zk _ _;have e4:rd (trow a b 0) 0=T a b 0 0:=rd_seq (n:=b.length+1) _ (p:=0) (by omega) rfl;simp(disch:=omega) only[if_pos,l0,e3,l1,e4];rfl
theorem tattingref7_Dist_eq(a b:List Int)(ha:a.length<=100000)(hb:b.length<=100000):Ev (fun k=>z6.f k a b) (dist a b:Int):=by
 unfold z6.f;refine Ev.bind (tattingref7_Len_eq a b ha hb) (Ev.congr (fun k=>?_) (Ev.now _));have:=dist_add a b;have:=Zi a b;simp(disch:=omega) only[wr];congr 1;omega
theorem tok_Join_l0(l:List (List Int))(hl:l.length<=100000000)(hs:l.flatten.length<=100000000):∀ (d k p:Nat),p+d=l.length->d<k->qO.l0 k (l.take p).flatten l l.length p=some l.flatten:=by
 intro d
 induction d with
 |zero =>
  intro k p hp hk;obtain⟨k,rfl⟩:∃ m,k=m+1:=⟨k-1,by omega⟩
  rw[qO.l0,if_neg (by omega),List.take_of_length_le (by omega)]
 |succ d ih =>
  intro k p hp hk;obtain⟨k,rfl⟩:∃ m,k=m+1:=⟨k-1,by omega⟩
  have e1:qX l (p:Int)=l.getD p []:=rfl;have e2:l.take (p+1)=l.take p++[l.getD p []]:=by
   rw[List.take_succ_eq_append_getElem (by omega)];simp[List.getD_eq_getElem?_getD,show p<l.length by omega]
  have e3:(l.take (p+1)).flatten=(l.take p).flatten++l.getD p []:=by rw[e2];simp
  have e4:l.flatten=(l.take (p+1)).flatten++(l.drop (p+1)).flatten:=by rw[← List.flatten_append,List.take_append_drop]
  have h4:=ih k (p+1) (by omega) (by omega);have hlen:(l.take p).flatten.length+(l.getD p []).length<=100000000:=by
   have:=congrArg List.length e4;rw[e3]at this;simp only[List.length_append]at this;omega
  rw[e3]at h4;simp only[Int.natCast_add,Int.cast_ofNat_Int]at h4;rw[qO.l0,if_pos (by omega),if_pos (by omega),if_pos (by omega),e1,if_pos (by omega),wr (by omega) (by omega),h4]
theorem tok_Join_eq(l:List (List Int))(hl:l.length<=100000000)(hs:l.flatten.length<=100000000)(k:Nat)(hk:l.length<k):qO.f k l=some l.flatten:=by
 unfold qO.f;exact tok_Join_l0 l hl hs l.length k 0 (by omega) hk
theorem lineEnd_at:∀ (l:List Int) (n:Nat),(∀ q,q<n->l.getD q 0≠10)->n<l.length->l.getD n 0=10->qE l=n+1
 |[],n,_,h,_=>by simp at h
 |c::t,0,_,_,e=>by
  have e:c=10:=by simpa using e
  rw[qE,if_pos e]
 |c::t,n+1,hn,hl,e=>by
  have h0:c≠10:=by simpa using hn 0 (by omega)
  rw[qE,if_neg h0,lineEnd_at t n (fun q hq=>by simpa using hn (q+1) (by omega)) (by simpa using hl) (by simpa using e)]
theorem lineEnd_none:∀ (l:List Int),(∀ q,q<l.length->l.getD q 0≠10)->qE l=l.length
 |[],_=>rfl
 |c::t,hn=>by
  have h0:c≠10:=by simpa using hn 0 (by simp)
  rw[qE,if_neg h0,lineEnd_none t (fun q hq=>by simpa using hn (q+1) (by simpa using hq))];rfl
theorem getD_drop0(a:List Int)(i p:Nat):(a.drop i).getD p 0=a.getD (i+p) 0:=by simp[List.getD_eq_getElem?_getD]
theorem tattingref1_Cut_lines(b:List Int)(hb:b.length<=100000):∀ (d k i f:Nat) (acc:List (List Int)),i+d=b.length->f<=i->acc.length<=f->(∀ q,f<=q->q<i->b.getD q 0≠10)->d<k ->
 zA.l0 k 1 b acc f i=some (acc++Zw (b.drop f),0):=by
 intro d
 induction d with
 |zero =>
  intro k i f acc hi hf ha hn hk;obtain⟨k,rfl⟩:∃ m,k=m+1:=⟨k-1,by omega⟩
  rw[zA.l0,if_neg (by omega)];by_cases c:f<b.length
  ·have hl:(b.drop f).length=b.length-f:=by simp
   have hne:b.drop f≠[]:=by intro e;rw[e]at hl;simp at hl;omega
   have he:=lineEnd_none (b.drop f) (fun q hq=>by rw[getD_drop0];exact hn (f+q) (by omega) (by omega));rw[if_pos (by omega),if_pos (by omega),if_pos (by omega),if_pos (by omega),lines_eq _ hne,he,List.take_length,List.drop_length,Int.toNat_natCast];rfl
  ·rw[if_neg (by omega),List.drop_eq_nil_of_le (by omega)];simp[Zw]
 |succ d ih =>
  intro k i f acc hi hf ha hn hk;obtain⟨k,rfl⟩:∃ m,k=m+1:=⟨k-1,by omega⟩
  have e1:rd b (i:Int)=b.getD i 0:=rfl;rw[zA.l0,if_pos (by omega),if_neg (by decide),if_pos (by omega),e1,wr (by omega) (by omega)];by_cases c:b.getD i 0=10
  ·have hl:(b.drop f).length=b.length-f:=by simp
   have hne:b.drop f≠[]:=by intro e;rw[e]at hl;simp at hl;omega
   have he:=lineEnd_at (b.drop f) (i-f) (fun q hq=>by rw[getD_drop0];exact hn (f+q) (by omega) (by omega)) (by omega) (by rw[getD_drop0,show f+(i-f)=i by omega];exact c);have h4:=ih k (i+1) (i+1) (acc++[(b.take (i+1)).drop f]) (by omega) (by omega) (by simp;omega) (fun q h1 h2=>by omega) (by omega);have t1:((i:Int)+1).toNat=i+1:=by omega
   have hfin:acc++[(b.take (i+1)).drop f]++Zw (b.drop (i+1))=acc++Zw (b.drop f):=by
    rw[lines_eq _ hne,he,List.drop_take,List.drop_drop,show i-f+1=i+1-f by omega,show f+(i+1-f)=i+1 by omega,List.append_assoc]
    rfl
   rw[hfin]at h4;simp only[Int.natCast_add,Int.cast_ofNat_Int]at h4;rw[if_pos c,if_pos (by omega),if_pos (by omega),if_pos (by omega),if_pos (by omega),t1,Int.toNat_natCast,h4]
  ·have h4:=ih k (i+1) f acc (by omega) (by omega) ha (fun q h1 h2=>by
    by_cases e:q=i
    ·subst e;exact c
    ·exact hn q h1 (by omega)) (by omega)
   simp only[Int.natCast_add,Int.cast_ofNat_Int]at h4;rw[if_neg c,h4]
theorem tattingref1_Cut_chars(b:List Int)(hb:b.length<=100000):∀ (d k i:Nat) (acc:List (List Int)),i+d=b.length->acc.length<=i->d<k ->
 zA.l0 k 0 b acc i i=some (acc++(b.drop i).map (fun c=>[c]),0):=by
 intro d
 induction d with
 |zero =>
  intro k i acc hi ha hk;obtain⟨k,rfl⟩:∃ m,k=m+1:=⟨k-1,by omega⟩
  rw[zA.l0,if_neg (by omega),if_neg (by omega),List.drop_eq_nil_of_le (by omega)];simp
 |succ d ih =>
  intro k i acc hi ha hk;obtain⟨k,rfl⟩:∃ m,k=m+1:=⟨k-1,by omega⟩
  have t1:((i:Int)+1).toNat=i+1:=by omega
  have h4:=ih k (i+1) (acc++[[b.getD i 0]]) (by omega) (by simp;omega) (by omega);have e1:(b.take (i+1)).drop i=[b.getD i 0]:=by
   rw[List.drop_take,drop_getD (show i<b.length by omega),show i+1-i=1 by omega];rfl
  simp only[Int.natCast_add,Int.cast_ofNat_Int]at h4;rw[zA.l0,if_pos (by omega),if_pos rfl,wr (by omega) (by omega),if_pos (by omega),if_pos (by omega),if_pos (by omega),if_pos (by omega),t1,Int.toNat_natCast,e1,h4,drop_getD (show i<b.length by omega)];simp
theorem ZY(m:Bool)(b:List Int)(hb:b.length<=100000)(k:Nat)(hk:b.length+1<k):zA.f k (z7 m) b=some (ql m b,0):=by
 obtain⟨k,rfl⟩:∃ m,k=m+1:=⟨k-1,by omega⟩
 cases m with
 |true =>
  show (if (1:Int)=0 then zA.j0 (k+1) 1 b false else zA.j0 (k+1) 1 b ((1:Int) != 1))=some (Zw b,0)
  rw[if_neg (by decide),show ((1:Int) != 1)=false from rfl,zA.j0,ift]
  have:=tattingref1_Cut_lines b hb b.length k 0 0 [] (by omega) (by omega) (by simp) (fun q h1 h2=>by omega) (by omega)
  simpa using this
 |false =>
  show (if (0:Int)=0 then zA.j0 (k+1) 0 b false else zA.j0 (k+1) 0 b ((0:Int) != 1))=some (b.map (fun c=>[c]),0)
  rw[if_pos rfl,zA.j0,ift];have:=tattingref1_Cut_chars b hb b.length k 0 [] (by omega) (by simp) (by omega)
  simpa using this
theorem refJoin_l0(l:List (List Int))(hl:l.length<=100000000)(hs:l.flatten.length<=100000000):∀ (d k p:Nat),p+d=l.length->d<k->zM.l0 k l (l.take p).flatten (p:Int)=some l.flatten:=by
 intro d
 induction d with
 |zero =>
  intro k p hp hk;obtain⟨k,rfl⟩:∃ m,k=m+1:=⟨k-1,by omega⟩
  rw[zM.l0,if_neg (by omega),List.take_of_length_le (by omega)]
 |succ d ih =>
  intro k p hp hk;obtain⟨k,rfl⟩:∃ m,k=m+1:=⟨k-1,by omega⟩
  have e1:qX l (p:Int)=l.getD p []:=rfl;have e2:l.take (p+1)=l.take p++[l.getD p []]:=by
   rw[List.take_succ_eq_append_getElem (by omega)];simp[List.getD_eq_getElem?_getD,show p<l.length by omega]
  have e3:(l.take (p+1)).flatten=(l.take p).flatten++l.getD p []:=by rw[e2];simp
  have e4:l.flatten=(l.take (p+1)).flatten++(l.drop (p+1)).flatten:=by rw[← List.flatten_append,List.take_append_drop]
  have h4:=ih k (p+1) (by omega) (by omega);have hlen:(l.take p).flatten.length+(l.getD p []).length<=100000000:=by
   have:=congrArg List.length e4;rw[e3]at this;simp only[List.length_append]at this;omega
  rw[e3]at h4;simp only[Int.natCast_add,Int.cast_ofNat_Int]at h4;rw[zM.l0,if_pos (by omega),if_pos (by omega),e1,if_pos (by omega),wr (by omega) (by omega),h4]
theorem refJoin_eq(l:List (List Int))(hl:l.length<=100000000)(hs:l.flatten.length<=100000000)(k:Nat)(hk:l.length<k):zM.f k l=some l.flatten:=by
 unfold zM.f;exact refJoin_l0 l hl hs l.length k 0 (by omega) hk
theorem Qg:∀ {l:List (List Int)},Z4 l->l.flatten.length<=300*l.length
 |[],_=>by simp
 |t::l,h=>by
  have h1:=Qg (l:=l) (fun x hx=>h x (by simp[hx]));have h2:=h t (by simp);simp only[List.flatten_cons,List.length_append,List.length_cons];omega
theorem pApply_none(b a:List Int)(hb:b.length<=300)(hu:u8s b)(hd:decN b=none)(k:Nat)(hk:2000<=k):∃ z,qg.f k b a=some ([],z,4):=by
 obtain⟨r,e,hr⟩:=pDec_eq b hb hu k hk;unfold decR at hr;rw[hd]at hr;obtain⟨z,rfl⟩:=hr;unfold qg.f;rw[e,bsd];dsimp only;rw[if_neg (by decide)];exact⟨z,rfl⟩
theorem pApply_some(b a:List Int)(hb:b.length<=300)(hu:u8s b)(ha:a.length<=24)(hua:u8s a){m:Bool}{s:List (Nat×List (List Int)×List (List Int))}(hd:decN b=some (m,s))(k:Nat)(hk:3000<=k) :
 qg.f k b a=some (if fits (s.map toS) (ql m a)=true then((Zm (s.map toS) (ql m a) 0).flatten,0,0)else([],0,5)):=by
 obtain⟨r,e,hr⟩:=pDec_eq b hb hu k (by omega);obtain⟨hsm,hg⟩:=dec_sm hb hd;unfold decR at hr;rw[hd]at hr;have hr:r=(z7 m,s.map toS,0,0):=hr;subst hr;have hcl:=ZM m a;have hcs:Z4 (ql m a):=fun t ht=>by have:=cutsOf_tok ht;omega
 unfold qg.f ZC.f;rw[e,bsd];dsimp only;rw[if_pos rfl,tok_Cut_eq m a hua (by omega) k (by omega),bsd];dsimp only;rw[if_pos rfl,patchApp_eq _ _ hsm hg (by omega) hcs k (by omega),bsd];unfold pApp;by_cases c:fits (s.map toS) (ql m a)=true
 ·rw[if_pos c,if_pos c]
  dsimp only;have hl:=(lcs_app (fun _=>0) (ql m a) (s.map toS) 0 (-1) hg (by omega) (by omega) (by omega) c).2;have hd:=delN_le (s.map toS);have hn:=hsm.n;have hq:(Zm (s.map toS) (ql m a) 0).length<=400:=by omega
  have hfl:=Qg (appOut_short (ql m a) hcs (s.map toS) 0 hsm);rw[if_pos rfl,tok_Join_eq _ (by omega) (by omega) k (by omega),bsd,bsd]
 ·rw[if_neg c,if_neg c]
  dsimp only;rw[if_neg (by decide),bsd]
theorem law_TopFewest(b a:List Int)(hu:u8s b)(hua:u8s a):∃ k,zt.f k b a=some true:=by
 by_cases c1:b.length<=300
 ·by_cases c2:a.length<=24
  ·cases hd:decN b with
   |none =>
    refine⟨4001,?_⟩;obtain⟨r,e,hr⟩:=rDec_eq b c1 hu 4000 (by omega);unfold decR at hr;rw[hd]at hr;obtain⟨z,rfl⟩:=hr;obtain⟨z',hp⟩:=pApply_none b a c1 hu hd 4000 (by omega);unfold zt.f qq.f;rw[bsd,if_pos rfl,if_neg (by omega),zt.j0,Qn (by omega),if_neg (by decide),e,bsd];dsimp only;rw[if_neg (by decide),hp,bsd];dsimp only;rw[if_pos rfl];rfl
   |some p =>
    obtain⟨m,s⟩:=p;obtain⟨hsm,hg⟩:=dec_sm c1 hd;have hcl:=ZM m a;have hcs:Z4 (ql m a):=fun t ht=>by have:=cutsOf_tok ht;omega
    by_cases c:fits (s.map toS) (ql m a)=true
    ·have hl:=(lcs_app (fun _=>0) (ql m a) (s.map toS) 0 (-1) hg (by omega) (by omega) (by omega) c).2
     have hdl:=delN_le (s.map toS);have hn:=hsm.n;have hq:(Zm (s.map toS) (ql m a) 0).length<=400:=by omega
     have hqs:=appOut_short (ql m a) hcs (s.map toS) 0 hsm;have hfl:=Qg hqs;obtain⟨d,hT,_⟩:=two_eq (ql m a) (Zm (s.map toS) (ql m a) 0) (by omega) (by omega) hcs hqs 3000 (by omega);obtain⟨K2,hK2⟩:Ev (fun k=>zY.f k (ql m a) (Zm (s.map toS) (ql m a) 0)) _:=Ev.of (fun k=>zY.mono _ _ k) hT;obtain⟨K3,hK3⟩:=tattingref7_Dist_eq ((ql m a).map (idOf d)) ((Zm (s.map toS) (ql m a) 0).map (idOf d)) (by rw[List.length_map];omega) (by rw[List.length_map];omega);obtain⟨q1,q2⟩:=lcs_app (idOf d) (ql m a) (s.map toS) 0 (-1) hg (by omega) (by omega) (by omega) c;have q3:=dist_add ((ql m a).map (idOf d)) ((Zm (s.map toS) (ql m a) 0).map (idOf d));rw[List.length_map,List.length_map]at q3;rw[List.drop_zero]at q1;have hD:=hK3 (K2+K3+4000) (by omega);have hTT:=hK2 (K2+K3+4000) (by omega);simp only at hD hTT;refine⟨K2+K3+4000+1,?_⟩;obtain⟨r,e,hr⟩:=rDec_eq b c1 hu (K2+K3+4000) (by omega);unfold decR at hr;rw[hd]at hr;have hr:r=(z7 m,s.map toS,0,0):=hr;subst hr;unfold zt.f qq.f;rw[bsd,if_pos rfl,if_neg (by omega),zt.j0,Qn (by omega),if_neg (by decide),e,bsd];dsimp only;rw[if_pos rfl,ZY m a (by omega) _ (by omega),bsd];dsimp only;rw[patchApp_eq _ _ hsm hg (by omega) hcs _ (by omega),bsd];unfold pApp;rw[if_pos c];dsimp only;rw[if_pos rfl,pApply_some b a c1 hu c2 hua hd _ (by omega),bsd,if_pos c,count_eq _ hsm _ (by omega),bsd,hTT,bsd];dsimp only;rw[if_pos rfl,refJoin_eq _ (by omega) (by omega) _ (by omega),bsd,if_pos rfl,hD,bsd,wr (by omega) (by omega),wr (x:=((ql m a).length:Int)-_) (by omega) (by omega),wr (x:=((Zm (s.map toS) (ql m a) 0).length:Int)-_) (by omega) (by omega),if_pos (by omega),if_pos (by omega),Qm (by omega)]
    ·refine⟨4001,?_⟩
     obtain⟨r,e,hr⟩:=rDec_eq b c1 hu 4000 (by omega);unfold decR at hr;rw[hd]at hr;have hr:r=(z7 m,s.map toS,0,0):=hr;subst hr;unfold zt.f qq.f;rw[bsd,if_pos rfl,if_neg (by omega),zt.j0,Qn (by omega),if_neg (by decide),e,bsd];dsimp only;rw[if_pos rfl,ZY m a (by omega) _ (by omega),bsd];dsimp only;rw[patchApp_eq _ _ hsm hg (by omega) hcs _ (by omega),bsd];unfold pApp;rw[if_neg c];dsimp only;rw[if_neg (by decide),pApply_some b a c1 hu c2 hua hd _ (by omega),bsd,if_neg c];dsimp only;rw[if_pos rfl];rfl
  ·refine⟨2,?_⟩
   unfold zt.f qq.f;rw[bsd,if_pos rfl,if_neg (by omega),zt.j0,Qm (by omega),if_pos rfl]
 ·refine⟨2,?_⟩
  unfold zt.f qq.f;rw[bsd,if_pos rfl,if_pos (by omega),zt.j0,if_pos rfl]
theorem top_fewest.calls(A0 A1:Option Addr)(c0 c1:Nat)(l0 l1:List Int)(w:World)(h0:Kd.C (Kd.int .u8) w A0 l0.length l0)(h1:Kd.C (Kd.int .u8) w A1 l1.length l1)(k0:l0.length<=c0)(k1:l1.length<=c1)(u0:u8s l0)(u1:u8s l1) :
 Calls Tryz.prog 7 #[.slice A0 l0.length c0,.slice A1 l1.length c1] w fun e w'=>e=.returned (.bool true)/\Below w.heap.size w w':=by
 obtain⟨k,hk⟩:=law_TopFewest l0 l1 u0 u1;exact zt.calls k A0 c0 l0 A1 c1 l1 true w h0 k0 h1 k1 hk rfl
end Go.Proofs.YtdiojfaenfggkaaGreat.PTopNear
