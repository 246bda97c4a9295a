/- Functions of the given program, each a Lean function and the walk that shows it. -/
import Derived.Test.YtdiojfaenfggkaaGreatNTopFewestC
import Derived.Outline
import Derived.Deep.RegionHeld3
import Derived.Deep.DeepCutAuto
import Derived.Deep.QuietTactic
import Derived.BigQuiet
import Derived.IntWalk
set_option maxHeartbeats 8000000
set_option maxRecDepth 100000
namespace Go.Proofs.YtdiojfaenfggkaaGreat.PTopNear
open Go.RowKit Go.Proofs.YtdiojfaenfggkaaGreatW.PrintWords Go.Proofs.YtdiojfaenfggkaaGreatW.PrintLast Go.Proofs.YtdiojfaenfggkaaGreatW.PrintMore
attribute [local go_sem] qW qU Zg Zf qK qJ qV qT
set_option linter.unusedVariables false
set_option linter.unusedSimpArgs false
def qB.l0:Nat->Int->List (List Int)->Int->Int->Option ((List (List Int)))
 |0,_,_,_,_=>none
 |k+1,x1,x5,x11,x12=>if x12<x11 then(if 0<=(wrap64 (x1+1))then(if (wrap64 (x1+1):Int).toNat<=35184372088832 then(if 0<=x12 then(if x12<(x5.length:Int)then(qB.l0 k x1 (x5.set (x12:Int).toNat (List.replicate (wrap64 (x1+1):Int).toNat 0)) x11 (wrap64 (x12+1)))else(none))else(none))else(none))else(none))else(some x5)
def qB.f(k:Nat)(a0:Int)(a1:Int):Option ((List (List Int))):=if 0<=(wrap64 (a0+1))then(if (wrap64 (a0+1):Int).toNat<=11728124029610 then((some (List.replicate (wrap64 (a0+1):Int).toNat []:List (List Int))).bind fun y217=>(qB.l0 k a1 y217 (y217.length:Int) 0))else(none))else(none)
theorem qB.calls(k:Nat)(a0:Int)(a1:Int)(r:List (List Int))(w:World)(h:qB.f k a0 a1=some r) :
 Calls Tryz.prog 151 #[.int .i64 a0,.int .i64 a1] w fun e w'=>∃ v0_:Value,e=.returned (v0_)/\Kd.S (Kd.slice 3 (Kd.int .i64)) 25 w' w.heap.size (fun _=>True) v0_ r/\Below w.heap.size w w':=by
 have HB:=Qk (Below.refl w.heap.size w);have H:(if 0<=(wrap64 (a0+1))then(if (wrap64 (a0+1):Int).toNat<=11728124029610 then((some (List.replicate (wrap64 (a0+1):Int).toNat []:List (List Int))).bind fun y217=>(qB.l0 k a1 y217 (y217.length:Int) 0))else(none))else(none))=some r:=h;clear h;obtain⟨ji3,hji3⟩:∃ j_:Int,(wrap64 (a0+1))=j_:=⟨_,rfl⟩
 replace H:(if 0<=(ji3)then(if (ji3:Int).toNat<=11728124029610 then((some (List.replicate (ji3:Int).toNat []:List (List Int))).bind fun y217=>(qB.l0 k a1 y217 (y217.length:Int) 0))else(none))else(none))=some r:=by first|(rw[hji3]at H;exact H)|(simp only[hji3]at H ⊢;exact H)
 have hji3w:(IntKind.i64.wrap (a0+1))=ji3:=(zp _).trans hji3;replace H:=ifSome H;obtain⟨c4,H⟩:=H;have c4b0:=Qr c4;have c4b1:decide (0<=(ji3))=true:=Qm c4;clear c4;replace H:=ifSome H;obtain⟨c5,H⟩:=H;have c5b0:=Qr c5;have c5b1:decide ((ji3:Int).toNat<=11728124029610)=true:=Qm c5;clear c5;obtain⟨y217,hy217⟩:∃ y_:List (List Int),y_=(List.replicate (ji3:Int).toNat []):=⟨_,rfl⟩
 replace H:(qB.l0 k a1 y217 (y217.length:Int) 0)=some r:=by first|(rw[hy217];with_reducible exact H)|(have H2_:=(Option.bind_some _ _).symm.trans H;rw[hy217];with_reducible exact H2_)|(have H2_:=(Option.bind_some _ _).symm.trans H;with_reducible exact H2_)|with_reducible exact H|(rw[hy217];exact H)|exact H
 have Ny217:=Qk hy217;clear hy217;have H':=Qk H;clear H;go_enter Tryz.func151,Tryz.ntmps151;go_wp2_with (first|((with_reducible refine qf (N:=9) rfl ?_);refine Kd.S_make (Kd.slice 3 (Kd.int .i64)) _ 25 rfl (N:=9) rfl 111 _ _ rfl ji3 rfl rfl Tryz.underlying111 (.slice none 0 0) 24 info25 rfl (by decide) (by omega) [] (ok:=fun _=>True) (okp:=fun _=>True) ⟨_,rfl,Kd.R_nil _ _ _ _ _⟩ (fun _ hk=>hk) trivial (Ql (by assumption)) (Nat.le_trans (Nat.mul_le_mul_right _ (Ql (by assumption):ji3.toNat<=11728124029610)) (by omega)) (Below.refl _ _) (Nat.le_refl _) ?_;intro v218 w6 ho7 hb hg_ hnew_;(first|rw[← Ny217.out]at ho7|(simp only[Int.reduceToNat]at ho7;rw[← Ny217.out]at ho7));have HO219:=Qk (Kd.S_lower ho7 (ze HB.out));replace HB:=Qk (zi HB.out hb);obtain⟨Ao8,co8,eo8⟩:=Kd.S_slice HO219.out;subst eo8))
 go_loopg [12] k (fun kq v12 w'=>∃ (x5_1:List (List Int)) (x12_1:Int),v12=.int .i64 x12_1/\Aside0 (qB.l0 kq a1 x5_1 (y217.length:Int) x12_1=some r)/\Aside0 (kq<=k)/\Aside0 (Kd.S (Kd.slice 3 (Kd.int .i64)) 25 w' w.heap.size (fun _=>True) (.slice Ao8 y217.length co8) x5_1)/\Aside0 (Below w.heap.size w w'))
 case atStart=>exact⟨(y217),(0),rfl,H',⟨Nat.le_refl _⟩,⟨HO219.out⟩,⟨HB.out⟩⟩
 case round =>
  clear H';obtain⟨x5_1,x12_1,rfl,HA,HK1,HO_5,HB⟩:=hrel;have hl5_1:=(Kd.S_reads' HO_5.out).1;rw[hl5_1]at HO_5;(try simp only[hl5_1])
  cases gk with
  |zero=>exact absurd HA.out (by simp[qB.l0])
  |succ k1 =>
   have H:=HA.out;clear HA;simp only[qB.l0]at H;by_cases c9:x12_1<(y217.length:Int)
   ·rw[if_pos c9]at H;have c9b0:decide (x12_1<(y217.length:Int))=true:=Qm c9;try(have c9b0zhl5_1:=c9b0;rw[hl5_1]at c9b0zhl5_1)
    clear c9;obtain⟨ji10,hji10⟩:∃ j_:Int,(wrap64 (a1+1))=j_:=⟨_,rfl⟩
    replace H:(if 0<=(ji10)then(if (ji10:Int).toNat<=35184372088832 then(if 0<=x12_1 then(if x12_1<(x5_1.length:Int)then(qB.l0 k1 a1 (x5_1.set (x12_1:Int).toNat (List.replicate (ji10:Int).toNat 0)) (y217.length:Int) (wrap64 (x12_1+1)))else(none))else(none))else(none))else(none))=some r:=by first|(rw[hji10]at H;exact H)|(simp only[hji10]at H ⊢;exact H)
    have hji10w:(IntKind.i64.wrap (a1+1))=ji10:=(zp _).trans hji10;replace H:=ifSome H;obtain⟨c11,H⟩:=H;have c11b0:=Qr c11;have c11b1:decide (0<=(ji10))=true:=Qm c11;clear c11;replace H:=ifSome H;obtain⟨c12,H⟩:=H;have c12b0:=Qr c12;have c12b1:decide ((ji10:Int).toNat<=35184372088832)=true:=Qm c12;clear c12;obtain⟨y220,hy220⟩:∃ y_:List Int,y_=(List.replicate (ji10:Int).toNat 0):=⟨_,rfl⟩
    replace H:(if 0<=x12_1 then(if x12_1<(x5_1.length:Int)then(qB.l0 k1 a1 (x5_1.set (x12_1:Int).toNat y220) (y217.length:Int) (wrap64 (x12_1+1)))else(none))else(none))=some r:=by first|(rw[hy220];with_reducible exact H)|(have H2_:=(Option.bind_some _ _).symm.trans H;rw[hy220];with_reducible exact H2_)|(have H2_:=(Option.bind_some _ _).symm.trans H;with_reducible exact H2_)|with_reducible exact H|(rw[hy220];exact H)|exact H
    have Ny220:=Qk hy220;clear hy220;replace H:=ifSome H;obtain⟨c13,H⟩:=H;have c13b0:decide (0<=x12_1)=true:=Qm c13;clear c13;replace H:=ifSome H;obtain⟨c14,H⟩:=H;have c14b0:decide (x12_1<(x5_1.length:Int))=true:=Qm c14;try(have c14b0zhl5_1:=c14b0;rw[hl5_1]at c14b0zhl5_1)
    clear c14;obtain⟨y223,hy223⟩:∃ y_:List (List Int),y_=(x5_1.set (x12_1:Int).toNat y220):=⟨_,rfl⟩
    replace H:(qB.l0 k1 a1 y223 (y217.length:Int) (wrap64 (x12_1+1)))=some r:=by first|(rw[hy223];with_reducible exact H)|(have H2_:=(Option.bind_some _ _).symm.trans H;rw[hy223];with_reducible exact H2_)|(have H2_:=(Option.bind_some _ _).symm.trans H;with_reducible exact H2_)|with_reducible exact H|(rw[hy223];exact H)|exact H
    have Ny223:=Qk hy223;clear hy223;have H':=Qk H;clear H;go_wp2_with (first|((with_reducible refine qf (N:=19) rfl ?_);refine Kd.R_make (Kd.int .i64) _ 3 rfl (N:=19) rfl 25 _ _ rfl ji10 rfl rfl Tryz.underlying25 (.int .i64 0) 8 info3 rfl (by decide) (by omega) 0 (ok:=fun _=>True) (okp:=fun _=>True) rfl (fun _ hk=>hk) trivial (Ql (by first|(with_reducible assumption)|assumption)) (Nat.le_trans (Nat.mul_le_mul_right _ (Ql (by first|(with_reducible assumption)|assumption):ji10.toNat<=35184372088832)) (by omega)) (Below.refl _ _) (Nat.le_refl _) ?_;intro v221 w16 ho17 hb hg_ hnew_;(try clear hg_);(try clear hnew_);(first|rw[← Ny220.out]at ho17|(simp only[Int.reduceToNat]at ho17;rw[← Ny220.out]at ho17));replace HO_5:=Qk (Kd.S_elder' HO_5.out (Kd.R_base ho17) hb);have HO222:=Qk (Kd.R_lower ho17 (ze HB.out));replace HB:=Qk (zi HB.out hb);(try clear hb);(try clear ho17);have p15:0<=(x12_1:Int):=Ql (by first|(with_reducible assumption)|assumption);have q15:(x12_1:Int)<((x5_1.length:Int):Int):=Ql (by first|(with_reducible assumption)|assumption);obtain⟨go15,co15,eo15,gb15,gl15,cl15,HG15⟩:=Kd.S_form HO_5.out (by omega);(first|cases eo15|(injection eo15 with ea_ en_ ec_;(first|subst ea_|(injection ea_ with ea_;subst ea_));subst ec_;clear en_));have GB15:=Qk gb15;have GG15:=Qk HG15;clear gb15 gl15 HG15;obtain⟨_,ce15,hcl15,hM15,hcc15,hfr15,_,_⟩:=Kd.S_elem HO_5.out [] (x12_1:Int) p15 q15;obtain⟨ve15_0,rfl,ge15_0⟩:=hM15;have hx15_0:=hcc15 0 _ rfl;have hf15_0:=hfr15 0;(try simp only[show ((Kd.slice 3 (Kd.int .i64))).sz=1 from rfl,Nat.mul_one,Nat.add_zero]at hx15_0);(try simp only[show ((Kd.slice 3 (Kd.int .i64))).sz=1 from rfl,Nat.mul_one,Nat.add_zero]at hf15_0);(try clear hcl15);(try clear hcc15);(try clear hfr15);(try clear hM15);replace p15:=Qr p15;replace q15:=Qr q15;have n_:=Qk (Kd.S_mono (ok':=(fun k_=>some k_≠(v221:Value).ownBlock)) HO_5.out (fun k_ hk=>hk.2));clear HO_5;have HO_5:=n_;clear n_;have HX18:=Qk (show Kd.S (Kd.slice 3 (Kd.int .i64)) 25 w16 w.heap.size (fun k_=>((fun _=>True)) k_/\¬ ((fun k_=>some k_=(v221:Value).ownBlock)) k_) (.slice (some ⟨go15,0,none⟩) x5_1.length co8) x5_1 from(by(with_reducible repeat(first|apply Kd.S_alloc|apply Kd.S_drewN|apply Kd.S_drew));exact Kd.S_mono HO_5.out (fun k_ hk=>⟨trivial,fun e_=>hk e_⟩)));obtain⟨oki18,ce18,hcl18,hM18,hcc18,hfr18,hoki18,hH18⟩:=Kd.S_elem HX18.out [] (x12_1:Int) (Ql (by first|(with_reducible assumption)|assumption)) (by have h_:(x12_1:Int)<((x5_1.length:Int):Int):=Ql (by first|(with_reducible assumption)|assumption);first|exact h_|(have e_:=(Kd.S_reads' HO_5.out).1;omega)|simpa using h_);obtain⟨ve18_0,rfl,ge18_0⟩:=hM18;have HP18:=Kd.S_seg hH18 (Ql (by first|(with_reducible assumption)|assumption)) (by have h_:(x12_1:Int)<((x5_1.length:Int):Int):=Ql (by first|(with_reducible assumption)|assumption);first|exact h_|(have e_:=(Kd.S_reads' HO_5.out).1;omega)|simpa using h_) (seg:=[v221]) (j:=0) (show 1<=1 from by decide) (x':=y220) (Kd.M_row (Kd.R_mono (Kd.R_tight rfl (Kd.R_mono (ok':=fun k_=>((fun _=>True)) k_/\k_≠go15) (Kd.R_apart' (HO222.out) (Kd.S_typed HO_5.out) (by decide)) (fun k_ hk=>⟨trivial,fun e_=>(hk.2) (by rw[e_];rfl)⟩))) (fun _ h_=>Or.inr (h_)))) (fun _ hk=>hk) (fun k_ hk_=>((Kd.R_mono (ok':=fun k_=>((fun _=>True)) k_/\k_≠go15) (Kd.R_apart' (HO222.out) (Kd.S_typed HO_5.out) (by decide)) (fun k_ hk=>⟨trivial,fun e_=>(hk.2) (by rw[e_];rfl)⟩))).1 k_ hk_.symm);have hx18_0:=hcc18 0 _ rfl;(try simp only[show ((Kd.slice 3 (Kd.int .i64))).sz=1 from rfl,Nat.mul_one,Nat.add_zero]at hx18_0);have hf18_0:=hfr18 0;(try simp only[show ((Kd.slice 3 (Kd.int .i64))).sz=1 from rfl,Nat.mul_one,Nat.add_zero]at hf18_0);(try clear hcl18);(try clear hcc18);(try clear hfr18);(try clear hM18);(try clear hoki18);(try clear hH18);(try simp only[show ((Kd.slice 3 (Kd.int .i64))).sz=1 from rfl,Nat.mul_one,Nat.add_zero]at HP18))|((with_reducible refine gate_store (t:=25) (p:=20) rfl ?_);refine store_event (t:=25) (p:=20) (v:=?vo_w19) (w1:=(w16.setCell ⟨go15,(x12_1:Int).toNat,none⟩ (v221))) ?hg ?ho ?hn ?hr ?_;(case ho=>rfl);(case hg=>rfl);(case hn=>rfl);(case hr=>first|(go_simp;done)|(go_simp;rfl)|(obtain⟨A_,c_,e_⟩:=Kd.R_slice HO222.out;subst e_;go_simp;first|done|rfl));intro w19 hw;have hg:w16.grownBy w19 (some go15):=(by rw[hw];exact HP18.2);have hp_:Kd.S (Kd.slice 3 (Kd.int .i64)) 25 w19 w.heap.size (fun _=>True) (.slice (some ⟨go15,0,none⟩) x5_1.length co8) y223:=(by rw[hw,Ny223.out];exact HP18.1);clear HP18;replace HO_5:=Qk (hp_);replace HB:=Qk ((by rw[hw];exact zr (HB.out) GB15.out:Below w.heap.size w w19));clear HO222;(try clear hg);(try clear hw);(try clear hp_)))
    (try simp only[← hl5_1]);go_roundg k1
    case measure=>have:=HK1.out;omega
    case rel=>exact⟨(y223),(wrap64 (x12_1+1)),(by first|rfl|(simp;done)|(simp[*];done)),H',⟨by have:=HK1.out;omega⟩,⟨by(try simp only[hl5_1]);(with_reducible repeat(first|apply Kd.S_alloc|apply Kd.S_drewN|apply Kd.S_drew));exact HO_5.out⟩,⟨HB.out⟩⟩
   ·rw[if_neg c9]at H;have c9b0:decide (x12_1<(y217.length:Int))=false:=Qn c9;try(have c9b0zhl5_1:=c9b0;rw[hl5_1]at c9b0zhl5_1)
    clear c9;obtain rfl:=Qp H;go_wp2;go_ret;exact⟨_,by first|rfl|(simp[zR,zQ] <;> rfl)|(simp only[← hji3];first|rfl|(simp[zR,zQ] <;> rfl))|(simp[*,zR,zQ] <;> rfl),by(with_reducible repeat(first|apply Kd.S_alloc|apply Kd.S_drewN|apply Kd.S_drew));exact HO_5.out,HB.out⟩
mutual
def zB.l0:Nat->List Int->List Int->List (List Int)->Int->Option ((List (List Int)))
 |0,_,_,_,_=>none
 |k+1,x0,x1,x5,x6=>if x6≥0 then(zB.l1 k x0 x1 x5 x6 (wrap64 ((x1.length:Int)-1)))else(some x5)
def zB.l1:Nat->List Int->List Int->List (List Int)->Int->Int->Option ((List (List Int)))
 |0,_,_,_,_,_=>none
 |k+1,x0,x1,x5,x6,x7=>if x7≥0 then(if 0<=x6 then(if x6<(x0.length:Int)then(if 0<=x7 then(if x7<(x1.length:Int)then(if (rd x0 x6)=(rd x1 x7)then(if x6<(x5.length:Int)then(if 0<=(wrap64 (x6+1))then(if (wrap64 (x6+1))<(x5.length:Int)then(if 0<=(wrap64 (x7+1))then(if (wrap64 (x7+1))<((zD x5 (wrap64 (x6+1))).length:Int)then(if x7<((zD x5 x6).length:Int)then(zB.l1 k x0 x1 (x5.set (x6:Int).toNat ((zD x5 x6).set (x7:Int).toNat (wrap64 ((rd (zD x5 (wrap64 (x6+1))) (wrap64 (x7+1)))+1)))) x6 (wrap64 (x7-1)))else(none))else(none))else(none))else(none))else(none))else(none))else(if x6<(x5.length:Int)then(if 0<=(wrap64 (x6+1))then(if (wrap64 (x6+1))<(x5.length:Int)then(if x7<((zD x5 (wrap64 (x6+1))).length:Int)then(if 0<=(wrap64 (x7+1))then(if (wrap64 (x7+1))<((zD x5 x6).length:Int)then(if x7<((zD x5 x6).length:Int)then(zB.l1 k x0 x1 (x5.set (x6:Int).toNat ((zD x5 x6).set (x7:Int).toNat (mx (rd (zD x5 (wrap64 (x6+1))) x7) (rd (zD x5 x6) (wrap64 (x7+1)))))) x6 (wrap64 (x7-1)))else(none))else(none))else(none))else(none))else(none))else(none))else(none)))else(none))else(none))else(none))else(none))else(zB.l0 k x0 x1 x5 (wrap64 (x6-1)))
end
def zB.f(k:Nat)(l0:List Int)(l1:List Int):Option ((List (List Int))):=(qB.f k (l0.length:Int) (l1.length:Int)).bind fun t224=>(zB.l0 k l0 l1 t224 (wrap64 ((l0.length:Int)-1)))
def zB.T8:Bool×List (List Nat×List Nat):=(true,[([],[]),([],[]),([0,1],[0,1]),([2],[2]),([],[]),([],[]),([4,5],[4,5]),([6],[6]),([3,7],[3,7])])
def zB.B8:List Nat:=[0,0,3,7,0,0,48,112,255]
theorem zB.tab8:rtab .any (opsOf Tryz.f108 8)=zB.T8:=by kernel_rfl
theorem zB.bits8:Zq zB.T8.2 zB.B8=true:=by kernel_rfl
def zB.T9:Bool×List (List Nat×List Nat):=(true,[([],[]),([],[]),([0,1],[0,1]),([2],[2]),([],[]),([],[]),([],[]),([6],[6]),([5,7],[5,7]),([8],[8]),([],[]),([10],[10]),([9,11],[9,11]),([12],[12]),([13],[13]),([3,4,0,1,2,3,4,5,6,7,8,9,10,11,12,13,14],[3,4]),([15,14,0,1,2,3,4,5,6,7,8,9,10,11,12,13,14],[14,15])])
def zB.B9:List Nat:=[0,0,3,7,0,0,0,64,224,480,0,1024,4064,8160,16352,32767,65535]
theorem zB.tab9:rtab .any (opsOf Tryz.f108 9)=zB.T9:=by kernel_rfl
theorem zB.bits9:Zq zB.T9.2 zB.B9=true:=by kernel_rfl
def zB.T10:Bool×List (List Nat×List Nat):=(true,[([],[]),([],[]),([0,1],[0,1]),([2],[2]),([],[]),([],[]),([],[]),([6],[6]),([5,7],[5,7]),([8],[8]),([],[]),([9,10],[9,10]),([11],[11]),([],[]),([],[]),([13,14],[13,14]),([15],[15]),([],[]),([17],[17]),([16,18],[16,18]),([19],[19]),([12,20],[12,20]),([3,4,0,1,2,3,4,5,6,7,8,9,10,11,12,13,14,15,16,17,18,19,20,21],[3,4]),([22,21,0,1,2,3,4,5,6,7,8,9,10,11,12,13,14,15,16,17,18,19,20,21],[21,22])])
def zB.B10:List Nat:=[0,0,3,7,0,0,0,64,224,480,0,2016,4064,0,0,24576,57344,0,131072,516096,1040384,2097120,4194303,8388607]
theorem zB.tab10:rtab .any (opsOf Tryz.f108 10)=zB.T10:=by kernel_rfl
theorem zB.bits10:Zq zB.T10.2 zB.B10=true:=by kernel_rfl
theorem zB.calls(k:Nat)(A0:Option Addr)(c0:Nat)(l0:List Int)(A1:Option Addr)(c1:Nat)(l1:List Int)(r:List (List Int))(w:World)(hr0:Kd.C (Kd.int .i64) w A0 l0.length l0)(hc0:l0.length<=c0)(hr1:Kd.C (Kd.int .i64) w A1 l1.length l1)(hc1:l1.length<=c1)(h:zB.f k l0 l1=some r) :
 Calls Tryz.prog 108 #[.slice A0 l0.length c0,.slice A1 l1.length c1] w fun e w'=>∃ v0_:Value,e=.returned (v0_)/\Kd.S (Kd.slice 3 (Kd.int .i64)) 25 w' w.heap.size (fun _=>True) v0_ r/\Below w.heap.size w w':=by
 have HR0:=Qk hr0;have HC0:=Qk hc0;clear hr0 hc0;have HR1:=Qk hr1;have HC1:=Qk hc1;clear hr1 hc1;have HB:=Qk (Below.refl w.heap.size w);have H:((qB.f k (l0.length:Int) (l1.length:Int)).bind fun t224=>(zB.l0 k l0 l1 t224 (wrap64 ((l0.length:Int)-1))))=some r:=h;clear h;replace H:=Qo H;obtain⟨t224,A30,H⟩:=H;replace H:(zB.l0 k l0 l1 t224 (wrap64 ((l0.length:Int)-1)))=some r:=H;have A3:=Qk A30;clear A30;have H':=Qk H;clear H;go_enter Tryz.func108,Tryz.ntmps108;go_wp2_with (first|(go_at_call 151;(with_reducible refine(qB.calls k (l0.length:Int) (l1.length:Int) t224 _ A3.out).mono ?_);rintro e w4 ⟨v225,rfl,ho0,hb⟩;have HO226:=Qk (Kd.S_lower ho0 (ze HB.out));replace HB:=Qk (zi HB.out hb)))
 go_loopg [6] k (fun kq v6 w'=>∃ (x5_1:List (List Int)) (x6_1:Int),v6=.int .i64 x6_1/\Aside0 (zB.l0 kq l0 l1 x5_1 x6_1=some r)/\Aside0 (kq<=k)/\Aside0 (Kd.S (Kd.slice 3 (Kd.int .i64)) 25 w' w.heap.size (fun _=>True) v225 x5_1)/\Aside0 (Below w.heap.size w w'))
 case atStart=>exact⟨(t224),(wrap64 ((l0.length:Int)-1)),rfl,H',⟨Nat.le_refl _⟩,⟨HO226.out⟩,⟨HB.out⟩⟩
 case round =>
  clear H';obtain⟨x5_1,x6_1,rfl,HA,HK1,HO_5,HB⟩:=hrel
  cases gk with
  |zero=>exact absurd HA.out (by simp[zB.l0])
  |succ k1 =>
   have H:=HA.out;clear HA;simp only[zB.l0]at H;by_cases c5:x6_1≥0
   ·rw[if_pos c5]at H;have c5b0:decide (0<=x6_1)=true:=Qm c5;clear c5;have H':=Qk H;clear H;go_wp2;go_loopg [7] k1 (fun kq v7 w'=>∃ (x5_2:List (List Int)) (x7_2:Int),v7=.int .i64 x7_2/\Aside0 (zB.l1 kq l0 l1 x5_2 x6_1 x7_2=some r)/\Aside0 (kq<=k1)/\Aside0 (Kd.S (Kd.slice 3 (Kd.int .i64)) 25 w' w.heap.size (fun _=>True) v225 x5_2)/\Aside0 (Below w.heap.size w w'))
    case atStart=>exact⟨(x5_1),(wrap64 ((l1.length:Int)-1)),rfl,H',⟨Nat.le_refl _⟩,⟨HO_5.out⟩,⟨HB.out⟩⟩
    case round =>
     clear H';obtain⟨x5_2,x7_2,rfl,HA,HK2,HO_5,HB⟩:=hrel
     cases gk with
     |zero=>exact absurd HA.out (by simp[zB.l1])
     |succ k2 =>
      have H:=HA.out;clear HA;simp only[zB.l1]at H;by_cases c6:x7_2≥0
      ·rw[if_pos c6]at H;have c6b0:decide (0<=x7_2)=true:=Qm c6;clear c6;replace H:=ifSome H;obtain⟨c7,H⟩:=H;have c7b0:decide (0<=x6_1)=true:=Qm c7;clear c7;replace H:=ifSome H;obtain⟨c8,H⟩:=H;have c8b0:decide (x6_1<(l0.length:Int))=true:=Qm c8;clear c8;replace H:=ifSome H;obtain⟨c9,H⟩:=H;have c9b0:decide (0<=x7_2)=true:=Qm c9;clear c9;replace H:=ifSome H;obtain⟨c10,H⟩:=H;have c10b0:decide (x7_2<(l1.length:Int))=true:=Qm c10;clear c10;by_cases c11:(rd l0 x6_1)=(rd l1 x7_2)
       ·rw[if_pos c11]at H;have c11b0:((rd l0 x6_1) == (rd l1 x7_2))=true:=beq_iff_eq.mpr c11;have c11b1:((rd l0 x6_1) != (rd l1 x7_2))=false:=bne_eq_false_iff_eq.mpr c11;clear c11;replace H:=ifSome H;obtain⟨c12,H⟩:=H;have c12b0:decide (x6_1<(x5_2.length:Int))=true:=Qm c12;clear c12;obtain⟨ji13,hji13⟩:∃ j_:Int,(wrap64 (x6_1+1))=j_:=⟨_,rfl⟩
        replace H:(if 0<=(ji13)then(if (ji13)<(x5_2.length:Int)then(if 0<=(wrap64 (x7_2+1))then(if (wrap64 (x7_2+1))<((zD x5_2 (ji13)).length:Int)then(if x7_2<((zD x5_2 x6_1).length:Int)then(zB.l1 k2 l0 l1 (x5_2.set (x6_1:Int).toNat ((zD x5_2 x6_1).set (x7_2:Int).toNat (wrap64 ((rd (zD x5_2 (ji13)) (wrap64 (x7_2+1)))+1)))) x6_1 (wrap64 (x7_2-1)))else(none))else(none))else(none))else(none))else(none))=some r:=by first|(rw[hji13]at H;exact H)|(simp only[hji13]at H ⊢;exact H)
        have hji13w:(IntKind.i64.wrap (x6_1+1))=ji13:=(zp _).trans hji13;replace H:=ifSome H;obtain⟨c14,H⟩:=H;have c14b0:decide (0<=(ji13))=true:=Qm c14;clear c14;replace H:=ifSome H;obtain⟨c15,H⟩:=H;have c15b0:decide ((ji13)<(x5_2.length:Int))=true:=Qm c15;clear c15;obtain⟨ji16,hji16⟩:∃ j_:Int,(wrap64 (x7_2+1))=j_:=⟨_,rfl⟩
        replace H:(if 0<=(ji16)then(if (ji16)<((zD x5_2 (ji13)).length:Int)then(if x7_2<((zD x5_2 x6_1).length:Int)then(zB.l1 k2 l0 l1 (x5_2.set (x6_1:Int).toNat ((zD x5_2 x6_1).set (x7_2:Int).toNat (wrap64 ((rd (zD x5_2 (ji13)) (ji16))+1)))) x6_1 (wrap64 (x7_2-1)))else(none))else(none))else(none))=some r:=by first|(rw[hji16]at H;exact H)|(simp only[hji16]at H ⊢;exact H)
        have hji16w:(IntKind.i64.wrap (x7_2+1))=ji16:=(zp _).trans hji16;replace H:=ifSome H;obtain⟨c17,H⟩:=H;have c17b0:decide (0<=(ji16))=true:=Qm c17;clear c17;replace H:=ifSome H;obtain⟨c18,H⟩:=H;have c18b0:decide ((ji16)<((zD x5_2 (ji13)).length:Int))=true:=Qm c18;clear c18;replace H:=ifSome H;obtain⟨c19,H⟩:=H;have c19b0:decide (x7_2<((zD x5_2 x6_1).length:Int))=true:=Qm c19;clear c19;obtain⟨y232,hy232⟩:∃ y_:List Int,y_=((zD x5_2 x6_1).set (x7_2:Int).toNat (wrap64 ((rd (zD x5_2 (ji13)) (ji16))+1))):=⟨_,rfl⟩
        replace H:(zB.l1 k2 l0 l1 (x5_2.set (x6_1:Int).toNat y232) x6_1 (wrap64 (x7_2-1)))=some r:=by first|(rw[hy232];with_reducible exact H)|(have H2_:=(Option.bind_some _ _).symm.trans H;rw[hy232];with_reducible exact H2_)|(have H2_:=(Option.bind_some _ _).symm.trans H;with_reducible exact H2_)|with_reducible exact H|(rw[hy232];exact H)|exact H
        have Ny232:=Qk hy232;clear hy232;obtain⟨y234,hy234⟩:∃ y_:List (List Int),y_=(x5_2.set (x6_1:Int).toNat y232):=⟨_,rfl⟩
        replace H:(zB.l1 k2 l0 l1 y234 x6_1 (wrap64 (x7_2-1)))=some r:=by first|(rw[hy234];with_reducible exact H)|(have H2_:=(Option.bind_some _ _).symm.trans H;rw[hy234];with_reducible exact H2_)|(have H2_:=(Option.bind_some _ _).symm.trans H;with_reducible exact H2_)|with_reducible exact H|(rw[hy234];exact H)|exact H
        have Ny234:=Qk hy234;clear hy234;have H':=Qk H;clear H;try go_wp2
        have n0_:=Qk (Kd.S_drew HO_5.out);have n1_:=Qk (zg HB.out);clear HO_5;clear HB;have HO_5:=n0_;have HB:=n1_;clear n0_ n1_;have p227:0<=(x6_1:Int):=Ql (by assumption);have q227:x6_1<(l0.length:Int):=Ql (by assumption);obtain⟨ad227,e227,hx227_0⟩:=Kd.at_int HR0.out x6_1 p227 q227;have hw227_0:=hx227_0
        cases e227;replace hx227_0:=(HB.out.cell (Qq w _ hx227_0)).trans hx227_0;replace p227:=Qr p227;replace q227:=Qr q227;have p228:0<=(x7_2:Int):=Ql (by assumption);have q228:x7_2<(l1.length:Int):=Ql (by assumption);obtain⟨ad228,e228,hx228_0⟩:=Kd.at_int HR1.out x7_2 p228 q228;have hw228_0:=hx228_0
        cases e228;replace hx228_0:=(HB.out.cell (Qq w _ hx228_0)).trans hx228_0;replace p228:=Qr p228;replace q228:=Qr q228;refine ZG (n:=9) (S:=fun w'=>w'.cell? (ad227.add (x6_1).toNat)=some (.int .i64 (rd l0 x6_1))/\w'.cell? (ad228.add (x7_2).toNat)=some (.int .i64 (rd l1 x7_2))) (ds:=[]) #[N,N,N,N,N,N,N,N,N] (by kernel_rfl) rfl rfl ⟨((HB.out.cell (Qq w _ hw227_0)).trans hw227_0),((HB.out.cell (Qq w _ hw228_0)).trans hw228_0)⟩ (fun hHeld=>?_);refine qR zB.tab8 zB.bits8 (fun HT_ HW_=>?_);generalize wr.drew=w21 at HO_5 HB hx227_0 hx228_0 hHeld ⊢;refine zG (i:=0) (N:=some 27) (v:=?_) (a':=?_) #[Y,N,N,N,N,N,N,N,N] rfl rfl (zu HT_.out (by kernel_rfl)) (fun _ _ _ h=>h) (Or.inl ⟨by rfl,?_⟩) ?_ ?_;rotate_left
        ·intro w';go_simp;with_reducible rfl
        rotate_left
        ·simp only[Act.put,sA,sB,sC,zp,zw];rfl
        refine zG (i:=1) (N:=some 28) (v:=?_) (a':=?_) #[Y,Y,N,N,N,N,N,N,N] rfl rfl (zu HT_.out (by kernel_rfl)) (fun _ _ _ h=>h) (Or.inl ⟨by rfl,?_⟩) ?_ ?_;rotate_left
        ·intro w';go_simp;with_reducible rfl
        rotate_left
        ·simp only[Act.put,sA,sB,sC,zp,zw];rfl
        refine zG (i:=2) (N:=some 29) (v:=?_) (a':=?_) #[Y,Y,Y,N,N,N,N,N,N] rfl rfl (zu HT_.out (by kernel_rfl)) (fun _ _ _ h=>h) (Or.inl ⟨by rfl,?_⟩) ?_ ?_;rotate_left
        ·intro w';go_simp;with_reducible rfl
        rotate_left
        ·simp only[Act.put,sA,sB,sC,zp,zw];rfl
        refine zG (i:=4) (N:=some 31) (v:=?_) (a':=?_) #[Y,Y,Y,N,Y,N,N,N,N] rfl rfl (zu HT_.out (by kernel_rfl)) (fun _ _ _ h=>h) (Or.inl ⟨by rfl,?_⟩) ?_ ?_;rotate_left
        ·intro w';go_simp;with_reducible rfl
        rotate_left
        ·simp only[Act.put,sA,sB,sC,zp,zw];rfl
        refine zG (i:=5) (N:=some 32) (v:=?_) (a':=?_) #[Y,Y,Y,N,Y,Y,N,N,N] rfl rfl (zu HT_.out (by kernel_rfl)) (fun _ _ _ h=>h) (Or.inl ⟨by rfl,?_⟩) ?_ ?_;rotate_left
        ·intro w';go_simp;with_reducible rfl
        rotate_left
        ·simp only[Act.put,sA,sB,sC,zp,zw];rfl
        refine zG (i:=6) (N:=some 33) (v:=?_) (a':=?_) #[Y,Y,Y,N,Y,Y,Y,N,N] rfl rfl (zu HT_.out (by kernel_rfl)) (fun _ _ _ h=>h) (Or.inl ⟨by rfl,?_⟩) ?_ ?_;rotate_left
        ·intro w';go_simp;with_reducible rfl
        rotate_left
        ·simp only[Act.put,sA,sB,sC,zp,zw];rfl
        refine take_ (i:=3) (N:=some 30) (v:=?_) (a':=?_) #[Y,Y,Y,Y,Y,Y,Y,N,N] rfl rfl (qe HT_.out HW_.out (by kernel_rfl)) (fun _ _ _ h=>h) (Or.inl ⟨by rfl,?_⟩) hHeld ?_ ?_;rotate_left
        ·rintro w' ⟨s0,s1⟩;go_simp;with_reducible rfl
        rotate_left
        ·simp only[Act.put,sA,sB,sC,zp,zw];rfl
        refine take_ (i:=7) (N:=some 34) (v:=?_) (a':=?_) #[Y,Y,Y,Y,Y,Y,Y,Y,N] rfl rfl (qe HT_.out HW_.out (by kernel_rfl)) (fun _ _ _ h=>h) (Or.inl ⟨by rfl,?_⟩) hHeld ?_ ?_;rotate_left
        ·rintro w' ⟨s0,s1⟩;go_simp;with_reducible rfl
        rotate_left
        ·simp only[Act.put,sA,sB,sC,zp,zw];rfl
        refine zG (i:=8) (N:=some 35) (v:=?_) (a':=?_) #[Y,Y,Y,Y,Y,Y,Y,Y,Y] rfl rfl (zu HT_.out (by kernel_rfl)) (fun _ _ _ h=>h) (Or.inl ⟨by rfl,?_⟩) ?_ ?_;rotate_left
        ·intro w';go_simp;with_reducible rfl
        rotate_left
        ·simp only[Act.put,sA,sB,sC,zp,zw];rfl
        refine done_ (Zr HT_.out (by kernel_rfl)) ?_;try go_wp2
        have n0_:=Qk (Kd.S_drew HO_5.out);have n1_:=Qk (zg HB.out);clear HO_5;clear HB;have HO_5:=n0_;have HB:=n1_;clear n0_ n1_;obtain⟨Ao23,co23,eo23⟩:=Kd.S_slice HO_5.out;(first|subst eo23|(injection eo23 with f1_ f2_ f3_;have f4_:=f1_.symm;have f5_:=f3_.symm;clear f1_ f2_ f3_;subst f4_;subst f5_));have p229:0<=(x6_1:Int):=Ql (by assumption);have q229:x6_1<(x5_2.length:Int):=Ql (by assumption);try(obtain⟨Ap229,cp229,ep229⟩:=Kd.S_slice HO_5.out;subst ep229)
        obtain⟨ad229,A229_0,c229_0,e229,hx229_0,hl229_0,hi229_0⟩:=Qj (Kd.S_reads' HO_5.out).2.2 x6_1 p229 q229
        cases e229;obtain⟨ce229,hce229,hMe229,hcc229⟩:=Kd.S_get HO_5.out [] x6_1 p229 (by first|exact q229|exact Ql (by assumption)|(have e_:=(Kd.S_reads' HO_5.out).1;omega));obtain⟨ve229_0,rfl,ge229_0⟩:=hMe229;have hv229_0:=hcc229 0 _ rfl;rw[Nat.add_zero,show ((Kd.slice 3 (Kd.int .i64))).sz=1 from rfl,Nat.mul_one]at hv229_0
        replace hv229_0:=Qp (hv229_0.symm.trans hx229_0);rw[hv229_0]at ge229_0;have HL229_0:=Qk (show Kd.R (Kd.int .i64) 3 _ _ _ _ (zD x5_2 x6_1)from ge229_0);clear hv229_0 ge229_0;have HX229_0:=Qk hx229_0;clear hcc229 hce229;have HR229_0:=Qk hi229_0;have HC229_0:=Qk hl229_0;clear hi229_0 hl229_0;replace p229:=Qr p229;replace q229:=Qr q229;have p230:0<=((ji13):Int):=Ql (by assumption);have q230:(ji13)<(x5_2.length:Int):=Ql (by assumption);try(obtain⟨Ap230,cp230,ep230⟩:=Kd.S_slice HO_5.out;subst ep230)
        obtain⟨ad230,A230_0,c230_0,e230,hx230_0,hl230_0,hi230_0⟩:=Qj (Kd.S_reads' HO_5.out).2.2 (ji13) p230 q230;obtain rfl:ad229=ad230:=(by injection e230);obtain⟨ce230,hce230,hMe230,hcc230⟩:=Kd.S_get HO_5.out [] (ji13) p230 (by first|exact q230|exact Ql (by assumption)|(have e_:=(Kd.S_reads' HO_5.out).1;omega));obtain⟨ve230_0,rfl,ge230_0⟩:=hMe230;have hv230_0:=hcc230 0 _ rfl;rw[Nat.add_zero,show ((Kd.slice 3 (Kd.int .i64))).sz=1 from rfl,Nat.mul_one]at hv230_0
        replace hv230_0:=Qp (hv230_0.symm.trans hx230_0);rw[hv230_0]at ge230_0;have HL230_0:=Qk (show Kd.R (Kd.int .i64) 3 _ _ _ _ (zD x5_2 (ji13))from ge230_0);clear hv230_0 ge230_0;have HX230_0:=Qk hx230_0;clear hcc230 hce230;have HR230_0:=Qk hi230_0;have HC230_0:=Qk hl230_0;clear hi230_0 hl230_0;replace p230:=Qr p230;replace q230:=Qr q230;have p231:0<=((ji16):Int):=Ql (by assumption);have q231:(ji16)<((zD x5_2 (ji13)).length:Int):=Ql (by assumption);obtain⟨ad231,e231,hx231_0⟩:=Kd.at_int (by repeat(first|(with_reducible exact HR230_0.out)|(with_reducible refine Kd.C_alloc ?_ _)|(with_reducible refine Kd.C_drewN ?_ _)|(with_reducible refine Kd.C_drew ?_)|exact HR230_0.out)) (ji16) p231 q231
        cases e231;replace p231:=Qr p231;replace q231:=Qr q231;have p20:0<=(x7_2:Int):=Ql (by assumption);have q20:(x7_2:Int)<(((zD x5_2 x6_1).length:Int):Int):=Ql (by assumption);obtain⟨go20,co20,eo20,gb20,gl20,cl20,HG20⟩:=Kd.R_form HL229_0.out (by omega);(first|cases eo20|(injection eo20 with ea_ en_ ec_;(first|subst ea_|(injection ea_ with ea_;subst ea_));subst ec_;clear en_));have GB20:=Qk gb20;have GG20:=Qk HG20;clear gb20 gl20 HG20;obtain⟨hx20_0,hf20_0⟩:=Kd.R_celln 0 HL229_0.out (x7_2:Int) p20 q20;replace p20:=Qr p20;replace q20:=Qr q20;have hq24:(x6_1:Int)<(x5_2.length:Int):=(by have h_:(x6_1:Int)<((x5_2.length:Int):Int):=Ql (by assumption);first|exact h_|(have e_:=(Kd.S_reads' HO_5.out).1;omega)|simpa only[List.length_set,List.length_set]using h_);obtain⟨oki24,ce24,hcl24,hM24,hcc24,hok24,hbk24⟩:=Kd.S_borrow HO_5.out [] (x6_1:Int) (Ql (by assumption)) hq24;obtain⟨ve24_0,rfl,ge24_0⟩:=hM24;have hv24:=hcc24 0 _ rfl;rw[Nat.add_zero,show ((Kd.slice 3 (Kd.int .i64))).sz=1 from rfl,Nat.mul_one]at hv24
        replace hv24:=Qp (hv24.symm.trans HX229_0.out);subst hv24;clear hcc24 hcl24;replace ge24_0:=(show Kd.R (Kd.int .i64) 3 _ _ _ _ (zD x5_2 x6_1)from ge24_0);have HP24:=Kd.R_putg ge24_0 (x7_2:Int) (wrap64 ((rd (zD x5_2 (ji13)) (ji16))+1));rw[← Ny232.out]at HP24;have HS24:=hbk24 HP24.2 (fun k_ e_=>by injection e_ with e_;subst e_;exact ge24_0.1 _ rfl) (x':=y232) (Kd.M_row HP24.1);rw[← Ny234.out]at HS24;have HQ24:=Qk HS24;clear HP24 HS24 hbk24 hok24;refine ZG (n:=17) (S:=fun w'=>w'.cell? (ad229.add (x6_1).toNat)=some (.slice (some ⟨go20,0,none⟩) (zD x5_2 x6_1).length c229_0)/\w'.cell? (ad229.add ((ji13)).toNat)=some (.slice (some ad231) (zD x5_2 (ji13)).length c230_0)/\w'.cell? (ad231.add ((ji16)).toNat)=some (.int .i64 (rd (zD x5_2 (ji13)) (ji16)))) (ds:=[16]) #[N,N,N,N,N,N,N,N,N,N,N,N,N,N,N,N,N] (by kernel_rfl) rfl rfl ⟨hx229_0,hx230_0,hx231_0⟩ (fun hHeld=>?_);refine qR zB.tab9 zB.bits9 (fun HT_ HW_=>?_);generalize w21.drew=w22 at HO_5 HB GG20 HL229_0 HL230_0 HQ24 HR229_0 HR230_0 HX229_0 HX230_0 hf20_0 hx20_0 hx229_0 hx230_0 hx231_0 hHeld ⊢;refine zG (i:=0) (N:=some 36) (v:=?_) (a':=?_) #[Y,N,N,N,N,N,N,N,N,N,N,N,N,N,N,N,N] rfl rfl (zu HT_.out (by kernel_rfl)) (fun _ _ _ h=>h) (Or.inl ⟨by rfl,?_⟩) ?_ ?_;rotate_left
        ·intro w';go_simp;with_reducible rfl
        rotate_left
        ·simp only[Act.put,sA,sB,sC,zp,zw];rfl
        refine zG (i:=1) (N:=some 37) (v:=?_) (a':=?_) #[Y,Y,N,N,N,N,N,N,N,N,N,N,N,N,N,N,N] rfl rfl (zu HT_.out (by kernel_rfl)) (fun _ _ _ h=>h) (Or.inl ⟨by rfl,?_⟩) ?_ ?_;rotate_left
        ·intro w';go_simp;with_reducible rfl
        rotate_left
        ·simp only[Act.put,sA,sB,sC,zp,zw];rfl
        refine zG (i:=2) (N:=some 38) (v:=?_) (a':=?_) #[Y,Y,Y,N,N,N,N,N,N,N,N,N,N,N,N,N,N] rfl rfl (zu HT_.out (by kernel_rfl)) (fun _ _ _ h=>h) (Or.inl ⟨by rfl,?_⟩) ?_ ?_;rotate_left
        ·intro w';go_simp;with_reducible rfl
        rotate_left
        ·simp only[Act.put,sA,sB,sC,zp,zw];rfl
        refine zG (i:=4) (N:=some 40) (v:=?_) (a':=?_) #[Y,Y,Y,N,Y,N,N,N,N,N,N,N,N,N,N,N,N] rfl rfl (zu HT_.out (by kernel_rfl)) (fun _ _ _ h=>h) (Or.inl ⟨by rfl,?_⟩) ?_ ?_;rotate_left
        ·intro w';go_simp;with_reducible rfl
        rotate_left
        ·simp only[Act.put,sA,sB,sC,zp,zw];rfl
        refine zG (i:=5) (N:=some 41) (v:=?_) (a':=?_) #[Y,Y,Y,N,Y,Y,N,N,N,N,N,N,N,N,N,N,N] rfl rfl (zu HT_.out (by kernel_rfl)) (fun _ _ _ h=>h) (Or.inl ⟨by rfl,?_⟩) ?_ ?_;rotate_left
        ·intro w';go_simp;with_reducible rfl
        rotate_left
        ·simp only[Act.put,sA,sB,sC,zp,zw];rfl
        refine zG (i:=6) (N:=some 42) (v:=?_) (a':=?_) #[Y,Y,Y,N,Y,Y,Y,N,N,N,N,N,N,N,N,N,N] rfl rfl (zu HT_.out (by kernel_rfl)) (fun _ _ _ h=>h) (Or.inl ⟨by rfl,?_⟩) ?_ ?_;rotate_left
        ·intro w';go_simp;with_reducible rfl
        rotate_left
        ·simp only[Act.put,sA,sB,sC,zp,zw];rfl
        refine zG (i:=7) (N:=some 43) (v:=?_) (a':=?_) #[Y,Y,Y,N,Y,Y,Y,Y,N,N,N,N,N,N,N,N,N] rfl rfl (zu HT_.out (by kernel_rfl)) (fun _ _ _ h=>h) (Or.inl ⟨by rfl,?_⟩) ?_ ?_;rotate_left
        ·intro w';go_simp;with_reducible rfl
        rotate_left
        ·simp only[Act.put,sA,sB,sC,zp,zw];rfl
        refine zG (i:=8) (N:=some 44) (v:=?_) (a':=?_) #[Y,Y,Y,N,Y,Y,Y,Y,Y,N,N,N,N,N,N,N,N] rfl rfl (zu HT_.out (by kernel_rfl)) (fun _ _ _ h=>h) (Or.inl ⟨by rfl,?_⟩) ?_ ?_;rotate_left
        ·intro w';go_simp;with_reducible rfl
        rotate_left
        ·simp only[Act.put,sA,sB,sC,zp,zw];rfl
        refine zG (i:=10) (N:=some 46) (v:=?_) (a':=?_) #[Y,Y,Y,N,Y,Y,Y,Y,Y,N,Y,N,N,N,N,N,N] rfl rfl (zu HT_.out (by kernel_rfl)) (fun _ _ _ h=>h) (Or.inl ⟨by rfl,?_⟩) ?_ ?_;rotate_left
        ·intro w';go_simp;with_reducible rfl
        rotate_left
        ·simp only[Act.put,sA,sB,sC,zp,zw];rfl
        refine zG (i:=11) (N:=some 47) (v:=?_) (a':=?_) #[Y,Y,Y,N,Y,Y,Y,Y,Y,N,Y,Y,N,N,N,N,N] rfl rfl (zu HT_.out (by kernel_rfl)) (fun _ _ _ h=>h) (Or.inl ⟨by rfl,?_⟩) ?_ ?_;rotate_left
        ·intro w';go_simp;with_reducible rfl
        rotate_left
        ·simp only[Act.put,sA,sB,sC,zp,zw];rfl
        refine take_ (i:=3) (N:=some 39) (v:=?_) (a':=?_) #[Y,Y,Y,Y,Y,Y,Y,Y,Y,N,Y,Y,N,N,N,N,N] rfl rfl (qe HT_.out HW_.out (by kernel_rfl)) (fun _ _ _ h=>h) (Or.inl ⟨by rfl,?_⟩) hHeld ?_ ?_;rotate_left
        ·rintro w' ⟨s0,s1,s2⟩;go_simp;with_reducible rfl
        rotate_left
        ·simp only[Act.put,sA,sB,sC,zp,zw];rfl
        refine take_ (i:=9) (N:=some 45) (v:=?_) (a':=?_) #[Y,Y,Y,Y,Y,Y,Y,Y,Y,Y,Y,Y,N,N,N,N,N] rfl rfl (qe HT_.out HW_.out (by kernel_rfl)) (fun _ _ _ h=>h) (Or.inl ⟨by rfl,?_⟩) hHeld ?_ ?_;rotate_left
        ·rintro w' ⟨s0,s1,s2⟩;go_simp;with_reducible rfl
        rotate_left
        ·simp only[Act.put,sA,sB,sC,zp,zw];rfl
        refine zG (i:=12) (N:=some 48) (v:=?_) (a':=?_) #[Y,Y,Y,Y,Y,Y,Y,Y,Y,Y,Y,Y,Y,N,N,N,N] rfl rfl (zu HT_.out (by kernel_rfl)) (fun _ _ _ h=>h) (Or.inl ⟨by rfl,?_⟩) ?_ ?_;rotate_left
        ·intro w';go_simp;with_reducible rfl
        rotate_left
        ·simp only[Act.put,sA,sB,sC,zp,zw];rfl
        refine take_ (i:=13) (N:=some 49) (v:=?_) (a':=?_) #[Y,Y,Y,Y,Y,Y,Y,Y,Y,Y,Y,Y,Y,Y,N,N,N] rfl rfl (qe HT_.out HW_.out (by kernel_rfl)) (fun _ _ _ h=>h) (Or.inl ⟨by rfl,?_⟩) hHeld ?_ ?_;rotate_left
        ·rintro w' ⟨s0,s1,s2⟩;go_simp;with_reducible rfl
        rotate_left
        ·simp only[Act.put,sA,sB,sC,zp,zw];rfl
        refine zG (i:=14) (N:=some 50) (v:=?_) (a':=?_) #[Y,Y,Y,Y,Y,Y,Y,Y,Y,Y,Y,Y,Y,Y,Y,N,N] rfl rfl (zu HT_.out (by kernel_rfl)) (fun _ _ _ h=>h) (Or.inl ⟨by rfl,?_⟩) ?_ ?_;rotate_left
        ·intro w';go_simp;with_reducible rfl
        rotate_left
        ·simp only[Act.put,sA,sB,sC,zp,zw];rfl
        refine zG (i:=15) (N:=some 51) (v:=?_) (a':=?_) #[Y,Y,Y,Y,Y,Y,Y,Y,Y,Y,Y,Y,Y,Y,Y,Y,N] rfl rfl (zu HT_.out (by kernel_rfl)) (fun _ _ _ h=>h) (Or.inl ⟨by rfl,?_⟩) ?_ ?_;rotate_left
        ·intro w';go_simp;with_reducible rfl
        rotate_left
        ·simp only[Act.put,sA,sB,sC,zp,zw];rfl
        refine last_ (i:=16) (N:=none) #[Y,Y,Y,Y,Y,Y,Y,Y,Y,Y,Y,Y,Y,Y,Y,Y,Y] rfl rfl (one_of HT_.out (by kernel_rfl)) (by decide) (fun K hK=>?_);refine skip_ (w1:=?_) (by rfl) rfl ?_ ?_;rotate_left
        ·go_simp;rfl
        refine hK.out _ _ ?_;clear hK K;refine done_ (Zr HT_.out (by kernel_rfl)) ?_;try go_wp2
        go_roundg k2
        case measure=>have:=HK1.out;have:=HK2.out;omega
        case rel=>exact⟨(y234),(wrap64 (x7_2-1)),rfl,H',⟨by have:=HK1.out;have:=HK2.out;omega⟩,⟨by(with_reducible repeat(first|apply Kd.S_alloc|apply Kd.S_drewN|apply Kd.S_drew));exact HQ24.out⟩,⟨by repeat(first|(with_reducible first|exact HB.out|apply za|apply zb|apply zg|refine zr ?_ GB20.out)|exact HB.out)⟩⟩
       ·rw[if_neg c11]at H;have c11b0:((rd l0 x6_1) == (rd l1 x7_2))=false:=beq_eq_false_iff_ne.mpr c11;have c11b1:((rd l0 x6_1) != (rd l1 x7_2))=true:=bne_iff_ne.mpr c11;replace H:=ifSome H;obtain⟨c26,H⟩:=H;have c26b0:decide (x6_1<(x5_2.length:Int))=true:=Qm c26;clear c26;obtain⟨ji27,hji27⟩:∃ j_:Int,(wrap64 (x6_1+1))=j_:=⟨_,rfl⟩
        replace H:(if 0<=(ji27)then(if (ji27)<(x5_2.length:Int)then(if x7_2<((zD x5_2 (ji27)).length:Int)then(if 0<=(wrap64 (x7_2+1))then(if (wrap64 (x7_2+1))<((zD x5_2 x6_1).length:Int)then(if x7_2<((zD x5_2 x6_1).length:Int)then(zB.l1 k2 l0 l1 (x5_2.set (x6_1:Int).toNat ((zD x5_2 x6_1).set (x7_2:Int).toNat (mx (rd (zD x5_2 (ji27)) x7_2) (rd (zD x5_2 x6_1) (wrap64 (x7_2+1)))))) x6_1 (wrap64 (x7_2-1)))else(none))else(none))else(none))else(none))else(none))else(none))=some r:=by first|(rw[hji27]at H;exact H)|(simp only[hji27]at H ⊢;exact H)
        have hji27w:(IntKind.i64.wrap (x6_1+1))=ji27:=(zp _).trans hji27;replace H:=ifSome H;obtain⟨c28,H⟩:=H;have c28b0:decide (0<=(ji27))=true:=Qm c28;clear c28;replace H:=ifSome H;obtain⟨c29,H⟩:=H;have c29b0:decide ((ji27)<(x5_2.length:Int))=true:=Qm c29;clear c29;replace H:=ifSome H;obtain⟨c30,H⟩:=H;have c30b0:decide (x7_2<((zD x5_2 (ji27)).length:Int))=true:=Qm c30;clear c30;obtain⟨ji31,hji31⟩:∃ j_:Int,(wrap64 (x7_2+1))=j_:=⟨_,rfl⟩
        replace H:(if 0<=(ji31)then(if (ji31)<((zD x5_2 x6_1).length:Int)then(if x7_2<((zD x5_2 x6_1).length:Int)then(zB.l1 k2 l0 l1 (x5_2.set (x6_1:Int).toNat ((zD x5_2 x6_1).set (x7_2:Int).toNat (mx (rd (zD x5_2 (ji27)) x7_2) (rd (zD x5_2 x6_1) (ji31))))) x6_1 (wrap64 (x7_2-1)))else(none))else(none))else(none))=some r:=by first|(rw[hji31]at H;exact H)|(simp only[hji31]at H ⊢;exact H)
        have hji31w:(IntKind.i64.wrap (x7_2+1))=ji31:=(zp _).trans hji31;replace H:=ifSome H;obtain⟨c32,H⟩:=H;have c32b0:decide (0<=(ji31))=true:=Qm c32;clear c32;replace H:=ifSome H;obtain⟨c33,H⟩:=H;have c33b0:decide ((ji31)<((zD x5_2 x6_1).length:Int))=true:=Qm c33;clear c33;obtain⟨ji34,hji34⟩:∃ j_:Int,(mx (rd (zD x5_2 (ji27)) x7_2) (rd (zD x5_2 x6_1) (ji31)))=j_:=⟨_,rfl⟩
        replace H:(if x7_2<((zD x5_2 x6_1).length:Int)then(zB.l1 k2 l0 l1 (x5_2.set (x6_1:Int).toNat ((zD x5_2 x6_1).set (x7_2:Int).toNat (ji34))) x6_1 (wrap64 (x7_2-1)))else(none))=some r:=by first|(rw[hji34]at H;exact H)|(simp only[hji34]at H ⊢;exact H)
        have hji34_:(if (rd (zD x5_2 (ji27)) x7_2)<(rd (zD x5_2 x6_1) (ji31))then(rd (zD x5_2 x6_1) (ji31))else(rd (zD x5_2 (ji27)) x7_2))=ji34:=hji34;replace H:=ifSome H;obtain⟨c35,H⟩:=H;have c35b0:decide (x7_2<((zD x5_2 x6_1).length:Int))=true:=Qm c35;clear c35;obtain⟨y240,hy240⟩:∃ y_:List Int,y_=((zD x5_2 x6_1).set (x7_2:Int).toNat (ji34)):=⟨_,rfl⟩
        replace H:(zB.l1 k2 l0 l1 (x5_2.set (x6_1:Int).toNat y240) x6_1 (wrap64 (x7_2-1)))=some r:=by first|(rw[hy240];with_reducible exact H)|(have H2_:=(Option.bind_some _ _).symm.trans H;rw[hy240];with_reducible exact H2_)|(have H2_:=(Option.bind_some _ _).symm.trans H;with_reducible exact H2_)|with_reducible exact H|(rw[hy240];exact H)|exact H
        have Ny240:=Qk hy240;clear hy240;obtain⟨y242,hy242⟩:∃ y_:List (List Int),y_=(x5_2.set (x6_1:Int).toNat y240):=⟨_,rfl⟩
        replace H:(zB.l1 k2 l0 l1 y242 x6_1 (wrap64 (x7_2-1)))=some r:=by first|(rw[hy242];with_reducible exact H)|(have H2_:=(Option.bind_some _ _).symm.trans H;rw[hy242];with_reducible exact H2_)|(have H2_:=(Option.bind_some _ _).symm.trans H;with_reducible exact H2_)|with_reducible exact H|(rw[hy242];exact H)|exact H
        have Ny242:=Qk hy242;clear hy242;have H':=Qk H;clear H;try go_wp2
        have n0_:=Qk (Kd.S_drew HO_5.out);have n1_:=Qk (zg HB.out);clear HO_5;clear HB;have HO_5:=n0_;have HB:=n1_;clear n0_ n1_;have p227:0<=(x6_1:Int):=Ql (by assumption);have q227:x6_1<(l0.length:Int):=Ql (by assumption);obtain⟨ad227,e227,hx227_0⟩:=Kd.at_int HR0.out x6_1 p227 q227;have hw227_0:=hx227_0
        cases e227;replace hx227_0:=(HB.out.cell (Qq w _ hx227_0)).trans hx227_0;replace p227:=Qr p227;replace q227:=Qr q227;have p228:0<=(x7_2:Int):=Ql (by assumption);have q228:x7_2<(l1.length:Int):=Ql (by assumption);obtain⟨ad228,e228,hx228_0⟩:=Kd.at_int HR1.out x7_2 p228 q228;have hw228_0:=hx228_0
        cases e228;replace hx228_0:=(HB.out.cell (Qq w _ hx228_0)).trans hx228_0;replace p228:=Qr p228;replace q228:=Qr q228;refine ZG (n:=9) (S:=fun w'=>w'.cell? (ad227.add (x6_1).toNat)=some (.int .i64 (rd l0 x6_1))/\w'.cell? (ad228.add (x7_2).toNat)=some (.int .i64 (rd l1 x7_2))) (ds:=[]) #[N,N,N,N,N,N,N,N,N] (by kernel_rfl) rfl rfl ⟨((HB.out.cell (Qq w _ hw227_0)).trans hw227_0),((HB.out.cell (Qq w _ hw228_0)).trans hw228_0)⟩ (fun hHeld=>?_);refine qR zB.tab8 zB.bits8 (fun HT_ HW_=>?_);generalize wr.drew=w37 at HO_5 HB hx227_0 hx228_0 hHeld ⊢;refine zG (i:=0) (N:=some 27) (v:=?_) (a':=?_) #[Y,N,N,N,N,N,N,N,N] rfl rfl (zu HT_.out (by kernel_rfl)) (fun _ _ _ h=>h) (Or.inl ⟨by rfl,?_⟩) ?_ ?_;rotate_left
        ·intro w';go_simp;with_reducible rfl
        rotate_left
        ·simp only[Act.put,sA,sB,sC,zp,zw];rfl
        refine zG (i:=1) (N:=some 28) (v:=?_) (a':=?_) #[Y,Y,N,N,N,N,N,N,N] rfl rfl (zu HT_.out (by kernel_rfl)) (fun _ _ _ h=>h) (Or.inl ⟨by rfl,?_⟩) ?_ ?_;rotate_left
        ·intro w';go_simp;with_reducible rfl
        rotate_left
        ·simp only[Act.put,sA,sB,sC,zp,zw];rfl
        refine zG (i:=2) (N:=some 29) (v:=?_) (a':=?_) #[Y,Y,Y,N,N,N,N,N,N] rfl rfl (zu HT_.out (by kernel_rfl)) (fun _ _ _ h=>h) (Or.inl ⟨by rfl,?_⟩) ?_ ?_;rotate_left
        ·intro w';go_simp;with_reducible rfl
        rotate_left
        ·simp only[Act.put,sA,sB,sC,zp,zw];rfl
        refine zG (i:=4) (N:=some 31) (v:=?_) (a':=?_) #[Y,Y,Y,N,Y,N,N,N,N] rfl rfl (zu HT_.out (by kernel_rfl)) (fun _ _ _ h=>h) (Or.inl ⟨by rfl,?_⟩) ?_ ?_;rotate_left
        ·intro w';go_simp;with_reducible rfl
        rotate_left
        ·simp only[Act.put,sA,sB,sC,zp,zw];rfl
        refine zG (i:=5) (N:=some 32) (v:=?_) (a':=?_) #[Y,Y,Y,N,Y,Y,N,N,N] rfl rfl (zu HT_.out (by kernel_rfl)) (fun _ _ _ h=>h) (Or.inl ⟨by rfl,?_⟩) ?_ ?_;rotate_left
        ·intro w';go_simp;with_reducible rfl
        rotate_left
        ·simp only[Act.put,sA,sB,sC,zp,zw];rfl
        refine zG (i:=6) (N:=some 33) (v:=?_) (a':=?_) #[Y,Y,Y,N,Y,Y,Y,N,N] rfl rfl (zu HT_.out (by kernel_rfl)) (fun _ _ _ h=>h) (Or.inl ⟨by rfl,?_⟩) ?_ ?_;rotate_left
        ·intro w';go_simp;with_reducible rfl
        rotate_left
        ·simp only[Act.put,sA,sB,sC,zp,zw];rfl
        refine take_ (i:=3) (N:=some 30) (v:=?_) (a':=?_) #[Y,Y,Y,Y,Y,Y,Y,N,N] rfl rfl (qe HT_.out HW_.out (by kernel_rfl)) (fun _ _ _ h=>h) (Or.inl ⟨by rfl,?_⟩) hHeld ?_ ?_;rotate_left
        ·rintro w' ⟨s0,s1⟩;go_simp;with_reducible rfl
        rotate_left
        ·simp only[Act.put,sA,sB,sC,zp,zw];rfl
        refine take_ (i:=7) (N:=some 34) (v:=?_) (a':=?_) #[Y,Y,Y,Y,Y,Y,Y,Y,N] rfl rfl (qe HT_.out HW_.out (by kernel_rfl)) (fun _ _ _ h=>h) (Or.inl ⟨by rfl,?_⟩) hHeld ?_ ?_;rotate_left
        ·rintro w' ⟨s0,s1⟩;go_simp;with_reducible rfl
        rotate_left
        ·simp only[Act.put,sA,sB,sC,zp,zw];rfl
        refine zG (i:=8) (N:=some 35) (v:=?_) (a':=?_) #[Y,Y,Y,Y,Y,Y,Y,Y,Y] rfl rfl (zu HT_.out (by kernel_rfl)) (fun _ _ _ h=>h) (Or.inl ⟨by rfl,?_⟩) ?_ ?_;rotate_left
        ·intro w';go_simp;with_reducible rfl
        rotate_left
        ·simp only[Act.put,sA,sB,sC,zp,zw];rfl
        refine done_ (Zr HT_.out (by kernel_rfl)) ?_;try go_wp2
        have n0_:=Qk (Kd.S_drew HO_5.out);have n1_:=Qk (zg HB.out);clear HO_5;clear HB;have HO_5:=n0_;have HB:=n1_;clear n0_ n1_;obtain⟨Ao39,co39,eo39⟩:=Kd.S_slice HO_5.out;(first|subst eo39|(injection eo39 with f1_ f2_ f3_;have f4_:=f1_.symm;have f5_:=f3_.symm;clear f1_ f2_ f3_;subst f4_;subst f5_));have p235:0<=(x6_1:Int):=Ql (by assumption);have q235:x6_1<(x5_2.length:Int):=Ql (by assumption);try(obtain⟨Ap235,cp235,ep235⟩:=Kd.S_slice HO_5.out;subst ep235)
        obtain⟨ad235,A235_0,c235_0,e235,hx235_0,hl235_0,hi235_0⟩:=Qj (Kd.S_reads' HO_5.out).2.2 x6_1 p235 q235
        cases e235;obtain⟨ce235,hce235,hMe235,hcc235⟩:=Kd.S_get HO_5.out [] x6_1 p235 (by first|exact q235|exact Ql (by assumption)|(have e_:=(Kd.S_reads' HO_5.out).1;omega));obtain⟨ve235_0,rfl,ge235_0⟩:=hMe235;have hv235_0:=hcc235 0 _ rfl;rw[Nat.add_zero,show ((Kd.slice 3 (Kd.int .i64))).sz=1 from rfl,Nat.mul_one]at hv235_0
        replace hv235_0:=Qp (hv235_0.symm.trans hx235_0);rw[hv235_0]at ge235_0;have HL235_0:=Qk (show Kd.R (Kd.int .i64) 3 _ _ _ _ (zD x5_2 x6_1)from ge235_0);clear hv235_0 ge235_0;have HX235_0:=Qk hx235_0;clear hcc235 hce235;have HR235_0:=Qk hi235_0;have HC235_0:=Qk hl235_0;clear hi235_0 hl235_0;replace p235:=Qr p235;replace q235:=Qr q235;have p236:0<=((ji27):Int):=Ql (by assumption);have q236:(ji27)<(x5_2.length:Int):=Ql (by assumption);try(obtain⟨Ap236,cp236,ep236⟩:=Kd.S_slice HO_5.out;subst ep236)
        obtain⟨ad236,A236_0,c236_0,e236,hx236_0,hl236_0,hi236_0⟩:=Qj (Kd.S_reads' HO_5.out).2.2 (ji27) p236 q236;obtain rfl:ad235=ad236:=(by injection e236);obtain⟨ce236,hce236,hMe236,hcc236⟩:=Kd.S_get HO_5.out [] (ji27) p236 (by first|exact q236|exact Ql (by assumption)|(have e_:=(Kd.S_reads' HO_5.out).1;omega));obtain⟨ve236_0,rfl,ge236_0⟩:=hMe236;have hv236_0:=hcc236 0 _ rfl;rw[Nat.add_zero,show ((Kd.slice 3 (Kd.int .i64))).sz=1 from rfl,Nat.mul_one]at hv236_0
        replace hv236_0:=Qp (hv236_0.symm.trans hx236_0);rw[hv236_0]at ge236_0;have HL236_0:=Qk (show Kd.R (Kd.int .i64) 3 _ _ _ _ (zD x5_2 (ji27))from ge236_0);clear hv236_0 ge236_0;have HX236_0:=Qk hx236_0;clear hcc236 hce236;have HR236_0:=Qk hi236_0;have HC236_0:=Qk hl236_0;clear hi236_0 hl236_0;replace p236:=Qr p236;replace q236:=Qr q236;have p237:0<=(x7_2:Int):=Ql (by assumption);have q237:x7_2<((zD x5_2 (ji27)).length:Int):=Ql (by assumption);obtain⟨ad237,e237,hx237_0⟩:=Kd.at_int (by repeat(first|(with_reducible exact HR236_0.out)|(with_reducible refine Kd.C_alloc ?_ _)|(with_reducible refine Kd.C_drewN ?_ _)|(with_reducible refine Kd.C_drew ?_)|exact HR236_0.out)) x7_2 p237 q237
        cases e237;replace p237:=Qr p237;replace q237:=Qr q237;have p238:0<=(x6_1:Int):=Ql (by assumption);have q238:x6_1<(x5_2.length:Int):=Ql (by assumption);try(obtain⟨Ap238,cp238,ep238⟩:=Kd.S_slice HO_5.out;subst ep238)
        obtain⟨ad238,A238_0,c238_0,e238,hx238_0,hl238_0,hi238_0⟩:=Qj (Kd.S_reads' HO_5.out).2.2 x6_1 p238 q238;obtain rfl:ad235=ad238:=(by injection e238);obtain⟨ce238,hce238,hMe238,hcc238⟩:=Kd.S_get HO_5.out [] x6_1 p238 (by first|exact q238|exact Ql (by assumption)|(have e_:=(Kd.S_reads' HO_5.out).1;omega));obtain⟨ve238_0,rfl,ge238_0⟩:=hMe238;have hv238_0:=hcc238 0 _ rfl;rw[Nat.add_zero,show ((Kd.slice 3 (Kd.int .i64))).sz=1 from rfl,Nat.mul_one]at hv238_0
        replace hv238_0:=Qp (hv238_0.symm.trans hx238_0);rw[hv238_0]at ge238_0;have HL238_0:=Qk (show Kd.R (Kd.int .i64) 3 _ _ _ _ (zD x5_2 x6_1)from ge238_0);clear hv238_0 ge238_0;have HX238_0:=Qk hx238_0;clear hcc238 hce238;have HR238_0:=Qk hi238_0;have HC238_0:=Qk hl238_0;clear hi238_0 hl238_0;replace p238:=Qr p238;replace q238:=Qr q238;have ea_:=Qp (hx235_0.symm.trans hx238_0);injection ea_ with ea_ en_ ec_
        subst ea_;subst ec_;clear en_;have p239:0<=((ji31):Int):=Ql (by assumption);have q239:(ji31)<((zD x5_2 x6_1).length:Int):=Ql (by assumption);obtain⟨ad239,e239,hx239_0⟩:=Kd.at_int (by repeat(first|(with_reducible exact HR238_0.out)|(with_reducible refine Kd.C_alloc ?_ _)|(with_reducible refine Kd.C_drewN ?_ _)|(with_reducible refine Kd.C_drew ?_)|exact HR238_0.out)) (ji31) p239 q239
        cases e239;replace p239:=Qr p239;replace q239:=Qr q239;have p36:0<=(x7_2:Int):=Ql (by assumption);have q36:(x7_2:Int)<(((zD x5_2 x6_1).length:Int):Int):=Ql (by assumption);obtain⟨go36,co36,eo36,gb36,gl36,cl36,HG36⟩:=Kd.R_form HL235_0.out (by omega);(first|cases eo36|(injection eo36 with ea_ en_ ec_;(first|subst ea_|(injection ea_ with ea_;subst ea_));subst ec_;clear en_));have GB36:=Qk gb36;have GG36:=Qk HG36;clear gb36 gl36 HG36;(first|simp only[qy]at hx239_0|skip);obtain⟨hx36_0,hf36_0⟩:=Kd.R_celln 0 HL235_0.out (x7_2:Int) p36 q36;replace p36:=Qr p36;replace q36:=Qr q36;have hq40:(x6_1:Int)<(x5_2.length:Int):=(by have h_:(x6_1:Int)<((x5_2.length:Int):Int):=Ql (by assumption);first|exact h_|(have e_:=(Kd.S_reads' HO_5.out).1;omega)|simpa only[List.length_set,List.length_set]using h_);obtain⟨oki40,ce40,hcl40,hM40,hcc40,hok40,hbk40⟩:=Kd.S_borrow HO_5.out [] (x6_1:Int) (Ql (by assumption)) hq40;obtain⟨ve40_0,rfl,ge40_0⟩:=hM40;have hv40:=hcc40 0 _ rfl;rw[Nat.add_zero,show ((Kd.slice 3 (Kd.int .i64))).sz=1 from rfl,Nat.mul_one]at hv40
        replace hv40:=Qp (hv40.symm.trans HX235_0.out);subst hv40;clear hcc40 hcl40;replace ge40_0:=(show Kd.R (Kd.int .i64) 3 _ _ _ _ (zD x5_2 x6_1)from ge40_0);have HP40:=Kd.R_putg ge40_0 (x7_2:Int) ji34;rw[← Ny240.out]at HP40;have HS40:=hbk40 HP40.2 (fun k_ e_=>by injection e_ with e_;subst e_;exact ge40_0.1 _ rfl) (x':=y240) (Kd.M_row HP40.1);rw[← Ny242.out]at HS40;have HQ40:=Qk HS40;clear HP40 HS40 hbk40 hok40;refine ZG (n:=24) (S:=fun w'=>w'.cell? (ad235.add (x6_1).toNat)=some (.slice (some ⟨go36,0,none⟩) (zD x5_2 x6_1).length c235_0)/\w'.cell? (ad235.add ((ji27)).toNat)=some (.slice (some ad237) (zD x5_2 (ji27)).length c236_0)/\w'.cell? (ad237.add (x7_2).toNat)=some (.int .i64 (rd (zD x5_2 (ji27)) x7_2))/\w'.cell? (ad235.add (x6_1).toNat)=some (.slice (some ⟨go36,0,none⟩) (zD x5_2 x6_1).length c235_0)/\w'.cell? ⟨go36,((ji31)).toNat,none⟩=some (.int .i64 (rd (zD x5_2 x6_1) (ji31)))) (ds:=[23]) #[N,N,N,N,N,N,N,N,N,N,N,N,N,N,N,N,N,N,N,N,N,N,N,N] (by kernel_rfl) rfl rfl ⟨hx235_0,hx236_0,hx237_0,hx238_0,hx239_0⟩ (fun hHeld=>?_);refine qR zB.tab10 zB.bits10 (fun HT_ HW_=>?_);generalize w37.drew=w38 at HO_5 HB GG36 HL235_0 HL236_0 HL238_0 HQ40 HR235_0 HR236_0 HR238_0 HX235_0 HX236_0 HX238_0 hf36_0 hx235_0 hx236_0 hx237_0 hx238_0 hx239_0 hx36_0 hHeld ⊢;refine zG (i:=0) (N:=some 52) (v:=?_) (a':=?_) #[Y,N,N,N,N,N,N,N,N,N,N,N,N,N,N,N,N,N,N,N,N,N,N,N] rfl rfl (zu HT_.out (by kernel_rfl)) (fun _ _ _ h=>h) (Or.inl ⟨by rfl,?_⟩) ?_ ?_;rotate_left
        ·intro w';go_simp;with_reducible rfl
        rotate_left
        ·simp only[Act.put,sA,sB,sC,zp,zw];rfl
        refine zG (i:=1) (N:=some 53) (v:=?_) (a':=?_) #[Y,Y,N,N,N,N,N,N,N,N,N,N,N,N,N,N,N,N,N,N,N,N,N,N] rfl rfl (zu HT_.out (by kernel_rfl)) (fun _ _ _ h=>h) (Or.inl ⟨by rfl,?_⟩) ?_ ?_;rotate_left
        ·intro w';go_simp;with_reducible rfl
        rotate_left
        ·simp only[Act.put,sA,sB,sC,zp,zw];rfl
        refine zG (i:=2) (N:=some 54) (v:=?_) (a':=?_) #[Y,Y,Y,N,N,N,N,N,N,N,N,N,N,N,N,N,N,N,N,N,N,N,N,N] rfl rfl (zu HT_.out (by kernel_rfl)) (fun _ _ _ h=>h) (Or.inl ⟨by rfl,?_⟩) ?_ ?_;rotate_left
        ·intro w';go_simp;with_reducible rfl
        rotate_left
        ·simp only[Act.put,sA,sB,sC,zp,zw];rfl
        refine zG (i:=4) (N:=some 56) (v:=?_) (a':=?_) #[Y,Y,Y,N,Y,N,N,N,N,N,N,N,N,N,N,N,N,N,N,N,N,N,N,N] rfl rfl (zu HT_.out (by kernel_rfl)) (fun _ _ _ h=>h) (Or.inl ⟨by rfl,?_⟩) ?_ ?_;rotate_left
        ·intro w';go_simp;with_reducible rfl
        rotate_left
        ·simp only[Act.put,sA,sB,sC,zp,zw];rfl
        refine zG (i:=5) (N:=some 57) (v:=?_) (a':=?_) #[Y,Y,Y,N,Y,Y,N,N,N,N,N,N,N,N,N,N,N,N,N,N,N,N,N,N] rfl rfl (zu HT_.out (by kernel_rfl)) (fun _ _ _ h=>h) (Or.inl ⟨by rfl,?_⟩) ?_ ?_;rotate_left
        ·intro w';go_simp;with_reducible rfl
        rotate_left
        ·simp only[Act.put,sA,sB,sC,zp,zw];rfl
        refine zG (i:=6) (N:=some 58) (v:=?_) (a':=?_) #[Y,Y,Y,N,Y,Y,Y,N,N,N,N,N,N,N,N,N,N,N,N,N,N,N,N,N] rfl rfl (zu HT_.out (by kernel_rfl)) (fun _ _ _ h=>h) (Or.inl ⟨by rfl,?_⟩) ?_ ?_;rotate_left
        ·intro w';go_simp;with_reducible rfl
        rotate_left
        ·simp only[Act.put,sA,sB,sC,zp,zw];rfl
        refine zG (i:=7) (N:=some 59) (v:=?_) (a':=?_) #[Y,Y,Y,N,Y,Y,Y,Y,N,N,N,N,N,N,N,N,N,N,N,N,N,N,N,N] rfl rfl (zu HT_.out (by kernel_rfl)) (fun _ _ _ h=>h) (Or.inl ⟨by rfl,?_⟩) ?_ ?_;rotate_left
        ·intro w';go_simp;with_reducible rfl
        rotate_left
        ·simp only[Act.put,sA,sB,sC,zp,zw];rfl
        refine zG (i:=8) (N:=some 60) (v:=?_) (a':=?_) #[Y,Y,Y,N,Y,Y,Y,Y,Y,N,N,N,N,N,N,N,N,N,N,N,N,N,N,N] rfl rfl (zu HT_.out (by kernel_rfl)) (fun _ _ _ h=>h) (Or.inl ⟨by rfl,?_⟩) ?_ ?_;rotate_left
        ·intro w';go_simp;with_reducible rfl
        rotate_left
        ·simp only[Act.put,sA,sB,sC,zp,zw];rfl
        refine zG (i:=10) (N:=some 62) (v:=?_) (a':=?_) #[Y,Y,Y,N,Y,Y,Y,Y,Y,N,Y,N,N,N,N,N,N,N,N,N,N,N,N,N] rfl rfl (zu HT_.out (by kernel_rfl)) (fun _ _ _ h=>h) (Or.inl ⟨by rfl,?_⟩) ?_ ?_;rotate_left
        ·intro w';go_simp;with_reducible rfl
        rotate_left
        ·simp only[Act.put,sA,sB,sC,zp,zw];rfl
        refine zG (i:=13) (N:=some 65) (v:=?_) (a':=?_) #[Y,Y,Y,N,Y,Y,Y,Y,Y,N,Y,N,N,Y,N,N,N,N,N,N,N,N,N,N] rfl rfl (zu HT_.out (by kernel_rfl)) (fun _ _ _ h=>h) (Or.inl ⟨by rfl,?_⟩) ?_ ?_;rotate_left
        ·intro w';go_simp;with_reducible rfl
        rotate_left
        ·simp only[Act.put,sA,sB,sC,zp,zw];rfl
        refine zG (i:=14) (N:=some 66) (v:=?_) (a':=?_) #[Y,Y,Y,N,Y,Y,Y,Y,Y,N,Y,N,N,Y,Y,N,N,N,N,N,N,N,N,N] rfl rfl (zu HT_.out (by kernel_rfl)) (fun _ _ _ h=>h) (Or.inl ⟨by rfl,?_⟩) ?_ ?_;rotate_left
        ·intro w';go_simp;with_reducible rfl
        rotate_left
        ·simp only[Act.put,sA,sB,sC,zp,zw];rfl
        refine zG (i:=15) (N:=some 67) (v:=?_) (a':=?_) #[Y,Y,Y,N,Y,Y,Y,Y,Y,N,Y,N,N,Y,Y,Y,N,N,N,N,N,N,N,N] rfl rfl (zu HT_.out (by kernel_rfl)) (fun _ _ _ h=>h) (Or.inl ⟨by rfl,?_⟩) ?_ ?_;rotate_left
        ·intro w';go_simp;with_reducible rfl
        rotate_left
        ·simp only[Act.put,sA,sB,sC,zp,zw];rfl
        refine zG (i:=17) (N:=some 69) (v:=?_) (a':=?_) #[Y,Y,Y,N,Y,Y,Y,Y,Y,N,Y,N,N,Y,Y,Y,N,Y,N,N,N,N,N,N] rfl rfl (zu HT_.out (by kernel_rfl)) (fun _ _ _ h=>h) (Or.inl ⟨by rfl,?_⟩) ?_ ?_;rotate_left
        ·intro w';go_simp;with_reducible rfl
        rotate_left
        ·simp only[Act.put,sA,sB,sC,zp,zw];rfl
        refine zG (i:=18) (N:=some 70) (v:=?_) (a':=?_) #[Y,Y,Y,N,Y,Y,Y,Y,Y,N,Y,N,N,Y,Y,Y,N,Y,Y,N,N,N,N,N] rfl rfl (zu HT_.out (by kernel_rfl)) (fun _ _ _ h=>h) (Or.inl ⟨by rfl,?_⟩) ?_ ?_;rotate_left
        ·intro w';go_simp;with_reducible rfl
        rotate_left
        ·simp only[Act.put,sA,sB,sC,zp,zw];rfl
        refine take_ (i:=3) (N:=some 55) (v:=?_) (a':=?_) #[Y,Y,Y,Y,Y,Y,Y,Y,Y,N,Y,N,N,Y,Y,Y,N,Y,Y,N,N,N,N,N] rfl rfl (qe HT_.out HW_.out (by kernel_rfl)) (fun _ _ _ h=>h) (Or.inl ⟨by rfl,?_⟩) hHeld ?_ ?_;rotate_left
        ·rintro w' ⟨s0,s1,s2,s3,s4⟩;go_simp;with_reducible rfl
        rotate_left
        ·simp only[Act.put,sA,sB,sC,zp,zw];rfl
        refine take_ (i:=9) (N:=some 61) (v:=?_) (a':=?_) #[Y,Y,Y,Y,Y,Y,Y,Y,Y,Y,Y,N,N,Y,Y,Y,N,Y,Y,N,N,N,N,N] rfl rfl (qe HT_.out HW_.out (by kernel_rfl)) (fun _ _ _ h=>h) (Or.inl ⟨by rfl,?_⟩) hHeld ?_ ?_;rotate_left
        ·rintro w' ⟨s0,s1,s2,s3,s4⟩;go_simp;with_reducible rfl
        rotate_left
        ·simp only[Act.put,sA,sB,sC,zp,zw];rfl
        refine zG (i:=11) (N:=some 63) (v:=?_) (a':=?_) #[Y,Y,Y,Y,Y,Y,Y,Y,Y,Y,Y,Y,N,Y,Y,Y,N,Y,Y,N,N,N,N,N] rfl rfl (zu HT_.out (by kernel_rfl)) (fun _ _ _ h=>h) (Or.inl ⟨by rfl,?_⟩) ?_ ?_;rotate_left
        ·intro w';go_simp;with_reducible rfl
        rotate_left
        ·simp only[Act.put,sA,sB,sC,zp,zw];rfl
        refine take_ (i:=12) (N:=some 64) (v:=?_) (a':=?_) #[Y,Y,Y,Y,Y,Y,Y,Y,Y,Y,Y,Y,Y,Y,Y,Y,N,Y,Y,N,N,N,N,N] rfl rfl (qe HT_.out HW_.out (by kernel_rfl)) (fun _ _ _ h=>h) (Or.inl ⟨by rfl,?_⟩) hHeld ?_ ?_;rotate_left
        ·rintro w' ⟨s0,s1,s2,s3,s4⟩;go_simp;with_reducible rfl
        rotate_left
        ·simp only[Act.put,sA,sB,sC,zp,zw];rfl
        refine take_ (i:=16) (N:=some 68) (v:=?_) (a':=?_) #[Y,Y,Y,Y,Y,Y,Y,Y,Y,Y,Y,Y,Y,Y,Y,Y,Y,Y,Y,N,N,N,N,N] rfl rfl (qe HT_.out HW_.out (by kernel_rfl)) (fun _ _ _ h=>h) (Or.inl ⟨by rfl,?_⟩) hHeld ?_ ?_;rotate_left
        ·rintro w' ⟨s0,s1,s2,s3,s4⟩;go_simp;with_reducible rfl
        rotate_left
        ·simp only[Act.put,sA,sB,sC,zp,zw];rfl
        refine zG (i:=19) (N:=some 71) (v:=?_) (a':=?_) #[Y,Y,Y,Y,Y,Y,Y,Y,Y,Y,Y,Y,Y,Y,Y,Y,Y,Y,Y,Y,N,N,N,N] rfl rfl (zu HT_.out (by kernel_rfl)) (fun _ _ _ h=>h) (Or.inl ⟨by rfl,?_⟩) ?_ ?_;rotate_left
        ·intro w';go_simp;with_reducible rfl
        rotate_left
        ·simp only[Act.put,sA,sB,sC,zp,zw];rfl
        refine take_ (i:=20) (N:=some 72) (v:=?_) (a':=?_) #[Y,Y,Y,Y,Y,Y,Y,Y,Y,Y,Y,Y,Y,Y,Y,Y,Y,Y,Y,Y,Y,N,N,N] rfl rfl (qe HT_.out HW_.out (by kernel_rfl)) (fun _ _ _ h=>h) (Or.inl ⟨by rfl,?_⟩) hHeld ?_ ?_;rotate_left
        ·rintro w' ⟨s0,s1,s2,s3,s4⟩;go_simp;with_reducible rfl
        rotate_left
        ·simp only[Act.put,sA,sB,sC,zp,zw];rfl
        refine zG (i:=21) (N:=some 73) (v:=?_) (a':=?_) #[Y,Y,Y,Y,Y,Y,Y,Y,Y,Y,Y,Y,Y,Y,Y,Y,Y,Y,Y,Y,Y,Y,N,N] rfl rfl (zu HT_.out (by kernel_rfl)) (fun _ _ _ h=>h) (Or.inl ⟨by rfl,?_⟩) ?_ ?_;rotate_left
        ·intro w';go_simp;with_reducible rfl
        rotate_left
        ·simp only[Act.put,sA,sB,sC,zp,zw];rfl
        refine zG (i:=22) (N:=some 74) (v:=?_) (a':=?_) #[Y,Y,Y,Y,Y,Y,Y,Y,Y,Y,Y,Y,Y,Y,Y,Y,Y,Y,Y,Y,Y,Y,Y,N] rfl rfl (zu HT_.out (by kernel_rfl)) (fun _ _ _ h=>h) (Or.inl ⟨by rfl,?_⟩) ?_ ?_;rotate_left
        ·intro w';go_simp;with_reducible rfl
        rotate_left
        ·simp only[Act.put,sA,sB,sC,zp,zw];rfl
        refine last_ (i:=23) (N:=none) #[Y,Y,Y,Y,Y,Y,Y,Y,Y,Y,Y,Y,Y,Y,Y,Y,Y,Y,Y,Y,Y,Y,Y,Y] rfl rfl (one_of HT_.out (by kernel_rfl)) (by decide) (fun K hK=>?_);refine skip_ (w1:=?_) (by rfl) rfl ?_ ?_;rotate_left
        ·go_simp;rfl
        refine hK.out _ _ ?_;clear hK K;refine done_ (Zr HT_.out (by kernel_rfl)) ?_;try go_wp2
        go_roundg k2
        case measure=>have:=HK1.out;have:=HK2.out;omega
        case rel=>exact⟨(y242),(wrap64 (x7_2-1)),rfl,H',⟨by have:=HK1.out;have:=HK2.out;omega⟩,⟨by(with_reducible repeat(first|apply Kd.S_alloc|apply Kd.S_drewN|apply Kd.S_drew));exact HQ40.out⟩,⟨by repeat(first|(with_reducible first|exact HB.out|apply za|apply zb|apply zg|refine zr ?_ GB36.out)|exact HB.out)⟩⟩
      ·rw[if_neg c6]at H;have c6b0:decide (0<=x7_2)=false:=Qn c6;clear c6;have H':=Qk H;clear H;go_wp2;go_roundg k2
       case measure=>have:=HK1.out;have:=HK2.out;omega
       case rel=>exact⟨(x5_2),(wrap64 (x6_1-1)),rfl,H',⟨by have:=HK1.out;have:=HK2.out;omega⟩,⟨HO_5.out⟩,⟨HB.out⟩⟩
   ·rw[if_neg c5]at H;have c5b0:decide (0<=x6_1)=false:=Qn c5;clear c5;obtain rfl:=Qp H;go_wp2;go_ret;exact⟨_,rfl,by(with_reducible repeat(first|apply Kd.S_alloc|apply Kd.S_drewN|apply Kd.S_drew));exact HO_5.out,HB.out⟩
mutual
def qo.l0:Nat->List Int->List Int->List (List Int)->List (S54)->Int->Int->Option ((List (S54))×Int)
 |0,_,_,_,_,_,_=>none
 |k+1,x0,x1,x6,x7,x8,x9=>if x8<(x0.length:Int)then(qo.j1 k x0 x1 x6 x7 x8 x9 (decide (x9<(x1.length:Int))))else(qo.j1 k x0 x1 x6 x7 x8 x9 false)
def qo.j1:Nat->List Int->List Int->List (List Int)->List (S54)->Int->Int->Bool->Option ((List (S54))×Int)
 |0,_,_,_,_,_,_,_=>none
 |k+1,x0,x1,x6,x7,x8,x9,x22=>if x22=true then(if 0<=x8 then(if x8<(x0.length:Int)then(if 0<=x9 then(if x9<(x1.length:Int)then(if (rd x0 x8)=(rd x1 x9)then(if x7.length<8796093022208 then(qo.l0 k x0 x1 x6 (x7++[(⟨x8,x9⟩:S54)]) (wrap64 (x8+1)) (wrap64 (x9+1)))else(none))else(if 0<=(wrap64 (x8+1))then(if (wrap64 (x8+1))<(x6.length:Int)then(if x9<((zD x6 (wrap64 (x8+1))).length:Int)then(if x8<(x6.length:Int)then(if 0<=(wrap64 (x9+1))then(if (wrap64 (x9+1))<((zD x6 x8).length:Int)then(if (rd (zD x6 (wrap64 (x8+1))) x9)≥(rd (zD x6 x8) (wrap64 (x9+1)))then(qo.l0 k x0 x1 x6 x7 (wrap64 (x8+1)) x9)else(qo.l0 k x0 x1 x6 x7 x8 (wrap64 (x9+1))))else(none))else(none))else(none))else(none))else(none))else(none)))else(none))else(none))else(none))else(none))else(some (x7,wrap64 ((x0.length:Int)*(x1.length:Int))))
end
def qo.f(k:Nat)(l0:List Int)(l1:List Int):Option ((List (S54))×Int):=(zB.f k l0 l1).bind fun t243=>(qo.l0 k l0 l1 t243 ([]:List (S54)) 0 0)
theorem qo.calls(k:Nat)(A0:Option Addr)(c0:Nat)(l0:List Int)(A1:Option Addr)(c1:Nat)(l1:List Int)(r1:List (S54))(r2:Int)(w:World)(hr0:Kd.C (Kd.int .i64) w A0 l0.length l0)(hc0:l0.length<=c0)(hr1:Kd.C (Kd.int .i64) w A1 l1.length l1)(hc1:l1.length<=c1)(h:qo.f k l0 l1=some (r1,r2)) :
 Calls Tryz.prog 67 #[.slice A0 l0.length c0,.slice A1 l1.length c1] w fun e w'=>∃ v0_:Value,e=.returned (.tuple #[v0_,.int .i64 r2])/\Kd.R k54 54 w' w.heap.size (fun _=>True) v0_ r1/\Below w.heap.size w w':=by
 have hu54:=Tryz.underlying54;have HR0:=Qk hr0;have HC0:=Qk hc0;clear hr0 hc0;have HR1:=Qk hr1;have HC1:=Qk hc1;clear hr1 hc1;have HB:=Qk (Below.refl w.heap.size w);have H:((zB.f k l0 l1).bind fun t243=>(qo.l0 k l0 l1 t243 ([]:List (S54)) 0 0))=some (r1,r2):=h;clear h;replace H:=Qo H;obtain⟨t243,A30,H⟩:=H;replace H:(qo.l0 k l0 l1 t243 ([]:List (S54)) 0 0)=some (r1,r2):=H;have A3:=Qk A30;clear A30;have H':=Qk H;clear H;go_enter Tryz.func67,Tryz.ntmps67;go_wp2_with (first|(go_at_call 108;(with_reducible refine(zB.calls k _ _ l0 _ _ l1 t243 _ ?side1 ?side2 ?side3 ?side4 A3.out).mono ?_);(case side1=>exact HR0.out);(case side2=>exact HC0.out);(case side3=>exact HR1.out);(case side4=>exact HC1.out);rintro e w4 ⟨v244,rfl,ho0,hb⟩;have HO245:=Qk (Kd.S_lower ho0 (ze HB.out));replace HB:=Qk (zi HB.out hb)))
 go_loopg [7,8,9] k (fun kq v7 v8 v9 w'=>∃ (x7_1:List (S54)) (x8_1:Int) (x9_1:Int),v8=.int .i64 x8_1/\v9=.int .i64 x9_1/\Aside0 (qo.l0 kq l0 l1 t243 x7_1 x8_1 x9_1=some (r1,r2))/\Aside0 (kq<=k)/\Aside0 (Kd.S (Kd.slice 3 (Kd.int .i64)) 25 w' w.heap.size (fun _=>True) v244 t243)/\Aside0 (Kd.R k54 54 w' w.heap.size (fun _=>True) v7 x7_1)/\Aside0 (Below w.heap.size w w'))
 case atStart=>exact⟨(([]:List (S54))),(0),(0),rfl,rfl,H',⟨Nat.le_refl _⟩,⟨HO245.out⟩,⟨by first|exact Kd.R_nil _ _ _ _ _|exact Kd.N_nil _ _ _ _ _|exact Kd.V_nil _ _ _ _ _|exact Kd.Q_nil _ _ _ _ _|exact Kd.S_nil _ _ _ _ _⟩,⟨HB.out⟩⟩
 case round =>
  clear H';obtain⟨x7_1,x8_1,x9_1,rfl,rfl,HA,HK1,HO_6,HO_7,HB⟩:=hrel
  cases gk with
  |zero=>exact absurd HA.out (by simp[qo.l0])
  |succ k1 =>
   have H:=HA.out;clear HA;simp only[qo.l0]at H;have HC5:=Qk H;clear H;go_upto_region 4 with(fail)
   go_cut [22] (fun v22 wc=>∃ (kq:Nat) (x22_4:Bool),v22=.bool x22_4/\Aside0 (qo.j1 kq l0 l1 t243 x7_1 x8_1 x9_1 x22_4=some (r1,r2))/\Aside0 (kq<=k1)/\Aside0 (Kd.S (Kd.slice 3 (Kd.int .i64)) 25 wc w.heap.size (fun _=>True) v244 t243)/\Aside0 (Kd.R k54 54 wc w.heap.size (fun _=>True) u7 x7_1)/\Aside0 (Below w.heap.size w wc))
   case first =>
    have H:=HC5.out;clear HC5;by_cases c6:x8_1<(l0.length:Int)
    ·rw[if_pos c6]at H;have c6b0:decide (x8_1<(l0.length:Int))=true:=Qm c6;clear c6;(first|rw[c6b0]|(simp only[zp,zw];rw[c6b0])|skip);have H':=Qk H;clear H;go_wp2;go_meet
     case rel=>exact⟨_,(decide (x9_1<(l1.length:Int))),rfl,H',⟨by have:=HK1.out;first|omega|exact Nat.le_refl _⟩,⟨HO_6.out⟩,⟨HO_7.out⟩,⟨HB.out⟩⟩
    ·rw[if_neg c6]at H;have c6b0:decide (x8_1<(l0.length:Int))=false:=Qn c6;clear c6;(first|rw[c6b0]|(simp only[zp,zw];rw[c6b0])|skip);have H':=Qk H;clear H;go_wp2;go_meet
     case rel=>exact⟨_,(false),rfl,H',⟨by have:=HK1.out;first|omega|exact Nat.le_refl _⟩,⟨HO_6.out⟩,⟨HO_7.out⟩,⟨HB.out⟩⟩
   case rest =>
    clear HC5;obtain⟨kq,x22_4,rfl,HA,HJ4,HO_6,HO_7,HB⟩:=hcut
    cases kq with
    |zero=>exact absurd HA.out (by simp[qo.j1])
    |succ kj4 =>
     have H:=HA.out;clear HA;simp only[qo.j1]at H;by_cases c7:x22_4=true
     ·subst c7;have H1:(if 0<=x8_1 then(if x8_1<(l0.length:Int)then(if 0<=x9_1 then(if x9_1<(l1.length:Int)then(if (rd l0 x8_1)=(rd l1 x9_1)then(if x7_1.length<8796093022208 then(qo.l0 kj4 l0 l1 t243 (x7_1++[(⟨x8_1,x9_1⟩:S54)]) (wrap64 (x8_1+1)) (wrap64 (x9_1+1)))else(none))else(if 0<=(wrap64 (x8_1+1))then(if (wrap64 (x8_1+1))<(t243.length:Int)then(if x9_1<((zD t243 (wrap64 (x8_1+1))).length:Int)then(if x8_1<(t243.length:Int)then(if 0<=(wrap64 (x9_1+1))then(if (wrap64 (x9_1+1))<((zD t243 x8_1).length:Int)then(if (rd (zD t243 (wrap64 (x8_1+1))) x9_1)≥(rd (zD t243 x8_1) (wrap64 (x9_1+1)))then(qo.l0 kj4 l0 l1 t243 x7_1 (wrap64 (x8_1+1)) x9_1)else(qo.l0 kj4 l0 l1 t243 x7_1 x8_1 (wrap64 (x9_1+1))))else(none))else(none))else(none))else(none))else(none))else(none)))else(none))else(none))else(none))else(none))=some (r1,r2):=by rw[if_pos rfl]at H;exact H
      clear H;have H:=H1;clear H1;replace H:=ifSome H;obtain⟨c8,H⟩:=H;have c8b0:decide (0<=x8_1)=true:=Qm c8;clear c8;replace H:=ifSome H;obtain⟨c9,H⟩:=H;have c9b0:decide (x8_1<(l0.length:Int))=true:=Qm c9;clear c9;replace H:=ifSome H;obtain⟨c10,H⟩:=H;have c10b0:decide (0<=x9_1)=true:=Qm c10;clear c10;replace H:=ifSome H;obtain⟨c11,H⟩:=H;have c11b0:decide (x9_1<(l1.length:Int))=true:=Qm c11;clear c11;by_cases c12:(rd l0 x8_1)=(rd l1 x9_1)
      ·rw[if_pos c12]at H;have c12b0:((rd l0 x8_1) == (rd l1 x9_1))=true:=beq_iff_eq.mpr c12;have c12b1:((rd l0 x8_1) != (rd l1 x9_1))=false:=bne_eq_false_iff_eq.mpr c12;clear c12;replace H:=ifSome H;obtain⟨c13,H⟩:=H;have LMc13:=Qk c13;clear c13;obtain⟨y248,hy248⟩:∃ y_:List (S54),y_=(x7_1++[(⟨x8_1,x9_1⟩:S54)]):=⟨_,rfl⟩
       replace H:(qo.l0 kj4 l0 l1 t243 y248 (wrap64 (x8_1+1)) (wrap64 (x9_1+1)))=some (r1,r2):=by first|(rw[hy248];with_reducible exact H)|(have H2_:=(Option.bind_some _ _).symm.trans H;rw[hy248];with_reducible exact H2_)|(have H2_:=(Option.bind_some _ _).symm.trans H;with_reducible exact H2_)|with_reducible exact H|(rw[hy248];exact H)|exact H
       have Ny248:=Qk hy248;clear hy248;have H':=Qk H;clear H;have p246:0<=(x8_1:Int):=Ql (by assumption);have q246:x8_1<(l0.length:Int):=Ql (by assumption);obtain⟨ad246,e246,hx246_0⟩:=Kd.at_int HR0.out x8_1 p246 q246
       cases e246;replace hx246_0:=(HB.out.cell (Qq w _ hx246_0)).trans hx246_0;replace p246:=Qr p246;replace q246:=Qr q246;have p247:0<=(x9_1:Int):=Ql (by assumption);have q247:x9_1<(l1.length:Int):=Ql (by assumption);obtain⟨ad247,e247,hx247_0⟩:=Kd.at_int HR1.out x9_1 p247 q247
       cases e247;replace hx247_0:=(HB.out.cell (Qq w _ hx247_0)).trans hx247_0;replace p247:=Qr p247;replace q247:=Qr q247;go_wp2_with (first|((with_reducible refine zO (b:=.append) (xs:=#[.tmp 35,.tmp 39]) rfl ?_);at_builtin;refine Kd.R_append k54 (w0:=w) w.heap.size rfl (.tmp 35) (.tmp 39) 32 54 (.agg #[(.int .i64 0),(.int .i64 0)]) 16 rfl Tryz.underlying32 info54 rfl (by decide) (by omega) u7 x7_1 (⟨x8_1,x9_1⟩:S54) [.int .i64 x8_1,.int .i64 x9_1] (fun _=>True) (fun _=>False) rfl rfl ?aP (fun _ hk=>hk.elim) ?aF ?aO ?aB ?aS ?aL ?_;(case aP=>exact Qe _ _ _ (⟨x8_1,x9_1⟩:S54));(case aB=>exact HB.out);(case aF=>exact(fun _ _=>trivial));(case aO=>exact HO_7.out);(case aS=>exact(ze HB.out));(case aL=>have:=LMc13.out;omega);intro v249 w14 ho hb hg hat;rw[← Ny248.out]at ho;replace HO_6:=Qk (Kd.S_over' HO_6.out (Kd.R_typed HO_7.out) (by decide) hg);replace HB:=Qk (hb);have HO250:=Qk (ho);clear HO_7))
       repeat(go_quiet (first|((with_reducible refine zO (b:=.append) (xs:=#[.tmp 35,.tmp 39]) rfl ?_);at_builtin;refine Kd.R_append k54 (w0:=w) w.heap.size rfl (.tmp 35) (.tmp 39) 32 54 (.agg #[(.int .i64 0),(.int .i64 0)]) 16 rfl Tryz.underlying32 info54 rfl (by decide) (by omega) u7 x7_1 (⟨x8_1,x9_1⟩:S54) [.int .i64 x8_1,.int .i64 x9_1] (fun _=>True) (fun _=>False) rfl rfl ?aP (fun _ hk=>hk.elim) ?aF ?aO ?aB ?aS ?aL ?_;(case aP=>exact Qe _ _ _ (⟨x8_1,x9_1⟩:S54));(case aB=>exact(by repeat(first|(with_reducible first|exact HB.out|apply za|apply zb|apply zg)|exact HB.out)));(case aF=>exact(fun _ _=>trivial));(case aO=>exact(by(with_reducible repeat(first|apply Kd.R_alloc|apply Kd.R_drewN|apply Kd.R_drew));exact HO_7.out));(case aS=>exact(ze (by repeat(first|(with_reducible first|exact HB.out|apply za|apply zb|apply zg)|exact HB.out))));(case aL=>have:=LMc13.out;omega);intro v249 w14 ho hb hg hat;rw[← Ny248.out]at ho;replace HO_6:=Qk (Kd.S_over' (by(with_reducible repeat(first|apply Kd.S_alloc|apply Kd.S_drewN|apply Kd.S_drew));exact HO_6.out) (Kd.R_typed (by(with_reducible repeat(first|apply Kd.R_alloc|apply Kd.R_drewN|apply Kd.R_drew));exact HO_7.out)) (by decide) hg);replace HB:=Qk (hb);have HO250:=Qk (ho);clear HO_7));try go_wp2_with (first|((with_reducible refine zO (b:=.append) (xs:=#[.tmp 35,.tmp 39]) rfl ?_);at_builtin;refine Kd.R_append k54 (w0:=w) w.heap.size rfl (.tmp 35) (.tmp 39) 32 54 (.agg #[(.int .i64 0),(.int .i64 0)]) 16 rfl Tryz.underlying32 info54 rfl (by decide) (by omega) u7 x7_1 (⟨x8_1,x9_1⟩:S54) [.int .i64 x8_1,.int .i64 x9_1] (fun _=>True) (fun _=>False) rfl rfl ?aP (fun _ hk=>hk.elim) ?aF ?aO ?aB ?aS ?aL ?_;(case aP=>exact Qe _ _ _ (⟨x8_1,x9_1⟩:S54));(case aB=>exact(by repeat(first|(with_reducible first|exact HB.out|apply za|apply zb|apply zg)|exact HB.out)));(case aF=>exact(fun _ _=>trivial));(case aO=>exact(by(with_reducible repeat(first|apply Kd.R_alloc|apply Kd.R_drewN|apply Kd.R_drew));exact HO_7.out));(case aS=>exact(ze (by repeat(first|(with_reducible first|exact HB.out|apply za|apply zb|apply zg)|exact HB.out))));(case aL=>have:=LMc13.out;omega);intro v249 w14 ho hb hg hat;rw[← Ny248.out]at ho;replace HO_6:=Qk (Kd.S_over' (by(with_reducible repeat(first|apply Kd.S_alloc|apply Kd.S_drewN|apply Kd.S_drew));exact HO_6.out) (Kd.R_typed (by(with_reducible repeat(first|apply Kd.R_alloc|apply Kd.R_drewN|apply Kd.R_drew));exact HO_7.out)) (by decide) hg);replace HB:=Qk (hb);have HO250:=Qk (ho);clear HO_7)))
       go_roundg kj4
       case measure=>have:=HK1.out;have:=HJ4.out;omega
       case rel=>exact⟨(y248),(wrap64 (x8_1+1)),(wrap64 (x9_1+1)),rfl,rfl,H',⟨by have:=HK1.out;have:=HJ4.out;omega⟩,⟨HO_6.out⟩,⟨HO250.out⟩,⟨HB.out⟩⟩
      ·rw[if_neg c12]at H;have c12b0:((rd l0 x8_1) == (rd l1 x9_1))=false:=beq_eq_false_iff_ne.mpr c12;have c12b1:((rd l0 x8_1) != (rd l1 x9_1))=true:=bne_iff_ne.mpr c12;obtain⟨ji15,hji15⟩:∃ j_:Int,(wrap64 (x8_1+1))=j_:=⟨_,rfl⟩
       replace H:(if 0<=(ji15)then(if (ji15)<(t243.length:Int)then(if x9_1<((zD t243 (ji15)).length:Int)then(if x8_1<(t243.length:Int)then(if 0<=(wrap64 (x9_1+1))then(if (wrap64 (x9_1+1))<((zD t243 x8_1).length:Int)then(if (rd (zD t243 (ji15)) x9_1)≥(rd (zD t243 x8_1) (wrap64 (x9_1+1)))then(qo.l0 kj4 l0 l1 t243 x7_1 ji15 x9_1)else(qo.l0 kj4 l0 l1 t243 x7_1 x8_1 (wrap64 (x9_1+1))))else(none))else(none))else(none))else(none))else(none))else(none))=some (r1,r2):=by first|(rw[hji15]at H;exact H)|(simp only[hji15]at H ⊢;exact H)
       have hji15w:(IntKind.i64.wrap (x8_1+1))=ji15:=(zp _).trans hji15;replace H:=ifSome H;obtain⟨c16,H⟩:=H;have c16b0:decide (0<=(ji15))=true:=Qm c16;clear c16;replace H:=ifSome H;obtain⟨c17,H⟩:=H;have c17b0:decide ((ji15)<(t243.length:Int))=true:=Qm c17;clear c17;replace H:=ifSome H;obtain⟨c18,H⟩:=H;have c18b0:decide (x9_1<((zD t243 (ji15)).length:Int))=true:=Qm c18;clear c18;replace H:=ifSome H;obtain⟨c19,H⟩:=H;have c19b0:decide (x8_1<(t243.length:Int))=true:=Qm c19;clear c19;obtain⟨ji20,hji20⟩:∃ j_:Int,(wrap64 (x9_1+1))=j_:=⟨_,rfl⟩
       replace H:(if 0<=(ji20)then(if (ji20)<((zD t243 x8_1).length:Int)then(if (rd (zD t243 (ji15)) x9_1)≥(rd (zD t243 x8_1) (ji20))then(qo.l0 kj4 l0 l1 t243 x7_1 ji15 x9_1)else(qo.l0 kj4 l0 l1 t243 x7_1 x8_1 ji20))else(none))else(none))=some (r1,r2):=by first|(rw[hji20]at H;exact H)|(simp only[hji20]at H ⊢;exact H)
       have hji20w:(IntKind.i64.wrap (x9_1+1))=ji20:=(zp _).trans hji20;replace H:=ifSome H;obtain⟨c21,H⟩:=H;have c21b0:decide (0<=(ji20))=true:=Qm c21;clear c21;replace H:=ifSome H;obtain⟨c22,H⟩:=H;have c22b0:decide ((ji20)<((zD t243 x8_1).length:Int))=true:=Qm c22;clear c22;by_cases c23:(rd (zD t243 (ji15)) x9_1)≥(rd (zD t243 x8_1) (ji20))
       ·rw[if_pos c23]at H;have c23b0:decide ((rd (zD t243 x8_1) (ji20))<=(rd (zD t243 (ji15)) x9_1))=true:=Qm c23;clear c23;have H':=Qk H;clear H;have p246:0<=(x8_1:Int):=Ql (by assumption);have q246:x8_1<(l0.length:Int):=Ql (by assumption);obtain⟨ad246,e246,hx246_0⟩:=Kd.at_int HR0.out x8_1 p246 q246
        cases e246;replace hx246_0:=(HB.out.cell (Qq w _ hx246_0)).trans hx246_0;replace p246:=Qr p246;replace q246:=Qr q246;have p247:0<=(x9_1:Int):=Ql (by assumption);have q247:x9_1<(l1.length:Int):=Ql (by assumption);obtain⟨ad247,e247,hx247_0⟩:=Kd.at_int HR1.out x9_1 p247 q247
        cases e247;replace hx247_0:=(HB.out.cell (Qq w _ hx247_0)).trans hx247_0;replace p247:=Qr p247;replace q247:=Qr q247;obtain⟨Ao24,co24,eo24⟩:=Kd.S_slice HO_6.out;subst eo24;have p251:0<=((ji15):Int):=Ql (by assumption);have q251:(ji15)<(t243.length:Int):=Ql (by assumption);try(obtain⟨Ap251,cp251,ep251⟩:=Kd.S_slice HO_6.out;subst ep251)
        obtain⟨ad251,A251_0,c251_0,e251,hx251_0,hl251_0,hi251_0⟩:=Qj (Kd.S_reads' HO_6.out).2.2 (ji15) p251 q251
        cases e251;obtain⟨ce251,hce251,hMe251,hcc251⟩:=Kd.S_get HO_6.out [] (ji15) p251 (by first|exact q251|exact Ql (by assumption)|(have e_:=(Kd.S_reads' HO_6.out).1;omega));obtain⟨ve251_0,rfl,ge251_0⟩:=hMe251;have hv251_0:=hcc251 0 _ rfl;rw[Nat.add_zero,show ((Kd.slice 3 (Kd.int .i64))).sz=1 from rfl,Nat.mul_one]at hv251_0
        replace hv251_0:=Qp (hv251_0.symm.trans hx251_0);rw[hv251_0]at ge251_0;have HL251_0:=Qk (show Kd.R (Kd.int .i64) 3 _ _ _ _ (zD t243 (ji15))from ge251_0);clear hv251_0 ge251_0;clear hcc251 hce251;have HR251_0:=Qk hi251_0;have HC251_0:=Qk hl251_0;clear hi251_0 hl251_0;replace p251:=Qr p251;replace q251:=Qr q251;have p252:0<=(x9_1:Int):=Ql (by assumption);have q252:x9_1<((zD t243 (ji15)).length:Int):=Ql (by assumption);obtain⟨ad252,e252,hx252_0⟩:=Kd.at_int (by repeat(first|(with_reducible exact HR251_0.out)|(with_reducible refine Kd.C_alloc ?_ _)|(with_reducible refine Kd.C_drewN ?_ _)|(with_reducible refine Kd.C_drew ?_)|exact HR251_0.out)) x9_1 p252 q252
        cases e252;replace p252:=Qr p252;replace q252:=Qr q252;have p253:0<=(x8_1:Int):=Ql (by assumption);have q253:x8_1<(t243.length:Int):=Ql (by assumption);try(obtain⟨Ap253,cp253,ep253⟩:=Kd.S_slice HO_6.out;subst ep253)
        obtain⟨ad253,A253_0,c253_0,e253,hx253_0,hl253_0,hi253_0⟩:=Qj (Kd.S_reads' HO_6.out).2.2 x8_1 p253 q253;obtain rfl:ad251=ad253:=(by injection e253);obtain⟨ce253,hce253,hMe253,hcc253⟩:=Kd.S_get HO_6.out [] x8_1 p253 (by first|exact q253|exact Ql (by assumption)|(have e_:=(Kd.S_reads' HO_6.out).1;omega));obtain⟨ve253_0,rfl,ge253_0⟩:=hMe253;have hv253_0:=hcc253 0 _ rfl;rw[Nat.add_zero,show ((Kd.slice 3 (Kd.int .i64))).sz=1 from rfl,Nat.mul_one]at hv253_0
        replace hv253_0:=Qp (hv253_0.symm.trans hx253_0);rw[hv253_0]at ge253_0;have HL253_0:=Qk (show Kd.R (Kd.int .i64) 3 _ _ _ _ (zD t243 x8_1)from ge253_0);clear hv253_0 ge253_0;clear hcc253 hce253;have HR253_0:=Qk hi253_0;have HC253_0:=Qk hl253_0;clear hi253_0 hl253_0;replace p253:=Qr p253;replace q253:=Qr q253;have p254:0<=((ji20):Int):=Ql (by assumption);have q254:(ji20)<((zD t243 x8_1).length:Int):=Ql (by assumption);obtain⟨ad254,e254,hx254_0⟩:=Kd.at_int (by repeat(first|(with_reducible exact HR253_0.out)|(with_reducible refine Kd.C_alloc ?_ _)|(with_reducible refine Kd.C_drewN ?_ _)|(with_reducible refine Kd.C_drew ?_)|exact HR253_0.out)) (ji20) p254 q254
        cases e254;replace p254:=Qr p254;replace q254:=Qr q254;go_wp2;repeat(go_quiet (fail);try go_wp2)
        go_roundg kj4
        case measure=>have:=HK1.out;have:=HJ4.out;omega
        case rel=>exact⟨(x7_1),(ji15),(x9_1),(by first|rfl|(simp;done)|(simp only[← hji15] <;> (first|rfl|simp))|(simp[*];done)),rfl,H',⟨by have:=HK1.out;have:=HJ4.out;omega⟩,⟨by(with_reducible repeat(first|apply Kd.S_alloc|apply Kd.S_drewN|apply Kd.S_drew));exact HO_6.out⟩,⟨by(with_reducible repeat(first|apply Kd.R_alloc|apply Kd.R_drewN|apply Kd.R_drew));exact HO_7.out⟩,⟨by repeat(first|(with_reducible first|exact HB.out|apply za|apply zb|apply zg)|exact HB.out)⟩⟩
       ·rw[if_neg c23]at H;have c23b0:decide ((rd (zD t243 x8_1) (ji20))<=(rd (zD t243 (ji15)) x9_1))=false:=Qn c23;clear c23;have H':=Qk H;clear H;have p246:0<=(x8_1:Int):=Ql (by assumption);have q246:x8_1<(l0.length:Int):=Ql (by assumption);obtain⟨ad246,e246,hx246_0⟩:=Kd.at_int HR0.out x8_1 p246 q246
        cases e246;replace hx246_0:=(HB.out.cell (Qq w _ hx246_0)).trans hx246_0;replace p246:=Qr p246;replace q246:=Qr q246;have p247:0<=(x9_1:Int):=Ql (by assumption);have q247:x9_1<(l1.length:Int):=Ql (by assumption);obtain⟨ad247,e247,hx247_0⟩:=Kd.at_int HR1.out x9_1 p247 q247
        cases e247;replace hx247_0:=(HB.out.cell (Qq w _ hx247_0)).trans hx247_0;replace p247:=Qr p247;replace q247:=Qr q247;obtain⟨Ao25,co25,eo25⟩:=Kd.S_slice HO_6.out;subst eo25;have p251:0<=((ji15):Int):=Ql (by assumption);have q251:(ji15)<(t243.length:Int):=Ql (by assumption);try(obtain⟨Ap251,cp251,ep251⟩:=Kd.S_slice HO_6.out;subst ep251)
        obtain⟨ad251,A251_0,c251_0,e251,hx251_0,hl251_0,hi251_0⟩:=Qj (Kd.S_reads' HO_6.out).2.2 (ji15) p251 q251
        cases e251;obtain⟨ce251,hce251,hMe251,hcc251⟩:=Kd.S_get HO_6.out [] (ji15) p251 (by first|exact q251|exact Ql (by assumption)|(have e_:=(Kd.S_reads' HO_6.out).1;omega));obtain⟨ve251_0,rfl,ge251_0⟩:=hMe251;have hv251_0:=hcc251 0 _ rfl;rw[Nat.add_zero,show ((Kd.slice 3 (Kd.int .i64))).sz=1 from rfl,Nat.mul_one]at hv251_0
        replace hv251_0:=Qp (hv251_0.symm.trans hx251_0);rw[hv251_0]at ge251_0;have HL251_0:=Qk (show Kd.R (Kd.int .i64) 3 _ _ _ _ (zD t243 (ji15))from ge251_0);clear hv251_0 ge251_0;clear hcc251 hce251;have HR251_0:=Qk hi251_0;have HC251_0:=Qk hl251_0;clear hi251_0 hl251_0;replace p251:=Qr p251;replace q251:=Qr q251;have p252:0<=(x9_1:Int):=Ql (by assumption);have q252:x9_1<((zD t243 (ji15)).length:Int):=Ql (by assumption);obtain⟨ad252,e252,hx252_0⟩:=Kd.at_int (by repeat(first|(with_reducible exact HR251_0.out)|(with_reducible refine Kd.C_alloc ?_ _)|(with_reducible refine Kd.C_drewN ?_ _)|(with_reducible refine Kd.C_drew ?_)|exact HR251_0.out)) x9_1 p252 q252
        cases e252;replace p252:=Qr p252;replace q252:=Qr q252;have p253:0<=(x8_1:Int):=Ql (by assumption);have q253:x8_1<(t243.length:Int):=Ql (by assumption);try(obtain⟨Ap253,cp253,ep253⟩:=Kd.S_slice HO_6.out;subst ep253)
        obtain⟨ad253,A253_0,c253_0,e253,hx253_0,hl253_0,hi253_0⟩:=Qj (Kd.S_reads' HO_6.out).2.2 x8_1 p253 q253;obtain rfl:ad251=ad253:=(by injection e253);obtain⟨ce253,hce253,hMe253,hcc253⟩:=Kd.S_get HO_6.out [] x8_1 p253 (by first|exact q253|exact Ql (by assumption)|(have e_:=(Kd.S_reads' HO_6.out).1;omega));obtain⟨ve253_0,rfl,ge253_0⟩:=hMe253;have hv253_0:=hcc253 0 _ rfl;rw[Nat.add_zero,show ((Kd.slice 3 (Kd.int .i64))).sz=1 from rfl,Nat.mul_one]at hv253_0
        replace hv253_0:=Qp (hv253_0.symm.trans hx253_0);rw[hv253_0]at ge253_0;have HL253_0:=Qk (show Kd.R (Kd.int .i64) 3 _ _ _ _ (zD t243 x8_1)from ge253_0);clear hv253_0 ge253_0;clear hcc253 hce253;have HR253_0:=Qk hi253_0;have HC253_0:=Qk hl253_0;clear hi253_0 hl253_0;replace p253:=Qr p253;replace q253:=Qr q253;have p254:0<=((ji20):Int):=Ql (by assumption);have q254:(ji20)<((zD t243 x8_1).length:Int):=Ql (by assumption);obtain⟨ad254,e254,hx254_0⟩:=Kd.at_int (by repeat(first|(with_reducible exact HR253_0.out)|(with_reducible refine Kd.C_alloc ?_ _)|(with_reducible refine Kd.C_drewN ?_ _)|(with_reducible refine Kd.C_drew ?_)|exact HR253_0.out)) (ji20) p254 q254
        cases e254;replace p254:=Qr p254;replace q254:=Qr q254;go_wp2;repeat(go_quiet (fail);try go_wp2)
        go_roundg kj4
        case measure=>have:=HK1.out;have:=HJ4.out;omega
        case rel=>exact⟨(x7_1),(x8_1),(ji20),rfl,(by first|rfl|(simp;done)|(simp only[← hji20] <;> (first|rfl|simp))|(simp[*];done)),H',⟨by have:=HK1.out;have:=HJ4.out;omega⟩,⟨by(with_reducible repeat(first|apply Kd.S_alloc|apply Kd.S_drewN|apply Kd.S_drew));exact HO_6.out⟩,⟨by(with_reducible repeat(first|apply Kd.R_alloc|apply Kd.R_drewN|apply Kd.R_drew));exact HO_7.out⟩,⟨by repeat(first|(with_reducible first|exact HB.out|apply za|apply zb|apply zg)|exact HB.out)⟩⟩
     ·replace c7:=Bool.eq_false_iff.mpr c7;subst c7;have H1:(some (x7_1,wrap64 ((l0.length:Int)*(l1.length:Int))))=some (r1,r2):=by rw[if_neg (show ¬ (false=true) by decide)]at H;exact H
      clear H;have H:=H1;clear H1;simp only[Option.some.injEq,Prod.mk.injEq]at H;obtain⟨rfl,rfl⟩:=H;go_wp2;go_ret2;exact⟨_,rfl,by(with_reducible repeat(first|apply Kd.R_alloc|apply Kd.R_drewN|apply Kd.R_drew));exact HO_7.out,HB.out⟩
mutual
def zZ.l0:Nat->List Int->List Int->List Int->Int->Option (Int)
 |0,_,_,_,_=>none
 |k+1,x0,x1,x5,x6=>if x6≥0 then(zZ.l1 k x0 x1 x5 x6 0 (wrap64 ((x1.length:Int)-1)))else(if 0<(x5.length:Int)then(some (rd x5 0))else(none))
def zZ.l1:Nat->List Int->List Int->List Int->Int->Int->Int->Option (Int)
 |0,_,_,_,_,_,_=>none
 |k+1,x0,x1,x5,x6,x7,x8=>if x8≥0 then(if 0<=x8 then(if x8<(x5.length:Int)then(if 0<=x6 then(if x6<(x0.length:Int)then(if x8<(x1.length:Int)then(if (rd x0 x6)=(rd x1 x8)then(zZ.l1 k x0 x1 (x5.set (x8:Int).toNat (wrap64 (x7+1))) x6 (rd x5 x8) (wrap64 (x8-1)))else(if 0<=(wrap64 (x8+1))then(if (wrap64 (x8+1))<(x5.length:Int)then(zZ.l1 k x0 x1 (x5.set (x8:Int).toNat (mx (rd x5 x8) (rd x5 (wrap64 (x8+1))))) x6 (rd x5 x8) (wrap64 (x8-1)))else(none))else(none)))else(none))else(none))else(none))else(none))else(none))else(zZ.l0 k x0 x1 x5 (wrap64 (x6-1)))
end
def zZ.f(k:Nat)(l0:List Int)(l1:List Int):Option (Int):=if 0<=(wrap64 ((l1.length:Int)+1))then(if (wrap64 ((l1.length:Int)+1):Int).toNat<=35184372088832 then(zZ.l0 k l0 l1 (List.replicate (wrap64 ((l1.length:Int)+1):Int).toNat 0) (wrap64 ((l0.length:Int)-1)))else(none))else(none)
def zZ.T10:Bool×List (List Nat×List Nat):=(true,[([],[]),([],[]),([0,1],[0,1]),([2],[2]),([],[]),([],[]),([4,5],[4,5]),([6],[6]),([3,7],[3,7])])
def zZ.B10:List Nat:=[0,0,3,7,0,0,48,112,255]
theorem zZ.tab10:rtab .any (opsOf Tryz.f78 10)=zZ.T10:=by kernel_rfl
theorem zZ.bits10:Zq zZ.T10.2 zZ.B10=true:=by kernel_rfl
def zZ.T12:Bool×List (List Nat×List Nat):=(true,[([],[]),([],[]),([],[]),([],[]),([2,3],[2,3]),([4],[4]),([],[]),([],[]),([7],[7]),([6,8],[6,8]),([9],[9]),([5,10],[5,10]),([0,1,0,1,2,3,4,5,6,7,8,9,10,11],[0,1]),([12,11,0,1,2,3,4,5,6,7,8,9,10,11],[11,12])])
def zZ.B12:List Nat:=[0,0,0,0,12,28,0,0,128,448,960,2044,4095,8191]
theorem zZ.tab12:rtab .any (opsOf Tryz.f78 12)=zZ.T12:=by kernel_rfl
theorem zZ.bits12:Zq zZ.T12.2 zZ.B12=true:=by kernel_rfl
theorem zZ.calls(k:Nat)(A0:Option Addr)(c0:Nat)(l0:List Int)(A1:Option Addr)(c1:Nat)(l1:List Int)(r:Int)(w:World)(hr0:Kd.C (Kd.int .i64) w A0 l0.length l0)(hc0:l0.length<=c0)(hr1:Kd.C (Kd.int .i64) w A1 l1.length l1)(hc1:l1.length<=c1)(h:zZ.f k l0 l1=some r) :
 Calls Tryz.prog 78 #[.slice A0 l0.length c0,.slice A1 l1.length c1] w fun e w'=>e=.returned (.int .i64 r)/\Below w.heap.size w w':=by
 have HR0:=Qk hr0;have HC0:=Qk hc0;clear hr0 hc0;have HR1:=Qk hr1;have HC1:=Qk hc1;clear hr1 hc1;have HB:=Qk (Below.refl w.heap.size w);have H:(if 0<=(wrap64 ((l1.length:Int)+1))then(if (wrap64 ((l1.length:Int)+1):Int).toNat<=35184372088832 then(zZ.l0 k l0 l1 (List.replicate (wrap64 ((l1.length:Int)+1):Int).toNat 0) (wrap64 ((l0.length:Int)-1)))else(none))else(none))=some r:=h;clear h;obtain⟨ji3,hji3⟩:∃ j_:Int,(wrap64 ((l1.length:Int)+1))=j_:=⟨_,rfl⟩
 replace H:(if 0<=(ji3)then(if (ji3:Int).toNat<=35184372088832 then(zZ.l0 k l0 l1 (List.replicate (ji3:Int).toNat 0) (wrap64 ((l0.length:Int)-1)))else(none))else(none))=some r:=by first|(rw[hji3]at H;exact H)|(simp only[hji3]at H ⊢;exact H)
 have hji3w:(IntKind.i64.wrap ((l1.length:Int)+1))=ji3:=(zp _).trans hji3;replace H:=ifSome H;obtain⟨c4,H⟩:=H;have c4b0:=Qr c4;have c4b1:decide (0<=(ji3))=true:=Qm c4;clear c4;replace H:=ifSome H;obtain⟨c5,H⟩:=H;have c5b0:=Qr c5;have c5b1:decide ((ji3:Int).toNat<=35184372088832)=true:=Qm c5;clear c5;obtain⟨y627,hy627⟩:∃ y_:List Int,y_=(List.replicate (ji3:Int).toNat 0):=⟨_,rfl⟩
 replace H:(zZ.l0 k l0 l1 y627 (wrap64 ((l0.length:Int)-1)))=some r:=by first|(rw[hy627];with_reducible exact H)|(have H2_:=(Option.bind_some _ _).symm.trans H;rw[hy627];with_reducible exact H2_)|(have H2_:=(Option.bind_some _ _).symm.trans H;with_reducible exact H2_)|with_reducible exact H|(rw[hy627];exact H)|exact H
 have Ny627:=Qk hy627;clear hy627;have H':=Qk H;clear H;go_enter Tryz.func78,Tryz.ntmps78;go_wp2_with (first|((with_reducible refine qf (N:=13) rfl ?_);refine Kd.R_make (Kd.int .i64) _ 3 rfl (N:=13) rfl 25 _ _ rfl ji3 rfl rfl Tryz.underlying25 (.int .i64 0) 8 info3 rfl (by decide) (by omega) 0 (ok:=fun _=>True) (okp:=fun _=>True) rfl (fun _ hk=>hk) trivial (Ql (by assumption)) (Nat.le_trans (Nat.mul_le_mul_right _ (Ql (by assumption):ji3.toNat<=35184372088832)) (by omega)) (Below.refl _ _) (Nat.le_refl _) ?_;intro v628 w6 ho7 hb hg_ hnew_;(first|rw[← Ny627.out]at ho7|(simp only[Int.reduceToNat]at ho7;rw[← Ny627.out]at ho7));have HO629:=Qk (Kd.R_lower ho7 (ze HB.out));replace HB:=Qk (zi HB.out hb)))
 go_loopg [6] k (fun kq v6 w'=>∃ (x5_1:List Int) (x6_1:Int),v6=.int .i64 x6_1/\Aside0 (zZ.l0 kq l0 l1 x5_1 x6_1=some r)/\Aside0 (kq<=k)/\Aside0 (Kd.R (Kd.int .i64) 3 w' w.heap.size (fun _=>True) v628 x5_1)/\Aside0 (Below w.heap.size w w'))
 case atStart=>exact⟨(y627),(wrap64 ((l0.length:Int)-1)),rfl,H',⟨Nat.le_refl _⟩,⟨HO629.out⟩,⟨HB.out⟩⟩
 case round =>
  clear H';obtain⟨x5_1,x6_1,rfl,HA,HK1,HO_5,HB⟩:=hrel
  cases gk with
  |zero=>exact absurd HA.out (by simp[zZ.l0])
  |succ k1 =>
   have H:=HA.out;clear HA;simp only[zZ.l0]at H;by_cases c8:x6_1≥0
   ·rw[if_pos c8]at H;have c8b0:decide (0<=x6_1)=true:=Qm c8;clear c8;have H':=Qk H;clear H;go_wp2;go_loopg [7,8] k1 (fun kq v7 v8 w'=>∃ (x5_2:List Int) (x7_2:Int) (x8_2:Int),v7=.int .i64 x7_2/\v8=.int .i64 x8_2/\Aside0 (zZ.l1 kq l0 l1 x5_2 x6_1 x7_2 x8_2=some r)/\Aside0 (kq<=k1)/\Aside0 (Kd.R (Kd.int .i64) 3 w' w.heap.size (fun _=>True) v628 x5_2)/\Aside0 (Below w.heap.size w w'))
    case atStart=>exact⟨(x5_1),(0),(wrap64 ((l1.length:Int)-1)),rfl,rfl,H',⟨Nat.le_refl _⟩,⟨HO_5.out⟩,⟨HB.out⟩⟩
    case round =>
     clear H';obtain⟨x5_2,x7_2,x8_2,rfl,rfl,HA,HK2,HO_5,HB⟩:=hrel
     cases gk with
     |zero=>exact absurd HA.out (by simp[zZ.l1])
     |succ k2 =>
      have H:=HA.out;clear HA;simp only[zZ.l1]at H;by_cases c9:x8_2≥0
      ·rw[if_pos c9]at H;have c9b0:decide (0<=x8_2)=true:=Qm c9;clear c9;replace H:=ifSome H;obtain⟨c10,H⟩:=H;have c10b0:decide (0<=x8_2)=true:=Qm c10;clear c10;replace H:=ifSome H;obtain⟨c11,H⟩:=H;have c11b0:decide (x8_2<(x5_2.length:Int))=true:=Qm c11;clear c11;replace H:=ifSome H;obtain⟨c12,H⟩:=H;have c12b0:decide (0<=x6_1)=true:=Qm c12;clear c12;replace H:=ifSome H;obtain⟨c13,H⟩:=H;have c13b0:decide (x6_1<(l0.length:Int))=true:=Qm c13;clear c13;replace H:=ifSome H;obtain⟨c14,H⟩:=H;have c14b0:decide (x8_2<(l1.length:Int))=true:=Qm c14;clear c14;by_cases c15:(rd l0 x6_1)=(rd l1 x8_2)
       ·rw[if_pos c15]at H;have c15b0:((rd l0 x6_1) == (rd l1 x8_2))=true:=beq_iff_eq.mpr c15;have c15b1:((rd l0 x6_1) != (rd l1 x8_2))=false:=bne_eq_false_iff_eq.mpr c15;clear c15;obtain⟨y634,hy634⟩:∃ y_:List Int,y_=(x5_2.set (x8_2:Int).toNat (wrap64 (x7_2+1))):=⟨_,rfl⟩
        replace H:(zZ.l1 k2 l0 l1 y634 x6_1 (rd x5_2 x8_2) (wrap64 (x8_2-1)))=some r:=by first|(rw[hy634];with_reducible exact H)|(have H2_:=(Option.bind_some _ _).symm.trans H;rw[hy634];with_reducible exact H2_)|(have H2_:=(Option.bind_some _ _).symm.trans H;with_reducible exact H2_)|with_reducible exact H|(rw[hy634];exact H)|exact H
        have Ny634:=Qk hy634;clear hy634;have H':=Qk H;clear H;obtain⟨Ao17,co17,eo17⟩:=Kd.R_slice HO_5.out;subst eo17;have p631:0<=(x8_2:Int):=Ql (by assumption);have q631:x8_2<(x5_2.length:Int):=Ql (by assumption);obtain⟨ad631,e631,hx631_0⟩:=Kd.at_int (Kd.R_reads' HO_5.out).2.2 x8_2 p631 q631
        cases e631;replace p631:=Qr p631;replace q631:=Qr q631;try go_wp2
        have n0_:=Qk (Kd.R_drew HO_5.out);have n1_:=Qk (zg HB.out);clear HO_5;clear HB;have HO_5:=n0_;have HB:=n1_;clear n0_ n1_;have p632:0<=(x6_1:Int):=Ql (by assumption);have q632:x6_1<(l0.length:Int):=Ql (by assumption);obtain⟨ad632,e632,hx632_0⟩:=Kd.at_int HR0.out x6_1 p632 q632;have hw632_0:=hx632_0
        cases e632;replace hx632_0:=(HB.out.cell (Qq w _ hx632_0)).trans hx632_0;replace p632:=Qr p632;replace q632:=Qr q632;have p633:0<=(x8_2:Int):=Ql (by assumption);have q633:x8_2<(l1.length:Int):=Ql (by assumption);obtain⟨ad633,e633,hx633_0⟩:=Kd.at_int HR1.out x8_2 p633 q633;have hw633_0:=hx633_0
        cases e633;replace hx633_0:=(HB.out.cell (Qq w _ hx633_0)).trans hx633_0;replace p633:=Qr p633;replace q633:=Qr q633;refine ZG (n:=9) (S:=fun w'=>w'.cell? (ad632.add (x6_1).toNat)=some (.int .i64 (rd l0 x6_1))/\w'.cell? (ad633.add (x8_2).toNat)=some (.int .i64 (rd l1 x8_2))) (ds:=[]) #[N,N,N,N,N,N,N,N,N] (by kernel_rfl) rfl rfl ⟨((HB.out.cell (Qq w _ hw632_0)).trans hw632_0),((HB.out.cell (Qq w _ hw633_0)).trans hw633_0)⟩ (fun hHeld=>?_);refine qR zZ.tab10 zZ.bits10 (fun HT_ HW_=>?_);generalize wr.drew=w18 at HO_5 HB hx632_0 hx633_0 hHeld ⊢;refine zG (i:=0) (N:=some 32) (v:=?_) (a':=?_) #[Y,N,N,N,N,N,N,N,N] rfl rfl (zu HT_.out (by kernel_rfl)) (fun _ _ _ h=>h) (Or.inl ⟨by rfl,?_⟩) ?_ ?_;rotate_left
        ·intro w';go_simp;with_reducible rfl
        rotate_left
        ·simp only[Act.put,sA,sB,sC,zp,zw];rfl
        refine zG (i:=1) (N:=some 33) (v:=?_) (a':=?_) #[Y,Y,N,N,N,N,N,N,N] rfl rfl (zu HT_.out (by kernel_rfl)) (fun _ _ _ h=>h) (Or.inl ⟨by rfl,?_⟩) ?_ ?_;rotate_left
        ·intro w';go_simp;with_reducible rfl
        rotate_left
        ·simp only[Act.put,sA,sB,sC,zp,zw];rfl
        refine zG (i:=2) (N:=some 34) (v:=?_) (a':=?_) #[Y,Y,Y,N,N,N,N,N,N] rfl rfl (zu HT_.out (by kernel_rfl)) (fun _ _ _ h=>h) (Or.inl ⟨by rfl,?_⟩) ?_ ?_;rotate_left
        ·intro w';go_simp;with_reducible rfl
        rotate_left
        ·simp only[Act.put,sA,sB,sC,zp,zw];rfl
        refine zG (i:=4) (N:=some 36) (v:=?_) (a':=?_) #[Y,Y,Y,N,Y,N,N,N,N] rfl rfl (zu HT_.out (by kernel_rfl)) (fun _ _ _ h=>h) (Or.inl ⟨by rfl,?_⟩) ?_ ?_;rotate_left
        ·intro w';go_simp;with_reducible rfl
        rotate_left
        ·simp only[Act.put,sA,sB,sC,zp,zw];rfl
        refine zG (i:=5) (N:=some 37) (v:=?_) (a':=?_) #[Y,Y,Y,N,Y,Y,N,N,N] rfl rfl (zu HT_.out (by kernel_rfl)) (fun _ _ _ h=>h) (Or.inl ⟨by rfl,?_⟩) ?_ ?_;rotate_left
        ·intro w';go_simp;with_reducible rfl
        rotate_left
        ·simp only[Act.put,sA,sB,sC,zp,zw];rfl
        refine zG (i:=6) (N:=some 38) (v:=?_) (a':=?_) #[Y,Y,Y,N,Y,Y,Y,N,N] rfl rfl (zu HT_.out (by kernel_rfl)) (fun _ _ _ h=>h) (Or.inl ⟨by rfl,?_⟩) ?_ ?_;rotate_left
        ·intro w';go_simp;with_reducible rfl
        rotate_left
        ·simp only[Act.put,sA,sB,sC,zp,zw];rfl
        refine take_ (i:=3) (N:=some 35) (v:=?_) (a':=?_) #[Y,Y,Y,Y,Y,Y,Y,N,N] rfl rfl (qe HT_.out HW_.out (by kernel_rfl)) (fun _ _ _ h=>h) (Or.inl ⟨by rfl,?_⟩) hHeld ?_ ?_;rotate_left
        ·rintro w' ⟨s0,s1⟩;go_simp;with_reducible rfl
        rotate_left
        ·simp only[Act.put,sA,sB,sC,zp,zw];rfl
        refine take_ (i:=7) (N:=some 39) (v:=?_) (a':=?_) #[Y,Y,Y,Y,Y,Y,Y,Y,N] rfl rfl (qe HT_.out HW_.out (by kernel_rfl)) (fun _ _ _ h=>h) (Or.inl ⟨by rfl,?_⟩) hHeld ?_ ?_;rotate_left
        ·rintro w' ⟨s0,s1⟩;go_simp;with_reducible rfl
        rotate_left
        ·simp only[Act.put,sA,sB,sC,zp,zw];rfl
        refine zG (i:=8) (N:=some 40) (v:=?_) (a':=?_) #[Y,Y,Y,Y,Y,Y,Y,Y,Y] rfl rfl (zu HT_.out (by kernel_rfl)) (fun _ _ _ h=>h) (Or.inl ⟨by rfl,?_⟩) ?_ ?_;rotate_left
        ·intro w';go_simp;with_reducible rfl
        rotate_left
        ·simp only[Act.put,sA,sB,sC,zp,zw];rfl
        refine done_ (Zr HT_.out (by kernel_rfl)) ?_;have p16:0<=(x8_2:Int):=Ql (by assumption);have q16:(x8_2:Int)<((x5_2.length:Int):Int):=Ql (by assumption);obtain⟨go16,co16,eo16,gb16,gl16,cl16,HG16⟩:=Kd.R_form HO_5.out (by omega);(first|cases eo16|(injection eo16 with ea_ en_ ec_;(first|subst ea_|(injection ea_ with ea_;subst ea_));subst ec_;clear en_));have GB16:=Qk gb16;have GG16:=Qk HG16;clear gb16 gl16 HG16;(first|simp only[qy]at hx631_0|skip);obtain⟨hx16_0,hf16_0⟩:=Kd.R_celln 0 HO_5.out (x8_2:Int) p16 q16;replace p16:=Qr p16;replace q16:=Qr q16;obtain⟨hy19_,hz19_⟩:=Kd.R_celln 0 HO_5.out (x8_2:Int) (Ql (by assumption)) (Ql (by assumption));have HP19:=Kd.R_putg HO_5.out (x8_2:Int) (wrap64 (x7_2+1));try go_wp2_with (first|((with_reducible refine gate_store (t:=3) (p:=45) rfl ?_);refine store_event (t:=3) (p:=45) (v:=?vo_w20) (w1:=(w18.setCell ⟨go16,(x8_2:Int).toNat,none⟩ (.int .i64 (wrap64 (x7_2+1))))) ?hg ?ho ?hn ?hr ?_;(case ho=>rfl);(case hg=>rfl);(case hn=>rfl);(case hr=>first|(go_simp;done)|(go_simp;rfl));intro w20 hw;have hg:w18.grownBy w20 (some go16):=(by rw[hw];exact HP19.2);have hp_:Kd.R (Kd.int .i64) 3 w20 w.heap.size (fun _=>True) (.slice (some ⟨go16,0,none⟩) x5_2.length co17) y634:=(by rw[hw,Ny634.out];exact HP19.1);clear HP19;replace HO_5:=Qk (hp_);replace HB:=Qk ((by rw[hw];exact zr (HB.out) GB16.out:Below w.heap.size w w20));(try clear hg);(try clear hw);(try clear hp_)))
        go_roundg k2
        case measure=>have:=HK1.out;have:=HK2.out;omega
        case rel=>exact⟨(y634),(rd x5_2 x8_2),(wrap64 (x8_2-1)),(by first|rfl|(simp;done)|(simp[*];done)),(by first|rfl|(simp;done)|(simp[*];done)),H',⟨by have:=HK1.out;have:=HK2.out;omega⟩,⟨HO_5.out⟩,⟨HB.out⟩⟩
       ·rw[if_neg c15]at H;have c15b0:((rd l0 x6_1) == (rd l1 x8_2))=false:=beq_eq_false_iff_ne.mpr c15;have c15b1:((rd l0 x6_1) != (rd l1 x8_2))=true:=bne_iff_ne.mpr c15;obtain⟨ji21,hji21⟩:∃ j_:Int,(wrap64 (x8_2+1))=j_:=⟨_,rfl⟩
        replace H:(if 0<=(ji21)then(if (ji21)<(x5_2.length:Int)then(zZ.l1 k2 l0 l1 (x5_2.set (x8_2:Int).toNat (mx (rd x5_2 x8_2) (rd x5_2 (ji21)))) x6_1 (rd x5_2 x8_2) (wrap64 (x8_2-1)))else(none))else(none))=some r:=by first|(rw[hji21]at H;exact H)|(simp only[hji21]at H ⊢;exact H)
        have hji21w:(IntKind.i64.wrap (x8_2+1))=ji21:=(zp _).trans hji21;replace H:=ifSome H;obtain⟨c22,H⟩:=H;have c22b0:decide (0<=(ji21))=true:=Qm c22;clear c22;replace H:=ifSome H;obtain⟨c23,H⟩:=H;have c23b0:decide ((ji21)<(x5_2.length:Int))=true:=Qm c23;clear c23;obtain⟨ji24,hji24⟩:∃ j_:Int,(mx (rd x5_2 x8_2) (rd x5_2 (ji21)))=j_:=⟨_,rfl⟩
        replace H:(zZ.l1 k2 l0 l1 (x5_2.set (x8_2:Int).toNat (ji24)) x6_1 (rd x5_2 x8_2) (wrap64 (x8_2-1)))=some r:=by first|(rw[hji24]at H;exact H)|(simp only[hji24]at H ⊢;exact H)
        have hji24_:(if (rd x5_2 x8_2)<(rd x5_2 (ji21))then(rd x5_2 (ji21))else(rd x5_2 x8_2))=ji24:=hji24;obtain⟨y637,hy637⟩:∃ y_:List Int,y_=(x5_2.set (x8_2:Int).toNat (ji24)):=⟨_,rfl⟩
        replace H:(zZ.l1 k2 l0 l1 y637 x6_1 (rd x5_2 x8_2) (wrap64 (x8_2-1)))=some r:=by first|(rw[hy637];with_reducible exact H)|(have H2_:=(Option.bind_some _ _).symm.trans H;rw[hy637];with_reducible exact H2_)|(have H2_:=(Option.bind_some _ _).symm.trans H;with_reducible exact H2_)|with_reducible exact H|(rw[hy637];exact H)|exact H
        have Ny637:=Qk hy637;clear hy637;have H':=Qk H;clear H;obtain⟨Ao26,co26,eo26⟩:=Kd.R_slice HO_5.out;subst eo26;have p631:0<=(x8_2:Int):=Ql (by assumption);have q631:x8_2<(x5_2.length:Int):=Ql (by assumption);obtain⟨ad631,e631,hx631_0⟩:=Kd.at_int (Kd.R_reads' HO_5.out).2.2 x8_2 p631 q631
        cases e631;replace p631:=Qr p631;replace q631:=Qr q631;try go_wp2
        have n0_:=Qk (Kd.R_drew HO_5.out);have n1_:=Qk (zg HB.out);clear HO_5;clear HB;have HO_5:=n0_;have HB:=n1_;clear n0_ n1_;have p632:0<=(x6_1:Int):=Ql (by assumption);have q632:x6_1<(l0.length:Int):=Ql (by assumption);obtain⟨ad632,e632,hx632_0⟩:=Kd.at_int HR0.out x6_1 p632 q632;have hw632_0:=hx632_0
        cases e632;replace hx632_0:=(HB.out.cell (Qq w _ hx632_0)).trans hx632_0;replace p632:=Qr p632;replace q632:=Qr q632;have p633:0<=(x8_2:Int):=Ql (by assumption);have q633:x8_2<(l1.length:Int):=Ql (by assumption);obtain⟨ad633,e633,hx633_0⟩:=Kd.at_int HR1.out x8_2 p633 q633;have hw633_0:=hx633_0
        cases e633;replace hx633_0:=(HB.out.cell (Qq w _ hx633_0)).trans hx633_0;replace p633:=Qr p633;replace q633:=Qr q633;refine ZG (n:=9) (S:=fun w'=>w'.cell? (ad632.add (x6_1).toNat)=some (.int .i64 (rd l0 x6_1))/\w'.cell? (ad633.add (x8_2).toNat)=some (.int .i64 (rd l1 x8_2))) (ds:=[]) #[N,N,N,N,N,N,N,N,N] (by kernel_rfl) rfl rfl ⟨((HB.out.cell (Qq w _ hw632_0)).trans hw632_0),((HB.out.cell (Qq w _ hw633_0)).trans hw633_0)⟩ (fun hHeld=>?_);refine qR zZ.tab10 zZ.bits10 (fun HT_ HW_=>?_);generalize wr.drew=w27 at HO_5 HB hx632_0 hx633_0 hHeld ⊢;refine zG (i:=0) (N:=some 32) (v:=?_) (a':=?_) #[Y,N,N,N,N,N,N,N,N] rfl rfl (zu HT_.out (by kernel_rfl)) (fun _ _ _ h=>h) (Or.inl ⟨by rfl,?_⟩) ?_ ?_;rotate_left
        ·intro w';go_simp;with_reducible rfl
        rotate_left
        ·simp only[Act.put,sA,sB,sC,zp,zw];rfl
        refine zG (i:=1) (N:=some 33) (v:=?_) (a':=?_) #[Y,Y,N,N,N,N,N,N,N] rfl rfl (zu HT_.out (by kernel_rfl)) (fun _ _ _ h=>h) (Or.inl ⟨by rfl,?_⟩) ?_ ?_;rotate_left
        ·intro w';go_simp;with_reducible rfl
        rotate_left
        ·simp only[Act.put,sA,sB,sC,zp,zw];rfl
        refine zG (i:=2) (N:=some 34) (v:=?_) (a':=?_) #[Y,Y,Y,N,N,N,N,N,N] rfl rfl (zu HT_.out (by kernel_rfl)) (fun _ _ _ h=>h) (Or.inl ⟨by rfl,?_⟩) ?_ ?_;rotate_left
        ·intro w';go_simp;with_reducible rfl
        rotate_left
        ·simp only[Act.put,sA,sB,sC,zp,zw];rfl
        refine zG (i:=4) (N:=some 36) (v:=?_) (a':=?_) #[Y,Y,Y,N,Y,N,N,N,N] rfl rfl (zu HT_.out (by kernel_rfl)) (fun _ _ _ h=>h) (Or.inl ⟨by rfl,?_⟩) ?_ ?_;rotate_left
        ·intro w';go_simp;with_reducible rfl
        rotate_left
        ·simp only[Act.put,sA,sB,sC,zp,zw];rfl
        refine zG (i:=5) (N:=some 37) (v:=?_) (a':=?_) #[Y,Y,Y,N,Y,Y,N,N,N] rfl rfl (zu HT_.out (by kernel_rfl)) (fun _ _ _ h=>h) (Or.inl ⟨by rfl,?_⟩) ?_ ?_;rotate_left
        ·intro w';go_simp;with_reducible rfl
        rotate_left
        ·simp only[Act.put,sA,sB,sC,zp,zw];rfl
        refine zG (i:=6) (N:=some 38) (v:=?_) (a':=?_) #[Y,Y,Y,N,Y,Y,Y,N,N] rfl rfl (zu HT_.out (by kernel_rfl)) (fun _ _ _ h=>h) (Or.inl ⟨by rfl,?_⟩) ?_ ?_;rotate_left
        ·intro w';go_simp;with_reducible rfl
        rotate_left
        ·simp only[Act.put,sA,sB,sC,zp,zw];rfl
        refine take_ (i:=3) (N:=some 35) (v:=?_) (a':=?_) #[Y,Y,Y,Y,Y,Y,Y,N,N] rfl rfl (qe HT_.out HW_.out (by kernel_rfl)) (fun _ _ _ h=>h) (Or.inl ⟨by rfl,?_⟩) hHeld ?_ ?_;rotate_left
        ·rintro w' ⟨s0,s1⟩;go_simp;with_reducible rfl
        rotate_left
        ·simp only[Act.put,sA,sB,sC,zp,zw];rfl
        refine take_ (i:=7) (N:=some 39) (v:=?_) (a':=?_) #[Y,Y,Y,Y,Y,Y,Y,Y,N] rfl rfl (qe HT_.out HW_.out (by kernel_rfl)) (fun _ _ _ h=>h) (Or.inl ⟨by rfl,?_⟩) hHeld ?_ ?_;rotate_left
        ·rintro w' ⟨s0,s1⟩;go_simp;with_reducible rfl
        rotate_left
        ·simp only[Act.put,sA,sB,sC,zp,zw];rfl
        refine zG (i:=8) (N:=some 40) (v:=?_) (a':=?_) #[Y,Y,Y,Y,Y,Y,Y,Y,Y] rfl rfl (zu HT_.out (by kernel_rfl)) (fun _ _ _ h=>h) (Or.inl ⟨by rfl,?_⟩) ?_ ?_;rotate_left
        ·intro w';go_simp;with_reducible rfl
        rotate_left
        ·simp only[Act.put,sA,sB,sC,zp,zw];rfl
        refine done_ (Zr HT_.out (by kernel_rfl)) ?_;try go_wp2
        have n0_:=Qk (Kd.R_drew HO_5.out);have n1_:=Qk (zg HB.out);clear HO_5;clear HB;have HO_5:=n0_;have HB:=n1_;clear n0_ n1_;have p635:0<=(x8_2:Int):=Ql (by assumption);have q635:x8_2<(x5_2.length:Int):=Ql (by assumption);obtain⟨ad635,e635,hx635_0⟩:=Kd.at_int (Kd.R_reads' HO_5.out).2.2 x8_2 p635 q635;obtain rfl:ad631=ad635:=(by injection e635);replace p635:=Qr p635;replace q635:=Qr q635;have p636:0<=((ji21):Int):=Ql (by assumption);have q636:(ji21)<(x5_2.length:Int):=Ql (by assumption);obtain⟨ad636,e636,hx636_0⟩:=Kd.at_int (Kd.R_reads' HO_5.out).2.2 (ji21) p636 q636;obtain rfl:ad631=ad636:=(by injection e636);replace p636:=Qr p636;replace q636:=Qr q636;have p25:0<=(x8_2:Int):=Ql (by assumption);have q25:(x8_2:Int)<((x5_2.length:Int):Int):=Ql (by assumption);obtain⟨go25,co25,eo25,gb25,gl25,cl25,HG25⟩:=Kd.R_form HO_5.out (by omega);(first|cases eo25|(injection eo25 with ea_ en_ ec_;(first|subst ea_|(injection ea_ with ea_;subst ea_));subst ec_;clear en_));have GB25:=Qk gb25;have GG25:=Qk HG25;clear gb25 gl25 HG25;(first|simp only[qy]at hx631_0|skip);(first|simp only[qy]at hx635_0|skip);(first|simp only[qy]at hx636_0|skip);obtain⟨hx25_0,hf25_0⟩:=Kd.R_celln 0 HO_5.out (x8_2:Int) p25 q25;replace p25:=Qr p25;replace q25:=Qr q25;have HP29:=Kd.R_putn HO_5.out (x8_2:Int) ji24;rw[← Ny637.out]at HP29;have HQ29:=Qk HP29;clear HP29;refine ZG (n:=14) (S:=fun w'=>w'.cell? ⟨go25,(x8_2).toNat,none⟩=some (.int .i64 (rd x5_2 x8_2))/\w'.cell? ⟨go25,((ji21)).toNat,none⟩=some (.int .i64 (rd x5_2 (ji21)))) (ds:=[13]) #[N,N,N,N,N,N,N,N,N,N,N,N,N,N] (by kernel_rfl) rfl rfl ⟨hx635_0,hx636_0⟩ (fun hHeld=>?_);refine qR zZ.tab12 zZ.bits12 (fun HT_ HW_=>?_);generalize w27.drew=w28 at HO_5 HB GG25 HQ29 hf25_0 hx25_0 hx631_0 hx635_0 hx636_0 hHeld ⊢;refine zG (i:=0) (N:=some 46) (v:=?_) (a':=?_) #[Y,N,N,N,N,N,N,N,N,N,N,N,N,N] rfl rfl (zu HT_.out (by kernel_rfl)) (fun _ _ _ h=>h) (Or.inl ⟨by rfl,?_⟩) ?_ ?_;rotate_left
        ·intro w';go_simp;with_reducible rfl
        rotate_left
        ·simp only[Act.put,sA,sB,sC,zp,zw];rfl
        refine zG (i:=1) (N:=some 47) (v:=?_) (a':=?_) #[Y,Y,N,N,N,N,N,N,N,N,N,N,N,N] rfl rfl (zu HT_.out (by kernel_rfl)) (fun _ _ _ h=>h) (Or.inl ⟨by rfl,?_⟩) ?_ ?_;rotate_left
        ·intro w';go_simp;with_reducible rfl
        rotate_left
        ·simp only[Act.put,sA,sB,sC,zp,zw];rfl
        refine zG (i:=2) (N:=some 48) (v:=?_) (a':=?_) #[Y,Y,Y,N,N,N,N,N,N,N,N,N,N,N] rfl rfl (zu HT_.out (by kernel_rfl)) (fun _ _ _ h=>h) (Or.inl ⟨by rfl,?_⟩) ?_ ?_;rotate_left
        ·intro w';go_simp;with_reducible rfl
        rotate_left
        ·simp only[Act.put,sA,sB,sC,zp,zw];rfl
        refine zG (i:=3) (N:=some 49) (v:=?_) (a':=?_) #[Y,Y,Y,Y,N,N,N,N,N,N,N,N,N,N] rfl rfl (zu HT_.out (by kernel_rfl)) (fun _ _ _ h=>h) (Or.inl ⟨by rfl,?_⟩) ?_ ?_;rotate_left
        ·intro w';go_simp;with_reducible rfl
        rotate_left
        ·simp only[Act.put,sA,sB,sC,zp,zw];rfl
        refine zG (i:=4) (N:=some 50) (v:=?_) (a':=?_) #[Y,Y,Y,Y,Y,N,N,N,N,N,N,N,N,N] rfl rfl (zu HT_.out (by kernel_rfl)) (fun _ _ _ h=>h) (Or.inl ⟨by rfl,?_⟩) ?_ ?_;rotate_left
        ·intro w';go_simp;with_reducible rfl
        rotate_left
        ·simp only[Act.put,sA,sB,sC,zp,zw];rfl
        refine zG (i:=6) (N:=some 52) (v:=?_) (a':=?_) #[Y,Y,Y,Y,Y,N,Y,N,N,N,N,N,N,N] rfl rfl (zu HT_.out (by kernel_rfl)) (fun _ _ _ h=>h) (Or.inl ⟨by rfl,?_⟩) ?_ ?_;rotate_left
        ·intro w';go_simp;with_reducible rfl
        rotate_left
        ·simp only[Act.put,sA,sB,sC,zp,zw];rfl
        refine zG (i:=7) (N:=some 53) (v:=?_) (a':=?_) #[Y,Y,Y,Y,Y,N,Y,Y,N,N,N,N,N,N] rfl rfl (zu HT_.out (by kernel_rfl)) (fun _ _ _ h=>h) (Or.inl ⟨by rfl,?_⟩) ?_ ?_;rotate_left
        ·intro w';go_simp;with_reducible rfl
        rotate_left
        ·simp only[Act.put,sA,sB,sC,zp,zw];rfl
        refine zG (i:=8) (N:=some 54) (v:=?_) (a':=?_) #[Y,Y,Y,Y,Y,N,Y,Y,Y,N,N,N,N,N] rfl rfl (zu HT_.out (by kernel_rfl)) (fun _ _ _ h=>h) (Or.inl ⟨by rfl,?_⟩) ?_ ?_;rotate_left
        ·intro w';go_simp;with_reducible rfl
        rotate_left
        ·simp only[Act.put,sA,sB,sC,zp,zw];rfl
        refine zG (i:=9) (N:=some 55) (v:=?_) (a':=?_) #[Y,Y,Y,Y,Y,N,Y,Y,Y,Y,N,N,N,N] rfl rfl (zu HT_.out (by kernel_rfl)) (fun _ _ _ h=>h) (Or.inl ⟨by rfl,?_⟩) ?_ ?_;rotate_left
        ·intro w';go_simp;with_reducible rfl
        rotate_left
        ·simp only[Act.put,sA,sB,sC,zp,zw];rfl
        refine take_ (i:=5) (N:=some 51) (v:=?_) (a':=?_) #[Y,Y,Y,Y,Y,Y,Y,Y,Y,Y,N,N,N,N] rfl rfl (qe HT_.out HW_.out (by kernel_rfl)) (fun _ _ _ h=>h) (Or.inl ⟨by rfl,?_⟩) hHeld ?_ ?_;rotate_left
        ·rintro w' ⟨s0,s1⟩;go_simp;with_reducible rfl
        rotate_left
        ·simp only[Act.put,sA,sB,sC,zp,zw];rfl
        refine take_ (i:=10) (N:=some 56) (v:=?_) (a':=?_) #[Y,Y,Y,Y,Y,Y,Y,Y,Y,Y,Y,N,N,N] rfl rfl (qe HT_.out HW_.out (by kernel_rfl)) (fun _ _ _ h=>h) (Or.inl ⟨by rfl,?_⟩) hHeld ?_ ?_;rotate_left
        ·rintro w' ⟨s0,s1⟩;go_simp;with_reducible rfl
        rotate_left
        ·simp only[Act.put,sA,sB,sC,zp,zw];rfl
        refine zG (i:=11) (N:=some 57) (v:=?_) (a':=?_) #[Y,Y,Y,Y,Y,Y,Y,Y,Y,Y,Y,Y,N,N] rfl rfl (zu HT_.out (by kernel_rfl)) (fun _ _ _ h=>h) (Or.inl ⟨by rfl,?_⟩) ?_ ?_;rotate_left
        ·intro w';go_simp;with_reducible rfl
        rotate_left
        ·simp only[Act.put,sA,sB,sC,zp,zw];rfl
        refine zG (i:=12) (N:=some 58) (v:=?_) (a':=?_) #[Y,Y,Y,Y,Y,Y,Y,Y,Y,Y,Y,Y,Y,N] rfl rfl (zu HT_.out (by kernel_rfl)) (fun _ _ _ h=>h) (Or.inl ⟨by rfl,?_⟩) ?_ ?_;rotate_left
        ·intro w';go_simp;with_reducible rfl
        rotate_left
        ·simp only[Act.put,sA,sB,sC,zp,zw];rfl
        refine last_ (i:=13) (N:=none) #[Y,Y,Y,Y,Y,Y,Y,Y,Y,Y,Y,Y,Y,Y] rfl rfl (one_of HT_.out (by kernel_rfl)) (by decide) (fun K hK=>?_);refine skip_ (w1:=?_) (by rfl) rfl ?_ ?_;rotate_left
        ·go_simp;rfl
        refine hK.out _ _ ?_;clear hK K;refine done_ (Zr HT_.out (by kernel_rfl)) ?_;try go_wp2
        go_roundg k2
        case measure=>have:=HK1.out;have:=HK2.out;omega
        case rel=>exact⟨(y637),(rd x5_2 x8_2),(wrap64 (x8_2-1)),rfl,rfl,H',⟨by have:=HK1.out;have:=HK2.out;omega⟩,⟨by(with_reducible repeat(first|apply Kd.R_alloc|apply Kd.R_drewN|apply Kd.R_drew));exact HQ29.out⟩,⟨by repeat(first|(with_reducible first|exact HB.out|apply za|apply zb|apply zg|refine zr ?_ GB25.out)|exact HB.out)⟩⟩
      ·rw[if_neg c9]at H;have c9b0:decide (0<=x8_2)=false:=Qn c9;clear c9;have H':=Qk H;clear H;go_wp2;go_roundg k2
       case measure=>have:=HK1.out;have:=HK2.out;omega
       case rel=>exact⟨(x5_2),(wrap64 (x6_1-1)),rfl,H',⟨by have:=HK1.out;have:=HK2.out;omega⟩,⟨HO_5.out⟩,⟨HB.out⟩⟩
   ·rw[if_neg c8]at H;have c8b0:decide (0<=x6_1)=false:=Qn c8;clear c8;replace H:=ifSome H;obtain⟨c30,H⟩:=H;have c30b0:decide (0<(x5_1.length:Int))=true:=Qm c30;have c30b1:decide (0<x5_1.length)=true:=Qm (by omega);clear c30;obtain rfl:=Qp H;obtain⟨Ao31,co31,eo31⟩:=Kd.R_slice HO_5.out;subst eo31;have p630:0<=(0:Int):=(by omega);have q630:0<(x5_1.length:Int):=Ql (by assumption);obtain⟨ad630,e630,hx630_0⟩:=Kd.at_int (Kd.R_reads' HO_5.out).2.2 0 p630 q630
    cases e630;have qi630:(0<x5_1.length)=True:=Qr (by omega);(try rw[show ((0:Int)).toNat=0 from rfl]at hx630_0);(try rw[Addr.add_zero']at hx630_0);replace p630:=Qr p630;replace q630:=Qr q630;go_wp2;go_ret;exact⟨by first|rfl|(simp[zR,zQ] <;> rfl)|(simp only[← hji3];first|rfl|(simp[zR,zQ] <;> rfl))|(simp[*,zR,zQ] <;> rfl),HB.out⟩
mutual
def qd.l0:Nat->List (List Int)->List Int->List Int->Int->Int->Int->Option (Int×Int×Bool)
 |0,_,_,_,_,_,_=>none
 |k+1,x0,x1,x2,x4,x12,x13=>if x13<(x1.length:Int)then(qd.l1 k x0 x1 x2 x4 x12 x13 x4)else(some (0,0,false))
def qd.l1:Nat->List (List Int)->List Int->List Int->Int->Int->Int->Int->Option (Int×Int×Bool)
 |0,_,_,_,_,_,_,_=>none
 |k+1,x0,x1,x2,x4,x12,x13,x14=>if x14<(x2.length:Int)then(if 0<=x13 then(if x13<(x1.length:Int)then(if 0<=x14 then(if (rd x1 x13)=(rd x2 x14)then(if 0<=(wrap64 (x13+1))then(if (wrap64 (x13+1))<(x0.length:Int)then(if 0<=(wrap64 (x14+1))then(if (wrap64 (x14+1))<((zD x0 (wrap64 (x13+1))).length:Int)then(if (wrap64 ((rd (zD x0 (wrap64 (x13+1))) (wrap64 (x14+1)))+1))=x12 then(some (x13,x14,true))else(qd.l1 k x0 x1 x2 x4 x12 x13 (wrap64 (x14+1))))else(none))else(none))else(none))else(none))else(qd.l1 k x0 x1 x2 x4 x12 x13 (wrap64 (x14+1))))else(none))else(none))else(none))else(qd.l0 k x0 x1 x2 x4 x12 (wrap64 (x13+1)))
end
def qd.f(k:Nat)(l0:List (List Int))(l1:List Int)(l2:List Int)(a3:Int)(a4:Int):Option (Int×Int×Bool):=if 0<=a3 then(if a3<(l0.length:Int)then(if 0<=a4 then(if a4<((zD l0 a3).length:Int)then(if (rd (zD l0 a3) a4)=0 then(some (0,0,false))else(qd.l0 k l0 l1 l2 a4 (rd (zD l0 a3) a4) a3))else(none))else(none))else(none))else(none)
theorem qd.calls(k:Nat)(A0:Option Addr)(c0:Nat)(l0:List (List Int))(A1:Option Addr)(c1:Nat)(l1:List Int)(A2:Option Addr)(c2:Nat)(l2:List Int)(a3:Int)(a4:Int)(r1:Int)(r2:Int)(r3:Bool)(w:World)(hr0:Kd.C (Kd.slice 3 (Kd.int .i64)) w A0 l0.length l0)(hc0:l0.length<=c0)(hr1:Kd.C (Kd.int .i64) w A1 l1.length l1)(hc1:l1.length<=c1)(hr2:Kd.C (Kd.int .i64) w A2 l2.length l2)(hc2:l2.length<=c2)(h:qd.f k l0 l1 l2 a3 a4=some (r1,r2,r3)) :
 Calls Tryz.prog 133 #[.slice A0 l0.length c0,.slice A1 l1.length c1,.slice A2 l2.length c2,.int .i64 a3,.int .i64 a4] w fun e w'=>e=.returned (.tuple #[.agg #[.int .i64 r1,.int .i64 r2],.bool r3])/\Below w.heap.size w w':=by
 have hu54:=Tryz.underlying54;have HR0:=Qk hr0;have HC0:=Qk hc0;clear hr0 hc0;have HR1:=Qk hr1;have HC1:=Qk hc1;clear hr1 hc1;have HR2:=Qk hr2;have HC2:=Qk hc2;clear hr2 hc2;have HB:=Qk (Below.refl w.heap.size w);have H:(if 0<=a3 then(if a3<(l0.length:Int)then(if 0<=a4 then(if a4<((zD l0 a3).length:Int)then(if (rd (zD l0 a3) a4)=0 then(some (0,0,false))else(qd.l0 k l0 l1 l2 a4 (rd (zD l0 a3) a4) a3))else(none))else(none))else(none))else(none))=some (r1,r2,r3):=h;clear h;replace H:=ifSome H;obtain⟨c6,H⟩:=H;have c6b0:decide (0<=a3)=true:=Qm c6;clear c6;replace H:=ifSome H;obtain⟨c7,H⟩:=H;have c7b0:decide (a3<(l0.length:Int))=true:=Qm c7;clear c7;replace H:=ifSome H;obtain⟨c8,H⟩:=H;have c8b0:decide (0<=a4)=true:=Qm c8;clear c8;replace H:=ifSome H;obtain⟨c9,H⟩:=H;have c9b0:decide (a4<((zD l0 a3).length:Int))=true:=Qm c9;clear c9;by_cases c10:(rd (zD l0 a3) a4)=0
 ·rw[if_pos c10]at H;have c10b0:((rd (zD l0 a3) a4) == 0)=true:=beq_iff_eq.mpr c10;have c10b1:((rd (zD l0 a3) a4) != 0)=false:=bne_eq_false_iff_eq.mpr c10;clear c10;simp only[Option.some.injEq,Prod.mk.injEq]at H;obtain⟨rfl,rfl,rfl⟩:=H;go_enter Tryz.func133,Tryz.ntmps133;go_wp2_with (first|((with_reducible refine qf (N:=10) rfl ?_);refine qt ?hg (N:=10) ?hd (cs:=#[.int .i64 0,.int .i64 0]) (t:=54) ?hr ?_;(case hd=>rfl);(case hg=>rfl);(case hr=>first|(go_simp;done)|(go_simp;rfl));intro gb638 hg w11 hbox hb;have n0_:=Qk (zi HB.out hb);have n1_:=Qk (hbox);have n2_:=Qk ((by rw[hg];exact(ze HB.out):w.heap.size<=gb638));have n3_:=Qk ((by rw[hg];exact(ze HB.out):w.heap.size<=gb638));clear HB;have HB:=n0_;have BK638:=n1_;have GW638:=n2_;have GE638:=n3_;clear n0_ n1_ n2_ n3_;(try clear hb);(try clear hbox);(try clear hg);have p639:0<=(a3:Int):=Ql (by first|(with_reducible assumption)|assumption);have q639:a3<(l0.length:Int):=Ql (by first|(with_reducible assumption)|assumption);obtain⟨ad639,A639_0,c639_0,e639,hx639_0,hl639_0,hi639_0⟩:=Qj HR0.out a3 p639 q639;cases e639;replace hx639_0:=(HB.out.cell (Qq w _ hx639_0)).trans hx639_0;have HR639_0:=Qk hi639_0;have HC639_0:=Qk hl639_0;(try clear hi639_0);(try clear hl639_0);replace p639:=Qr p639;replace q639:=Qr q639;have p640:0<=(a4:Int):=Ql (by first|(with_reducible assumption)|assumption);have q640:a4<((zD l0 a3).length:Int):=Ql (by first|(with_reducible assumption)|assumption);obtain⟨ad640,e640,hx640_0⟩:=Kd.at_int HR639_0.out a4 p640 q640;cases e640;replace hx640_0:=(HB.out.cell (Qq w _ hx640_0)).trans hx640_0;replace p640:=Qr p640;replace q640:=Qr q640;have hcz12_0:w11.cell? ⟨gb638,0,none⟩=some (.int .i64 0):=(zf BK638.out 0).trans rfl;have hcz12_1:w11.cell? ⟨gb638,1,none⟩=some (.int .i64 0):=(zf BK638.out 1).trans rfl;have hfz12_0:=zh BK638.out 0;have hfz12_1:=zh BK638.out 1))
  refine bodyPost_ret (results_ct rfl _ _ gb638 54 #[.int .i64 0,.int .i64 0] (0,0) _ rfl (by(with_reducible repeat(first|refine zn ?_ _|refine zo ?_|refine zl ?_ _));refine qi (cs:=#[.int .i64 0,.int .i64 0]) ?_ 1 _ rfl;(with_reducible repeat(first|refine zn ?_ _|refine zo ?_|refine zl ?_ _));refine qi (cs:=#[.int .i64 0,.int .i64 0]) ?_ 0 _ rfl;(with_reducible repeat(first|refine zn ?_ _|refine zo ?_|refine zl ?_ _));exact BK638.out) Tryz.underlying54 rfl (by kernel_rfl)) rfl ?_;exact⟨rfl,by repeat(first|(with_reducible first|exact HB.out|apply za|apply zb|apply zg|refine zr ?_ GE638.out)|exact HB.out)⟩
 ·rw[if_neg c10]at H;have c10b0:((rd (zD l0 a3) a4) == 0)=false:=beq_eq_false_iff_ne.mpr c10;have c10b1:((rd (zD l0 a3) a4) != 0)=true:=bne_iff_ne.mpr c10;have H':=Qk H;clear H;go_enter Tryz.func133,Tryz.ntmps133;go_wp2_with (first|((with_reducible refine qf (N:=10) rfl ?_);refine qt ?hg (N:=10) ?hd (cs:=#[.int .i64 0,.int .i64 0]) (t:=54) ?hr ?_;(case hd=>rfl);(case hg=>rfl);(case hr=>first|(go_simp;done)|(go_simp;rfl));intro gb638 hg w13 hbox hb;have n0_:=Qk (zi HB.out hb);have n1_:=Qk (hbox);have n2_:=Qk ((by rw[hg];exact(ze HB.out):w.heap.size<=gb638));have n3_:=Qk ((by rw[hg];exact(ze HB.out):w.heap.size<=gb638));clear HB;have HB:=n0_;have BK638:=n1_;have GW638:=n2_;have GE638:=n3_;clear n0_ n1_ n2_ n3_;(try clear hb);(try clear hbox);(try clear hg);have p639:0<=(a3:Int):=Ql (by first|(with_reducible assumption)|assumption);have q639:a3<(l0.length:Int):=Ql (by first|(with_reducible assumption)|assumption);obtain⟨ad639,A639_0,c639_0,e639,hx639_0,hl639_0,hi639_0⟩:=Qj HR0.out a3 p639 q639;cases e639;replace hx639_0:=(HB.out.cell (Qq w _ hx639_0)).trans hx639_0;have HR639_0:=Qk hi639_0;have HC639_0:=Qk hl639_0;(try clear hi639_0);(try clear hl639_0);replace p639:=Qr p639;replace q639:=Qr q639;have p640:0<=(a4:Int):=Ql (by first|(with_reducible assumption)|assumption);have q640:a4<((zD l0 a3).length:Int):=Ql (by first|(with_reducible assumption)|assumption);obtain⟨ad640,e640,hx640_0⟩:=Kd.at_int HR639_0.out a4 p640 q640;cases e640;replace hx640_0:=(HB.out.cell (Qq w _ hx640_0)).trans hx640_0;replace p640:=Qr p640;replace q640:=Qr q640))
  go_loopg [13] k (fun kq v13 w'=>∃ (x13_1:Int) (x639000_1:Int) (x639001_1:Int),v13=.int .i64 x13_1/\Aside0 (qd.l0 kq l0 l1 l2 a4 (rd (zD l0 a3) a4) x13_1=some (r1,r2,r3))/\Aside0 (kq<=k)/\Aside0 (w'.heap[gb638]?=some (.cells #[.int .i64 x639000_1,.int .i64 x639001_1] 54 (0,0)))/\Aside0 (Below w.heap.size w w'))
  case atStart=>exact⟨(a3),(0),(0),(by first|rfl|(simp;done)|(simp[*];done)),H',⟨Nat.le_refl _⟩,⟨by(with_reducible repeat(first|refine zn ?_ _|refine zo ?_|refine zl ?_ _));exact BK638.out⟩,⟨HB.out⟩⟩
  case round =>
   clear H';obtain⟨x13_1,x639000_1,x639001_1,rfl,HA,HK1,BK638,HB⟩:=hrel
   cases gk with
   |zero=>exact absurd HA.out (by simp[qd.l0])
   |succ k1 =>
    have H:=HA.out;clear HA;simp only[qd.l0]at H;by_cases c14:x13_1<(l1.length:Int)
    ·rw[if_pos c14]at H;have c14b0:decide (x13_1<(l1.length:Int))=true:=Qm c14;clear c14;have H':=Qk H;clear H;go_wp2;go_loopg [14] k1 (fun kq v14 w'=>∃ (x14_2:Int) (x639000_2:Int) (x639001_2:Int),v14=.int .i64 x14_2/\Aside0 (qd.l1 kq l0 l1 l2 a4 (rd (zD l0 a3) a4) x13_1 x14_2=some (r1,r2,r3))/\Aside0 (kq<=k1)/\Aside0 (w'.heap[gb638]?=some (.cells #[.int .i64 x639000_2,.int .i64 x639001_2] 54 (0,0)))/\Aside0 (Below w.heap.size w w'))
     case atStart=>exact⟨(a4),(x639000_1),(x639001_1),(by first|rfl|(simp;done)|(simp[*];done)),H',⟨Nat.le_refl _⟩,⟨by(with_reducible repeat(first|refine zn ?_ _|refine zo ?_|refine zl ?_ _));exact BK638.out⟩,⟨HB.out⟩⟩
     case round =>
      clear H';obtain⟨x14_2,x639000_2,x639001_2,rfl,HA,HK2,BK638,HB⟩:=hrel
      cases gk with
      |zero=>exact absurd HA.out (by simp[qd.l1])
      |succ k2 =>
       have H:=HA.out;clear HA;simp only[qd.l1]at H;by_cases c15:x14_2<(l2.length:Int)
       ·rw[if_pos c15]at H;have c15b0:decide (x14_2<(l2.length:Int))=true:=Qm c15;clear c15;replace H:=ifSome H;obtain⟨c16,H⟩:=H;have c16b0:decide (0<=x13_1)=true:=Qm c16;clear c16;replace H:=ifSome H;obtain⟨c17,H⟩:=H;have c17b0:decide (x13_1<(l1.length:Int))=true:=Qm c17;clear c17;replace H:=ifSome H;obtain⟨c18,H⟩:=H;have c18b0:decide (0<=x14_2)=true:=Qm c18;clear c18;by_cases c19:(rd l1 x13_1)=(rd l2 x14_2)
        ·rw[if_pos c19]at H;have c19b0:((rd l1 x13_1) == (rd l2 x14_2))=true:=beq_iff_eq.mpr c19;have c19b1:((rd l1 x13_1) != (rd l2 x14_2))=false:=bne_eq_false_iff_eq.mpr c19;clear c19;obtain⟨ji20,hji20⟩:∃ j_:Int,(wrap64 (x13_1+1))=j_:=⟨_,rfl⟩
         replace H:(if 0<=(ji20)then(if (ji20)<(l0.length:Int)then(if 0<=(wrap64 (x14_2+1))then(if (wrap64 (x14_2+1))<((zD l0 (ji20)).length:Int)then(if (wrap64 ((rd (zD l0 (ji20)) (wrap64 (x14_2+1)))+1))=(rd (zD l0 a3) a4)then(some (x13_1,x14_2,true))else(qd.l1 k2 l0 l1 l2 a4 (rd (zD l0 a3) a4) x13_1 (wrap64 (x14_2+1))))else(none))else(none))else(none))else(none))=some (r1,r2,r3):=by first|(rw[hji20]at H;exact H)|(simp only[hji20]at H ⊢;exact H)
         have hji20w:(IntKind.i64.wrap (x13_1+1))=ji20:=(zp _).trans hji20;replace H:=ifSome H;obtain⟨c21,H⟩:=H;have c21b0:decide (0<=(ji20))=true:=Qm c21;clear c21;replace H:=ifSome H;obtain⟨c22,H⟩:=H;have c22b0:decide ((ji20)<(l0.length:Int))=true:=Qm c22;clear c22;obtain⟨ji23,hji23⟩:∃ j_:Int,(wrap64 (x14_2+1))=j_:=⟨_,rfl⟩
         replace H:(if 0<=(ji23)then(if (ji23)<((zD l0 (ji20)).length:Int)then(if (wrap64 ((rd (zD l0 (ji20)) (ji23))+1))=(rd (zD l0 a3) a4)then(some (x13_1,x14_2,true))else(qd.l1 k2 l0 l1 l2 a4 (rd (zD l0 a3) a4) x13_1 ji23))else(none))else(none))=some (r1,r2,r3):=by first|(rw[hji23]at H;exact H)|(simp only[hji23]at H ⊢;exact H)
         have hji23w:(IntKind.i64.wrap (x14_2+1))=ji23:=(zp _).trans hji23;replace H:=ifSome H;obtain⟨c24,H⟩:=H;have c24b0:decide (0<=(ji23))=true:=Qm c24;clear c24;replace H:=ifSome H;obtain⟨c25,H⟩:=H;have c25b0:decide ((ji23)<((zD l0 (ji20)).length:Int))=true:=Qm c25;clear c25;by_cases c26:(wrap64 ((rd (zD l0 (ji20)) (ji23))+1))=(rd (zD l0 a3) a4)
         ·rw[if_pos c26]at H;have c26b0:((wrap64 ((rd (zD l0 (ji20)) (ji23))+1)) == (rd (zD l0 a3) a4))=true:=beq_iff_eq.mpr c26;have c26b1:((wrap64 ((rd (zD l0 (ji20)) (ji23))+1)) != (rd (zD l0 a3) a4))=false:=bne_eq_false_iff_eq.mpr c26;clear c26;simp only[Option.some.injEq,Prod.mk.injEq]at H;obtain⟨rfl,rfl,rfl⟩:=H;have p641:0<=(x13_1:Int):=Ql (by first|(with_reducible assumption)|assumption);have q641:x13_1<(l1.length:Int):=Ql (by first|(with_reducible assumption)|assumption);obtain⟨ad641,e641,hx641_0⟩:=Kd.at_int HR1.out x13_1 p641 q641
          cases e641;replace hx641_0:=(HB.out.cell (Qq w _ hx641_0)).trans hx641_0;replace p641:=Qr p641;replace q641:=Qr q641;have p642:0<=(x14_2:Int):=Ql (by first|(with_reducible assumption)|assumption);have q642:x14_2<(l2.length:Int):=Ql (by first|(with_reducible assumption)|assumption);obtain⟨ad642,e642,hx642_0⟩:=Kd.at_int HR2.out x14_2 p642 q642
          cases e642;replace hx642_0:=(HB.out.cell (Qq w _ hx642_0)).trans hx642_0;replace p642:=Qr p642;replace q642:=Qr q642;have p643:0<=((ji20):Int):=Ql (by first|(with_reducible assumption)|assumption);have q643:(ji20)<(l0.length:Int):=Ql (by first|(with_reducible assumption)|assumption);obtain⟨ad643,A643_0,c643_0,e643,hx643_0,hl643_0,hi643_0⟩:=Qj HR0.out (ji20) p643 q643;obtain rfl:ad639=ad643:=(by injection e643);replace hx643_0:=(HB.out.cell (Qq w _ hx643_0)).trans hx643_0;have HR643_0:=Qk hi643_0;have HC643_0:=Qk hl643_0;clear hi643_0 hl643_0;replace p643:=Qr p643;replace q643:=Qr q643;have p644:0<=((ji23):Int):=Ql (by first|(with_reducible assumption)|assumption);have q644:(ji23)<((zD l0 (ji20)).length:Int):=Ql (by first|(with_reducible assumption)|assumption);obtain⟨ad644,e644,hx644_0⟩:=Kd.at_int HR643_0.out (ji23) p644 q644
          cases e644;replace hx644_0:=(HB.out.cell (Qq w _ hx644_0)).trans hx644_0;replace p644:=Qr p644;replace q644:=Qr q644;have hcz27_0:wr.cell? ⟨gb638,0,none⟩=some (.int .i64 x639000_2):=(zf BK638.out 0).trans rfl;have hcz27_1:wr.cell? ⟨gb638,1,none⟩=some (.int .i64 x639001_2):=(zf BK638.out 1).trans rfl;have hfz27_0:=zh BK638.out 0;have hfz27_1:=zh BK638.out 1;go_wp2;repeat(go_quiet (fail);try go_wp2)
          refine bodyPost_ret (results_ct rfl _ _ gb638 54 #[.int .i64 x13_1,.int .i64 x14_2] (0,0) _ rfl (by(with_reducible repeat(first|refine zn ?_ _|refine zo ?_|refine zl ?_ _));refine qi (cs:=#[.int .i64 x13_1,.int .i64 x639001_2]) ?_ 1 _ rfl;(with_reducible repeat(first|refine zn ?_ _|refine zo ?_|refine zl ?_ _));refine qi (cs:=#[.int .i64 x639000_2,.int .i64 x639001_2]) ?_ 0 _ rfl;(with_reducible repeat(first|refine zn ?_ _|refine zo ?_|refine zl ?_ _));exact BK638.out) Tryz.underlying54 rfl (by kernel_rfl)) rfl ?_;exact⟨by first|rfl|(simp[zR,zQ] <;> rfl)|(simp only[← hji20,← hji23];first|rfl|(simp[zR,zQ] <;> rfl))|(simp[*,zR,zQ] <;> rfl),by repeat(first|(with_reducible first|exact HB.out|apply za|apply zb|apply zg|refine zr ?_ GE638.out)|exact HB.out)⟩
         ·rw[if_neg c26]at H;have c26b0:((wrap64 ((rd (zD l0 (ji20)) (ji23))+1)) == (rd (zD l0 a3) a4))=false:=beq_eq_false_iff_ne.mpr c26;have c26b1:((wrap64 ((rd (zD l0 (ji20)) (ji23))+1)) != (rd (zD l0 a3) a4))=true:=bne_iff_ne.mpr c26;have H':=Qk H;clear H;have p641:0<=(x13_1:Int):=Ql (by assumption);have q641:x13_1<(l1.length:Int):=Ql (by assumption);obtain⟨ad641,e641,hx641_0⟩:=Kd.at_int HR1.out x13_1 p641 q641
          cases e641;replace hx641_0:=(HB.out.cell (Qq w _ hx641_0)).trans hx641_0;replace p641:=Qr p641;replace q641:=Qr q641;have p642:0<=(x14_2:Int):=Ql (by assumption);have q642:x14_2<(l2.length:Int):=Ql (by first|(with_reducible assumption)|assumption);obtain⟨ad642,e642,hx642_0⟩:=Kd.at_int HR2.out x14_2 p642 q642
          cases e642;replace hx642_0:=(HB.out.cell (Qq w _ hx642_0)).trans hx642_0;replace p642:=Qr p642;replace q642:=Qr q642;have p643:0<=((ji20):Int):=Ql (by first|(with_reducible assumption)|assumption);have q643:(ji20)<(l0.length:Int):=Ql (by first|(with_reducible assumption)|assumption);obtain⟨ad643,A643_0,c643_0,e643,hx643_0,hl643_0,hi643_0⟩:=Qj HR0.out (ji20) p643 q643;obtain rfl:ad639=ad643:=(by injection e643);replace hx643_0:=(HB.out.cell (Qq w _ hx643_0)).trans hx643_0;have HR643_0:=Qk hi643_0;have HC643_0:=Qk hl643_0;clear hi643_0 hl643_0;replace p643:=Qr p643;replace q643:=Qr q643;have p644:0<=((ji23):Int):=Ql (by first|(with_reducible assumption)|assumption);have q644:(ji23)<((zD l0 (ji20)).length:Int):=Ql (by first|(with_reducible assumption)|assumption);obtain⟨ad644,e644,hx644_0⟩:=Kd.at_int HR643_0.out (ji23) p644 q644
          cases e644;replace hx644_0:=(HB.out.cell (Qq w _ hx644_0)).trans hx644_0;replace p644:=Qr p644;replace q644:=Qr q644;go_wp2;repeat(go_quiet (fail);try go_wp2)
          go_roundg k2
          case measure=>have:=HK1.out;have:=HK2.out;omega
          case rel=>exact⟨(ji23),(x639000_2),(x639001_2),(by first|rfl|(simp;done)|(simp only[← hji23] <;> (first|rfl|simp))|(simp[*];done)),H',⟨by have:=HK1.out;have:=HK2.out;omega⟩,⟨by(with_reducible repeat(first|refine zn ?_ _|refine zo ?_|refine zl ?_ _));exact BK638.out⟩,⟨by repeat(first|(with_reducible first|exact HB.out|apply za|apply zb|apply zg|refine zr ?_ GE638.out)|exact HB.out)⟩⟩
        ·rw[if_neg c19]at H;have c19b0:((rd l1 x13_1) == (rd l2 x14_2))=false:=beq_eq_false_iff_ne.mpr c19;have c19b1:((rd l1 x13_1) != (rd l2 x14_2))=true:=bne_iff_ne.mpr c19;have H':=Qk H;clear H;have p641:0<=(x13_1:Int):=Ql (by first|(with_reducible assumption)|assumption);have q641:x13_1<(l1.length:Int):=Ql (by first|(with_reducible assumption)|assumption);obtain⟨ad641,e641,hx641_0⟩:=Kd.at_int HR1.out x13_1 p641 q641
         cases e641;replace hx641_0:=(HB.out.cell (Qq w _ hx641_0)).trans hx641_0;replace p641:=Qr p641;replace q641:=Qr q641;have p642:0<=(x14_2:Int):=Ql (by first|(with_reducible assumption)|assumption);have q642:x14_2<(l2.length:Int):=Ql (by first|(with_reducible assumption)|assumption);obtain⟨ad642,e642,hx642_0⟩:=Kd.at_int HR2.out x14_2 p642 q642
         cases e642;replace hx642_0:=(HB.out.cell (Qq w _ hx642_0)).trans hx642_0;replace p642:=Qr p642;replace q642:=Qr q642;go_wp2;repeat(go_quiet (fail);try go_wp2)
         go_roundg k2
         case measure=>have:=HK1.out;have:=HK2.out;omega
         case rel=>exact⟨(wrap64 (x14_2+1)),(x639000_2),(x639001_2),(by first|rfl|(simp;done)|(simp[*];done)),H',⟨by have:=HK1.out;have:=HK2.out;omega⟩,⟨by(with_reducible repeat(first|refine zn ?_ _|refine zo ?_|refine zl ?_ _));exact BK638.out⟩,⟨by repeat(first|(with_reducible first|exact HB.out|apply za|apply zb|apply zg|refine zr ?_ GE638.out)|exact HB.out)⟩⟩
       ·rw[if_neg c15]at H;have c15b0:decide (x14_2<(l2.length:Int))=false:=Qn c15;clear c15;have H':=Qk H;clear H;go_wp2;go_roundg k2
        case measure=>have:=HK1.out;have:=HK2.out;omega
        case rel=>exact⟨(wrap64 (x13_1+1)),(x639000_2),(x639001_2),(by first|rfl|(simp;done)|(simp[*];done)),H',⟨by have:=HK1.out;have:=HK2.out;omega⟩,⟨by(with_reducible repeat(first|refine zn ?_ _|refine zo ?_|refine zl ?_ _));exact BK638.out⟩,⟨HB.out⟩⟩
    ·rw[if_neg c14]at H;have c14b0:decide (x13_1<(l1.length:Int))=false:=Qn c14;clear c14;simp only[Option.some.injEq,Prod.mk.injEq]at H;obtain⟨rfl,rfl,rfl⟩:=H;have hcz28_0:wr.cell? ⟨gb638,0,none⟩=some (.int .i64 x639000_1):=(zf BK638.out 0).trans rfl;have hcz28_1:wr.cell? ⟨gb638,1,none⟩=some (.int .i64 x639001_1):=(zf BK638.out 1).trans rfl;have hfz28_0:=zh BK638.out 0;have hfz28_1:=zh BK638.out 1;go_wp2;refine bodyPost_ret (results_ct rfl _ _ gb638 54 #[.int .i64 0,.int .i64 0] (0,0) _ rfl (by(with_reducible repeat(first|refine zn ?_ _|refine zo ?_|refine zl ?_ _));refine qi (cs:=#[.int .i64 0,.int .i64 x639001_1]) ?_ 1 _ rfl;(with_reducible repeat(first|refine zn ?_ _|refine zo ?_|refine zl ?_ _));refine qi (cs:=#[.int .i64 x639000_1,.int .i64 x639001_1]) ?_ 0 _ rfl;(with_reducible repeat(first|refine zn ?_ _|refine zo ?_|refine zl ?_ _));exact BK638.out) Tryz.underlying54 rfl (by kernel_rfl)) rfl ?_;exact⟨rfl,by repeat(first|(with_reducible first|exact HB.out|apply za|apply zb|apply zg|refine zr ?_ GE638.out)|exact HB.out)⟩
def Za.l0:Nat->List Int->List Int->List (List Int)->List (S54)->Int->Int->Option ((List (S54)))
 |0,_,_,_,_,_,_=>none
 |k+1,x0,x1,x5,x6,x7,x8=>(qd.f k x5 x0 x1 x7 x8).bind fun bt648=>(if bt648.2.2=true then(if x6.length<8796093022208 then(Za.l0 k x0 x1 x5 (x6++[(⟨bt648.1,bt648.2.1⟩:S54)]) (wrap64 (bt648.1+1)) (wrap64 (bt648.2.1+1)))else(none))else(some x6))
def Za.f(k:Nat)(l0:List Int)(l1:List Int):Option ((List (S54))):=(zB.f k l0 l1).bind fun t645=>(Za.l0 k l0 l1 t645 ([]:List (S54)) 0 0)
theorem Za.calls(k:Nat)(A0:Option Addr)(c0:Nat)(l0:List Int)(A1:Option Addr)(c1:Nat)(l1:List Int)(r:List (S54))(w:World)(hr0:Kd.C (Kd.int .i64) w A0 l0.length l0)(hc0:l0.length<=c0)(hr1:Kd.C (Kd.int .i64) w A1 l1.length l1)(hc1:l1.length<=c1)(h:Za.f k l0 l1=some r) :
 Calls Tryz.prog 79 #[.slice A0 l0.length c0,.slice A1 l1.length c1] w fun e w'=>∃ v0_:Value,e=.returned (v0_)/\Kd.R k54 54 w' w.heap.size (fun _=>True) v0_ r/\Below w.heap.size w w':=by
 have hu54:=Tryz.underlying54;have HR0:=Qk hr0;have HC0:=Qk hc0;clear hr0 hc0;have HR1:=Qk hr1;have HC1:=Qk hc1;clear hr1 hc1;have HB:=Qk (Below.refl w.heap.size w);have H:((zB.f k l0 l1).bind fun t645=>(Za.l0 k l0 l1 t645 ([]:List (S54)) 0 0))=some r:=h;clear h;replace H:=Qo H;obtain⟨t645,A30,H⟩:=H;replace H:(Za.l0 k l0 l1 t645 ([]:List (S54)) 0 0)=some r:=H;have A3:=Qk A30;clear A30;have H':=Qk H;clear H;go_enter Tryz.func79,Tryz.ntmps79;go_wp2_with (first|(go_at_call 108;(with_reducible refine(zB.calls k _ _ l0 _ _ l1 t645 _ ?side1 ?side2 ?side3 ?side4 A3.out).mono ?_);(case side1=>exact HR0.out);(case side2=>exact HC0.out);(case side3=>exact HR1.out);(case side4=>exact HC1.out);rintro e w4 ⟨v646,rfl,ho0,hb⟩;have HO647:=Qk (Kd.S_lower ho0 (ze HB.out));replace HB:=Qk (zi HB.out hb)))
 go_loopg [6,7,8] k (fun kq v6 v7 v8 w'=>∃ (x6_1:List (S54)) (x7_1:Int) (x8_1:Int),v7=.int .i64 x7_1/\v8=.int .i64 x8_1/\Aside0 (Za.l0 kq l0 l1 t645 x6_1 x7_1 x8_1=some r)/\Aside0 (kq<=k)/\Aside0 (Kd.S (Kd.slice 3 (Kd.int .i64)) 25 w' w.heap.size (fun _=>True) v646 t645)/\Aside0 (Kd.R k54 54 w' w.heap.size (fun _=>True) v6 x6_1)/\Aside0 (Below w.heap.size w w'))
 case atStart=>exact⟨(([]:List (S54))),(0),(0),rfl,rfl,H',⟨Nat.le_refl _⟩,⟨HO647.out⟩,⟨by first|exact Kd.R_nil _ _ _ _ _|exact Kd.N_nil _ _ _ _ _|exact Kd.V_nil _ _ _ _ _|exact Kd.Q_nil _ _ _ _ _|exact Kd.S_nil _ _ _ _ _⟩,⟨HB.out⟩⟩
 case round =>
  clear H';obtain⟨x6_1,x7_1,x8_1,rfl,rfl,HA,HK1,HO_5,HO_6,HB⟩:=hrel
  cases gk with
  |zero=>exact absurd HA.out (by simp[Za.l0])
  |succ k1 =>
   have H:=HA.out;clear HA;simp only[Za.l0]at H;replace H:=Qo H;obtain⟨⟨t648,t649,t650⟩,A50,H⟩:=H;replace H:(if t650=true then(if x6_1.length<8796093022208 then(Za.l0 k1 l0 l1 t645 (x6_1++[(⟨t648,t649⟩:S54)]) (wrap64 (t648+1)) (wrap64 (t649+1)))else(none))else(some x6_1))=some r:=H;have A5:=Qk A50;clear A50;by_cases c6:t650=true
   ·subst c6;have H1:(if x6_1.length<8796093022208 then(Za.l0 k1 l0 l1 t645 (x6_1++[(⟨t648,t649⟩:S54)]) (wrap64 (t648+1)) (wrap64 (t649+1)))else(none))=some r:=by rw[if_pos rfl]at H;exact H
    clear H;have H:=H1;clear H1;replace H:=ifSome H;obtain⟨c7,H⟩:=H;have LMc7:=Qk c7;clear c7;obtain⟨y652,hy652⟩:∃ y_:List (S54),y_=(x6_1++[(⟨t648,t649⟩:S54)]):=⟨_,rfl⟩
    replace H:(Za.l0 k1 l0 l1 t645 y652 (wrap64 (t648+1)) (wrap64 (t649+1)))=some r:=by first|(rw[hy652];with_reducible exact H)|(have H2_:=(Option.bind_some _ _).symm.trans H;rw[hy652];with_reducible exact H2_)|(have H2_:=(Option.bind_some _ _).symm.trans H;with_reducible exact H2_)|with_reducible exact H|(rw[hy652];exact H)|exact H
    have Ny652:=Qk hy652;clear hy652;have H':=Qk H;clear H;obtain⟨Ao8,co8,eo8⟩:=Kd.S_slice HO_5.out;subst eo8;go_wp2_with (first|(go_at_call 133;(with_reducible refine(qd.calls k1 _ _ t645 _ _ l0 _ _ l1 x7_1 x8_1 t648 t649 true _ ?side1 ?side2 ?side3 ?side4 ?side5 ?side6 A5.out).mono ?_);(case side1=>repeat(first|exact(Kd.S_reads' HO_5.out).2.2|(with_reducible refine Kd.C_alloc ?_ _)|(with_reducible refine Kd.C_drewN ?_ _)|(with_reducible refine Kd.C_drew ?_)));(case side2=>exact(Kd.S_reads' HO_5.out).2.1);(case side3=>repeat(first|exact(Kd.C_below HR0.out HB.out)|(with_reducible refine Kd.C_alloc ?_ _)|(with_reducible refine Kd.C_drewN ?_ _)|(with_reducible refine Kd.C_drew ?_)));(case side4=>exact HC0.out);(case side5=>repeat(first|exact(Kd.C_below HR1.out HB.out)|(with_reducible refine Kd.C_alloc ?_ _)|(with_reducible refine Kd.C_drewN ?_ _)|(with_reducible refine Kd.C_drew ?_)));(case side6=>exact HC1.out);rintro e w9 ⟨rfl,hb⟩;have n0_:=Qk (Kd.S_below (by(with_reducible repeat(first|apply Kd.S_alloc|apply Kd.S_drewN|apply Kd.S_drew));exact HO_5.out) hb);have n1_:=Qk (Kd.R_below (by(with_reducible repeat(first|apply Kd.R_alloc|apply Kd.R_drewN|apply Kd.R_drew));exact HO_6.out) hb);have n2_:=Qk (zi (by repeat(first|(with_reducible first|exact HB.out|apply za|apply zb|apply zg)|exact HB.out)) hb);clear HO_5;clear HO_6;clear HB;have HO_5:=n0_;have HO_6:=n1_;have HB:=n2_;clear n0_ n1_ n2_;(try clear hb);(try clear hb2);(try clear hk);(try clear hi))|((with_reducible refine qf (N:=9) rfl ?_);refine qt ?hg (N:=9) ?hd (cs:=#[.int .i64 0,.int .i64 0]) (t:=54) ?hr ?_;(case hd=>rfl);(case hg=>rfl);(case hr=>first|(go_simp;done)|(go_simp;rfl));intro gb651 hg w10 hbox hb;have n0_:=Qk (Kd.S_below (by(with_reducible repeat(first|apply Kd.S_alloc|apply Kd.S_drewN|apply Kd.S_drew));exact HO_5.out) hb);have n1_:=Qk (Kd.R_below (Kd.R_elderB (by(with_reducible repeat(first|apply Kd.R_alloc|apply Kd.R_drewN|apply Kd.R_drew));exact HO_6.out) gb651 (Nat.le_of_eq hg.symm)) hb);have n2_:=Qk (zi (by repeat(first|(with_reducible first|exact HB.out|apply za|apply zb|apply zg)|exact HB.out)) hb);have n3_:=Qk (hbox);have n4_:=Qk ((by rw[hg];exact(ze (by repeat(first|(with_reducible first|exact HB.out|apply za|apply zb|apply zg)|exact HB.out))):w.heap.size<=gb651));have n5_:=Qk ((by rw[hg];exact(ze (by repeat(first|(with_reducible first|exact HB.out|apply za|apply zb|apply zg)|exact HB.out))):w.heap.size<=gb651));clear HO_5;clear HO_6;clear HB;have HO_5:=n0_;have HO_6:=n1_;have HB:=n2_;have BK651:=n3_;have GW651:=n4_;have GE651:=n5_;clear n0_ n1_ n2_ n3_ n4_ n5_;(try clear hb);(try clear hbox);(try clear hg);have hcz11_0:w10.cell? ⟨gb651,0,none⟩=some (.int .i64 0):=(zf BK651.out 0).trans rfl;have hcz11_1:w10.cell? ⟨gb651,1,none⟩=some (.int .i64 0):=(zf BK651.out 1).trans rfl;have hfz11_0:=zh BK651.out 0;have hfz11_1:=zh BK651.out 1)|((with_reducible refine zO (b:=.append) (xs:=#[.tmp 26,.tmp 28]) rfl ?_);at_builtin;refine Kd.R_append k54 (w0:=w) w.heap.size rfl (.tmp 26) (.tmp 28) 32 54 (.agg #[(.int .i64 0),(.int .i64 0)]) 16 rfl Tryz.underlying32 info54 rfl (by decide) (by omega) u6 x6_1 (⟨t648,t649⟩:S54) [.int .i64 t648,.int .i64 t649] (fun k_=>k_≠gb651) (fun _=>False) rfl (by first|(go_simp;done)|(go_simp;rfl)) ?aP (fun _ hk=>hk.elim) ?aF ?aO ?aB ?aS ?aL ?_;(case aP=>exact Qe _ _ _ (⟨t648,t649⟩:S54));(case aB=>exact(by repeat(first|(with_reducible first|exact HB.out|apply za|apply zb|apply zg|refine zr ?_ GE651.out)|exact HB.out)));(case aF=>exact(fun k_ hk=>Kd.freshB (g:=gb651) (o:=.cells #[.int .i64 t648,.int .i64 t649] 54 (0,0)) (by(with_reducible repeat(first|refine zn ?_ _|refine zo ?_|refine zl ?_ _));refine qi (cs:=#[.int .i64 t648,.int .i64 0]) ?_ 1 _ rfl;(with_reducible repeat(first|refine zn ?_ _|refine zo ?_|refine zl ?_ _));refine qi (cs:=#[.int .i64 0,.int .i64 0]) ?_ 0 _ rfl;(with_reducible repeat(first|refine zn ?_ _|refine zo ?_|refine zl ?_ _));exact BK651.out) k_ hk));(case aO=>exact(by(with_reducible repeat(first|apply Kd.R_alloc|apply Kd.R_drewN|apply Kd.R_drew));exact Kd.R_mono (Kd.R_far (p:=⟨gb651,1,none⟩) (Kd.R_far (p:=⟨gb651,0,none⟩) (Kd.R_mono HO_6.out (fun k_ hk=>(⟨hk,hk.2⟩:_/\k_≠gb651))) (fun _ hk=>hk.2) (.int .i64 t648)) (fun _ hk=>hk.2) (.int .i64 t649)) (fun _ hk=>hk.1.2)));(case aS=>exact(ze (by repeat(first|(with_reducible first|exact HB.out|apply za|apply zb|apply zg|refine zr ?_ GE651.out)|exact HB.out))));(case aL=>have:=LMc7.out;omega);intro v653 w12 ho hb hg hat;rw[← Ny652.out]at ho;have n0_:=Qk (Kd.S_over' (by(with_reducible repeat(first|apply Kd.S_alloc|apply Kd.S_drewN|apply Kd.S_drew));exact(Kd.S_mono (Kd.S_far (p:=⟨gb651,1,none⟩) (Kd.S_far (p:=⟨gb651,0,none⟩) (Kd.S_types HO_5.out BK651.out (by decide)) (fun _ hk=>hk.2) (.int .i64 t648)) (fun _ hk=>hk.2) (.int .i64 t649)) (fun _ h_=>h_.1))) (Kd.R_typed (by(with_reducible repeat(first|apply Kd.R_alloc|apply Kd.R_drewN|apply Kd.R_drew));exact(Kd.R_mono (Kd.R_far (p:=⟨gb651,1,none⟩) (Kd.R_far (p:=⟨gb651,0,none⟩) (Kd.R_mono HO_6.out (fun k_ hk=>(⟨hk,hk.2⟩:_/\k_≠gb651))) (fun _ hk=>hk.2) (.int .i64 t648)) (fun _ hk=>hk.2) (.int .i64 t649)) (fun _ h_=>h_.1)))) (by decide) hg);have n1_:=Qk (qC (g:=gb651) (o:=.cells #[.int .i64 t648,.int .i64 t649] 54 (0,0)) (by(with_reducible repeat(first|refine zn ?_ _|refine zo ?_|refine zl ?_ _));refine qi (cs:=#[.int .i64 t648,.int .i64 0]) ?_ 1 _ rfl;(with_reducible repeat(first|refine zn ?_ _|refine zo ?_|refine zl ?_ _));refine qi (cs:=#[.int .i64 0,.int .i64 0]) ?_ 0 _ rfl;(with_reducible repeat(first|refine zn ?_ _|refine zo ?_|refine zl ?_ _));exact BK651.out) hg (Kd.R_away HO_6.out (fun _ hk=>hk.2)));have n2_:=Qk (hb);have n3_:=Qk (ho);clear HO_5;clear BK651;clear HB;clear HO_6;have HO_5:=n0_;have BK651:=n1_;have HB:=n2_;have HO654:=n3_;clear n0_ n1_ n2_ n3_;(try clear ho);(try clear hb);(try clear hg);(try clear hat);have hcz13_0:w12.cell? ⟨gb651,0,none⟩=some (.int .i64 t648):=(zf BK651.out 0).trans rfl;have hcz13_1:w12.cell? ⟨gb651,1,none⟩=some (.int .i64 t649):=(zf BK651.out 1).trans rfl;have hfz13_0:=zh BK651.out 0;have hfz13_1:=zh BK651.out 1))
    repeat(go_quiet (first|(go_at_call 133;(with_reducible refine(qd.calls k1 _ _ t645 _ _ l0 _ _ l1 x7_1 x8_1 t648 t649 true _ ?side1 ?side2 ?side3 ?side4 ?side5 ?side6 A5.out).mono ?_);(case side1=>repeat(first|exact(Kd.S_reads' HO_5.out).2.2|(with_reducible refine Kd.C_alloc ?_ _)|(with_reducible refine Kd.C_drewN ?_ _)|(with_reducible refine Kd.C_drew ?_)));(case side2=>exact(Kd.S_reads' HO_5.out).2.1);(case side3=>repeat(first|exact(Kd.C_below HR0.out HB.out)|(with_reducible refine Kd.C_alloc ?_ _)|(with_reducible refine Kd.C_drewN ?_ _)|(with_reducible refine Kd.C_drew ?_)));(case side4=>exact HC0.out);(case side5=>repeat(first|exact(Kd.C_below HR1.out HB.out)|(with_reducible refine Kd.C_alloc ?_ _)|(with_reducible refine Kd.C_drewN ?_ _)|(with_reducible refine Kd.C_drew ?_)));(case side6=>exact HC1.out);rintro e w9 ⟨rfl,hb⟩;replace HO_5:=Qk (Kd.S_below (by(with_reducible repeat(first|apply Kd.S_alloc|apply Kd.S_drewN|apply Kd.S_drew));exact HO_5.out) hb);replace HO_6:=Qk (Kd.R_below (by(with_reducible repeat(first|apply Kd.R_alloc|apply Kd.R_drewN|apply Kd.R_drew));exact HO_6.out) hb);replace HB:=Qk (zi (by repeat(first|(with_reducible first|exact HB.out|apply za|apply zb|apply zg)|exact HB.out)) hb);(try clear hb);(try clear hb2);(try clear hk);(try clear hi))|((with_reducible refine qf (N:=9) rfl ?_);refine qt ?hg (N:=9) ?hd (cs:=#[.int .i64 0,.int .i64 0]) (t:=54) ?hr ?_;(case hd=>rfl);(case hg=>rfl);(case hr=>first|(go_simp;done)|(go_simp;rfl));intro gb651 hg w10 hbox hb;replace HO_5:=Qk (Kd.S_below (by(with_reducible repeat(first|apply Kd.S_alloc|apply Kd.S_drewN|apply Kd.S_drew));exact HO_5.out) hb);replace HO_6:=Qk (Kd.R_below (Kd.R_elderB (by(with_reducible repeat(first|apply Kd.R_alloc|apply Kd.R_drewN|apply Kd.R_drew));exact HO_6.out) gb651 (Nat.le_of_eq hg.symm)) hb);replace HB:=Qk (zi (by repeat(first|(with_reducible first|exact HB.out|apply za|apply zb|apply zg)|exact HB.out)) hb);have BK651:=Qk (hbox);have GW651:=Qk ((by rw[hg];exact(ze (by repeat(first|(with_reducible first|exact HB.out|apply za|apply zb|apply zg)|exact HB.out))):w.heap.size<=gb651));have GE651:=Qk ((by rw[hg];exact(ze (by repeat(first|(with_reducible first|exact HB.out|apply za|apply zb|apply zg)|exact HB.out))):w.heap.size<=gb651));(try clear hb);(try clear hbox);(try clear hg);have hcz11_0:w10.cell? ⟨gb651,0,none⟩=some (.int .i64 0):=(zf BK651.out 0).trans rfl;have hcz11_1:w10.cell? ⟨gb651,1,none⟩=some (.int .i64 0):=(zf BK651.out 1).trans rfl;have hfz11_0:=zh BK651.out 0;have hfz11_1:=zh BK651.out 1)|((with_reducible refine zO (b:=.append) (xs:=#[.tmp 26,.tmp 28]) rfl ?_);at_builtin;refine Kd.R_append k54 (w0:=w) w.heap.size rfl (.tmp 26) (.tmp 28) 32 54 (.agg #[(.int .i64 0),(.int .i64 0)]) 16 rfl Tryz.underlying32 info54 rfl (by decide) (by omega) u6 x6_1 (⟨t648,t649⟩:S54) [.int .i64 t648,.int .i64 t649] (fun k_=>k_≠gb651) (fun _=>False) rfl (by first|(go_simp;done)|(go_simp;rfl)) ?aP (fun _ hk=>hk.elim) ?aF ?aO ?aB ?aS ?aL ?_;(case aP=>exact Qe _ _ _ (⟨t648,t649⟩:S54));(case aB=>exact(by repeat(first|(with_reducible first|exact HB.out|apply za|apply zb|apply zg|refine zr ?_ GE651.out)|exact HB.out)));(case aF=>exact(fun k_ hk=>Kd.freshB (g:=gb651) (o:=.cells #[.int .i64 t648,.int .i64 t649] 54 (0,0)) (by(with_reducible repeat(first|refine zn ?_ _|refine zo ?_|refine zl ?_ _));refine qi (cs:=#[.int .i64 t648,.int .i64 0]) ?_ 1 _ rfl;(with_reducible repeat(first|refine zn ?_ _|refine zo ?_|refine zl ?_ _));refine qi (cs:=#[.int .i64 0,.int .i64 0]) ?_ 0 _ rfl;(with_reducible repeat(first|refine zn ?_ _|refine zo ?_|refine zl ?_ _));exact BK651.out) k_ hk));(case aO=>exact(by(with_reducible repeat(first|apply Kd.R_alloc|apply Kd.R_drewN|apply Kd.R_drew));exact Kd.R_mono (Kd.R_far (p:=⟨gb651,1,none⟩) (Kd.R_far (p:=⟨gb651,0,none⟩) (Kd.R_mono HO_6.out (fun k_ hk=>(⟨hk,hk.2⟩:_/\k_≠gb651))) (fun _ hk=>hk.2) (.int .i64 t648)) (fun _ hk=>hk.2) (.int .i64 t649)) (fun _ hk=>hk.1.2)));(case aS=>exact(ze (by repeat(first|(with_reducible first|exact HB.out|apply za|apply zb|apply zg|refine zr ?_ GE651.out)|exact HB.out))));(case aL=>have:=LMc7.out;omega);intro v653 w12 ho hb hg hat;rw[← Ny652.out]at ho;replace HO_5:=Qk (Kd.S_over' (by(with_reducible repeat(first|apply Kd.S_alloc|apply Kd.S_drewN|apply Kd.S_drew));exact(Kd.S_mono (Kd.S_far (p:=⟨gb651,1,none⟩) (Kd.S_far (p:=⟨gb651,0,none⟩) (Kd.S_types HO_5.out BK651.out (by decide)) (fun _ hk=>hk.2) (.int .i64 t648)) (fun _ hk=>hk.2) (.int .i64 t649)) (fun _ h_=>h_.1))) (Kd.R_typed (by(with_reducible repeat(first|apply Kd.R_alloc|apply Kd.R_drewN|apply Kd.R_drew));exact(Kd.R_mono (Kd.R_far (p:=⟨gb651,1,none⟩) (Kd.R_far (p:=⟨gb651,0,none⟩) (Kd.R_mono HO_6.out (fun k_ hk=>(⟨hk,hk.2⟩:_/\k_≠gb651))) (fun _ hk=>hk.2) (.int .i64 t648)) (fun _ hk=>hk.2) (.int .i64 t649)) (fun _ h_=>h_.1)))) (by decide) hg);replace BK651:=Qk (qC (g:=gb651) (o:=.cells #[.int .i64 t648,.int .i64 t649] 54 (0,0)) (by(with_reducible repeat(first|refine zn ?_ _|refine zo ?_|refine zl ?_ _));refine qi (cs:=#[.int .i64 t648,.int .i64 0]) ?_ 1 _ rfl;(with_reducible repeat(first|refine zn ?_ _|refine zo ?_|refine zl ?_ _));refine qi (cs:=#[.int .i64 0,.int .i64 0]) ?_ 0 _ rfl;(with_reducible repeat(first|refine zn ?_ _|refine zo ?_|refine zl ?_ _));exact BK651.out) hg (Kd.R_away HO_6.out (fun _ hk=>hk.2)));replace HB:=Qk (hb);have HO654:=Qk (ho);clear HO_6;(try clear ho);(try clear hb);(try clear hg);(try clear hat);have hcz13_0:w12.cell? ⟨gb651,0,none⟩=some (.int .i64 t648):=(zf BK651.out 0).trans rfl;have hcz13_1:w12.cell? ⟨gb651,1,none⟩=some (.int .i64 t649):=(zf BK651.out 1).trans rfl;have hfz13_0:=zh BK651.out 0;have hfz13_1:=zh BK651.out 1));try go_wp2_with (first|(go_at_call 133;(with_reducible refine(qd.calls k1 _ _ t645 _ _ l0 _ _ l1 x7_1 x8_1 t648 t649 true _ ?side1 ?side2 ?side3 ?side4 ?side5 ?side6 A5.out).mono ?_);(case side1=>repeat(first|exact(Kd.S_reads' HO_5.out).2.2|(with_reducible refine Kd.C_alloc ?_ _)|(with_reducible refine Kd.C_drewN ?_ _)|(with_reducible refine Kd.C_drew ?_)));(case side2=>exact(Kd.S_reads' HO_5.out).2.1);(case side3=>repeat(first|exact(Kd.C_below HR0.out HB.out)|(with_reducible refine Kd.C_alloc ?_ _)|(with_reducible refine Kd.C_drewN ?_ _)|(with_reducible refine Kd.C_drew ?_)));(case side4=>exact HC0.out);(case side5=>repeat(first|exact(Kd.C_below HR1.out HB.out)|(with_reducible refine Kd.C_alloc ?_ _)|(with_reducible refine Kd.C_drewN ?_ _)|(with_reducible refine Kd.C_drew ?_)));(case side6=>exact HC1.out);rintro e w9 ⟨rfl,hb⟩;replace HO_5:=Qk (Kd.S_below (by(with_reducible repeat(first|apply Kd.S_alloc|apply Kd.S_drewN|apply Kd.S_drew));exact HO_5.out) hb);replace HO_6:=Qk (Kd.R_below (by(with_reducible repeat(first|apply Kd.R_alloc|apply Kd.R_drewN|apply Kd.R_drew));exact HO_6.out) hb);replace HB:=Qk (zi (by repeat(first|(with_reducible first|exact HB.out|apply za|apply zb|apply zg)|exact HB.out)) hb);(try clear hb);(try clear hb2);(try clear hk);(try clear hi))|((with_reducible refine qf (N:=9) rfl ?_);refine qt ?hg (N:=9) ?hd (cs:=#[.int .i64 0,.int .i64 0]) (t:=54) ?hr ?_;(case hd=>rfl);(case hg=>rfl);(case hr=>first|(go_simp;done)|(go_simp;rfl));intro gb651 hg w10 hbox hb;replace HO_5:=Qk (Kd.S_below (by(with_reducible repeat(first|apply Kd.S_alloc|apply Kd.S_drewN|apply Kd.S_drew));exact HO_5.out) hb);replace HO_6:=Qk (Kd.R_below (Kd.R_elderB (by(with_reducible repeat(first|apply Kd.R_alloc|apply Kd.R_drewN|apply Kd.R_drew));exact HO_6.out) gb651 (Nat.le_of_eq hg.symm)) hb);replace HB:=Qk (zi (by repeat(first|(with_reducible first|exact HB.out|apply za|apply zb|apply zg)|exact HB.out)) hb);have BK651:=Qk (hbox);have GW651:=Qk ((by rw[hg];exact(ze (by repeat(first|(with_reducible first|exact HB.out|apply za|apply zb|apply zg)|exact HB.out))):w.heap.size<=gb651));have GE651:=Qk ((by rw[hg];exact(ze (by repeat(first|(with_reducible first|exact HB.out|apply za|apply zb|apply zg)|exact HB.out))):w.heap.size<=gb651));(try clear hb);(try clear hbox);(try clear hg);have hcz11_0:w10.cell? ⟨gb651,0,none⟩=some (.int .i64 0):=(zf BK651.out 0).trans rfl;have hcz11_1:w10.cell? ⟨gb651,1,none⟩=some (.int .i64 0):=(zf BK651.out 1).trans rfl;have hfz11_0:=zh BK651.out 0;have hfz11_1:=zh BK651.out 1)|((with_reducible refine zO (b:=.append) (xs:=#[.tmp 26,.tmp 28]) rfl ?_);at_builtin;refine Kd.R_append k54 (w0:=w) w.heap.size rfl (.tmp 26) (.tmp 28) 32 54 (.agg #[(.int .i64 0),(.int .i64 0)]) 16 rfl Tryz.underlying32 info54 rfl (by decide) (by omega) u6 x6_1 (⟨t648,t649⟩:S54) [.int .i64 t648,.int .i64 t649] (fun k_=>k_≠gb651) (fun _=>False) rfl (by first|(go_simp;done)|(go_simp;rfl)) ?aP (fun _ hk=>hk.elim) ?aF ?aO ?aB ?aS ?aL ?_;(case aP=>exact Qe _ _ _ (⟨t648,t649⟩:S54));(case aB=>exact(by repeat(first|(with_reducible first|exact HB.out|apply za|apply zb|apply zg|refine zr ?_ GE651.out)|exact HB.out)));(case aF=>exact(fun k_ hk=>Kd.freshB (g:=gb651) (o:=.cells #[.int .i64 t648,.int .i64 t649] 54 (0,0)) (by(with_reducible repeat(first|refine zn ?_ _|refine zo ?_|refine zl ?_ _));refine qi (cs:=#[.int .i64 t648,.int .i64 0]) ?_ 1 _ rfl;(with_reducible repeat(first|refine zn ?_ _|refine zo ?_|refine zl ?_ _));refine qi (cs:=#[.int .i64 0,.int .i64 0]) ?_ 0 _ rfl;(with_reducible repeat(first|refine zn ?_ _|refine zo ?_|refine zl ?_ _));exact BK651.out) k_ hk));(case aO=>exact(by(with_reducible repeat(first|apply Kd.R_alloc|apply Kd.R_drewN|apply Kd.R_drew));exact Kd.R_mono (Kd.R_far (p:=⟨gb651,1,none⟩) (Kd.R_far (p:=⟨gb651,0,none⟩) (Kd.R_mono HO_6.out (fun k_ hk=>(⟨hk,hk.2⟩:_/\k_≠gb651))) (fun _ hk=>hk.2) (.int .i64 t648)) (fun _ hk=>hk.2) (.int .i64 t649)) (fun _ hk=>hk.1.2)));(case aS=>exact(ze (by repeat(first|(with_reducible first|exact HB.out|apply za|apply zb|apply zg|refine zr ?_ GE651.out)|exact HB.out))));(case aL=>have:=LMc7.out;omega);intro v653 w12 ho hb hg hat;rw[← Ny652.out]at ho;replace HO_5:=Qk (Kd.S_over' (by(with_reducible repeat(first|apply Kd.S_alloc|apply Kd.S_drewN|apply Kd.S_drew));exact(Kd.S_mono (Kd.S_far (p:=⟨gb651,1,none⟩) (Kd.S_far (p:=⟨gb651,0,none⟩) (Kd.S_types HO_5.out BK651.out (by decide)) (fun _ hk=>hk.2) (.int .i64 t648)) (fun _ hk=>hk.2) (.int .i64 t649)) (fun _ h_=>h_.1))) (Kd.R_typed (by(with_reducible repeat(first|apply Kd.R_alloc|apply Kd.R_drewN|apply Kd.R_drew));exact(Kd.R_mono (Kd.R_far (p:=⟨gb651,1,none⟩) (Kd.R_far (p:=⟨gb651,0,none⟩) (Kd.R_mono HO_6.out (fun k_ hk=>(⟨hk,hk.2⟩:_/\k_≠gb651))) (fun _ hk=>hk.2) (.int .i64 t648)) (fun _ hk=>hk.2) (.int .i64 t649)) (fun _ h_=>h_.1)))) (by decide) hg);replace BK651:=Qk (qC (g:=gb651) (o:=.cells #[.int .i64 t648,.int .i64 t649] 54 (0,0)) (by(with_reducible repeat(first|refine zn ?_ _|refine zo ?_|refine zl ?_ _));refine qi (cs:=#[.int .i64 t648,.int .i64 0]) ?_ 1 _ rfl;(with_reducible repeat(first|refine zn ?_ _|refine zo ?_|refine zl ?_ _));refine qi (cs:=#[.int .i64 0,.int .i64 0]) ?_ 0 _ rfl;(with_reducible repeat(first|refine zn ?_ _|refine zo ?_|refine zl ?_ _));exact BK651.out) hg (Kd.R_away HO_6.out (fun _ hk=>hk.2)));replace HB:=Qk (hb);have HO654:=Qk (ho);clear HO_6;(try clear ho);(try clear hb);(try clear hg);(try clear hat);have hcz13_0:w12.cell? ⟨gb651,0,none⟩=some (.int .i64 t648):=(zf BK651.out 0).trans rfl;have hcz13_1:w12.cell? ⟨gb651,1,none⟩=some (.int .i64 t649):=(zf BK651.out 1).trans rfl;have hfz13_0:=zh BK651.out 0;have hfz13_1:=zh BK651.out 1)))
    go_roundg k1
    case measure=>have:=HK1.out;omega
    case rel=>exact⟨(y652),(wrap64 (t648+1)),(wrap64 (t649+1)),rfl,rfl,H',⟨by have:=HK1.out;omega⟩,⟨by(with_reducible repeat(first|apply Kd.S_alloc|apply Kd.S_drewN|apply Kd.S_drew));exact HO_5.out⟩,⟨by(with_reducible repeat(first|apply Kd.R_alloc|apply Kd.R_drewN|apply Kd.R_drew));exact Kd.R_mono HO654.out (fun _ hk=>trivial)⟩,⟨by repeat(first|(with_reducible first|exact HB.out|apply za|apply zb|apply zg|refine zr ?_ GE651.out)|exact HB.out)⟩⟩
   ·replace c6:=Bool.eq_false_iff.mpr c6;subst c6;have H1:(some x6_1)=some r:=by rw[if_neg (show ¬ (false=true) by decide)]at H;exact H
    clear H;have H:=H1;clear H1;obtain rfl:=Qp H;obtain⟨Ao14,co14,eo14⟩:=Kd.S_slice HO_5.out;subst eo14;go_wp2_with (first|(go_at_call 133;(with_reducible refine(qd.calls k1 _ _ t645 _ _ l0 _ _ l1 x7_1 x8_1 t648 t649 false _ ?side1 ?side2 ?side3 ?side4 ?side5 ?side6 A5.out).mono ?_);(case side1=>repeat(first|exact(Kd.S_reads' HO_5.out).2.2|(with_reducible refine Kd.C_alloc ?_ _)|(with_reducible refine Kd.C_drewN ?_ _)|(with_reducible refine Kd.C_drew ?_)));(case side2=>exact(Kd.S_reads' HO_5.out).2.1);(case side3=>repeat(first|exact(Kd.C_below HR0.out HB.out)|(with_reducible refine Kd.C_alloc ?_ _)|(with_reducible refine Kd.C_drewN ?_ _)|(with_reducible refine Kd.C_drew ?_)));(case side4=>exact HC0.out);(case side5=>repeat(first|exact(Kd.C_below HR1.out HB.out)|(with_reducible refine Kd.C_alloc ?_ _)|(with_reducible refine Kd.C_drewN ?_ _)|(with_reducible refine Kd.C_drew ?_)));(case side6=>exact HC1.out);rintro e w15 ⟨rfl,hb⟩;have n0_:=Qk (Kd.S_below HO_5.out hb);have n1_:=Qk (Kd.R_below HO_6.out hb);have n2_:=Qk (zi HB.out hb);clear HO_5;clear HO_6;clear HB;have HO_5:=n0_;have HO_6:=n1_;have HB:=n2_;clear n0_ n1_ n2_;(try clear hb);(try clear hb2);(try clear hk);(try clear hi))|((with_reducible refine qf (N:=9) rfl ?_);refine qt ?hg (N:=9) ?hd (cs:=#[.int .i64 0,.int .i64 0]) (t:=54) ?hr ?_;(case hd=>rfl);(case hg=>rfl);(case hr=>first|(go_simp;done)|(go_simp;rfl));intro gb651 hg w16 hbox hb;have n0_:=Qk (Kd.S_below HO_5.out hb);have n1_:=Qk (Kd.R_below (Kd.R_elderB HO_6.out gb651 (Nat.le_of_eq hg.symm)) hb);have n2_:=Qk (zi HB.out hb);have n3_:=Qk (hbox);have n4_:=Qk ((by rw[hg];exact(ze HB.out):w.heap.size<=gb651));have n5_:=Qk ((by rw[hg];exact(ze HB.out):w.heap.size<=gb651));clear HO_5;clear HO_6;clear HB;have HO_5:=n0_;have HO_6:=n1_;have HB:=n2_;have BK651:=n3_;have GW651:=n4_;have GE651:=n5_;clear n0_ n1_ n2_ n3_ n4_ n5_;(try clear hb);(try clear hbox);(try clear hg);have hcz17_0:w16.cell? ⟨gb651,0,none⟩=some (.int .i64 0):=(zf BK651.out 0).trans rfl;have hcz17_1:w16.cell? ⟨gb651,1,none⟩=some (.int .i64 0):=(zf BK651.out 1).trans rfl;have hfz17_0:=zh BK651.out 0;have hfz17_1:=zh BK651.out 1))
    go_ret;exact⟨_,rfl,by(with_reducible repeat(first|apply Kd.R_alloc|apply Kd.R_drewN|apply Kd.R_drew));exact Kd.R_mono (Kd.R_far (p:=⟨gb651,1,none⟩) (Kd.R_far (p:=⟨gb651,0,none⟩) (Kd.R_mono HO_6.out (fun k_ hk=>(⟨hk,hk.2⟩:_/\k_≠gb651))) (fun _ hk=>hk.2) (.int .i64 t648)) (fun _ hk=>hk.2) (.int .i64 t649)) (fun _ hk=>trivial),by repeat(first|(with_reducible first|exact HB.out|apply za|apply zb|apply zg|refine zr ?_ GE651.out)|exact HB.out)⟩
def ZB.f(a0:Int):Option (Bool):=if a0=0 then(some true)else(some (a0 == 1))
theorem ZB.calls(a0:Int)(r:Bool)(w:World)(h:ZB.f a0=some r) :
 Calls Tryz.prog 137 #[.int .i64 a0] w fun e w'=>e=.returned (.bool r)/\Drawn0 w w':=by
 have H:(if a0=0 then(some true)else(some (a0 == 1)))=some r:=h;clear h;by_cases c2:a0=0
 ·rw[if_pos c2]at H;have c2b0:(a0 == 0)=true:=beq_iff_eq.mpr c2;have c2b1:(a0 != 0)=false:=bne_eq_false_iff_eq.mpr c2;clear c2;obtain rfl:=Qp H;go_enter Tryz.func137,Tryz.ntmps137;go_wp2;go_ret;exact⟨rfl,by repeat(first|exact Drawn0.refl _|apply Drawn0.step)⟩
 ·rw[if_neg c2]at H;have c2b0:(a0 == 0)=false:=beq_eq_false_iff_ne.mpr c2;have c2b1:(a0 != 0)=true:=bne_iff_ne.mpr c2;obtain rfl:=Qp H;go_enter Tryz.func137,Tryz.ntmps137;go_wp2;go_ret;exact⟨rfl,by repeat(first|exact Drawn0.refl _|apply Drawn0.step)⟩
def qp.f(l0:List Int)(a1:Int):Option Int:=some (Lib.indexByte (Lib.bytesOf l0) a1.toNat.toUInt8)
theorem qp.calls(A0:Option Addr)(c0:Nat)(l0:List Int)(a1:Int)(r:Int)(w:World)(hr0:Kd.C (Kd.int .u8) w A0 l0.length l0)(hc0:l0.length<=c0)(h:qp.f l0 a1=some r) :
 Calls Tryz.prog 138 #[.slice A0 l0.length c0,.int .u8 a1] w fun e w'=>e=.returned (.int .i64 r)/\Drawn0 w w':=by
 obtain rfl:=Qp h
 cases A0 with
 |none =>
  have h0:=none_u8 hr0;subst h0;go_enter Tryz.func138,Tryz.ntmps138;go_wp2;rw[run_callFunc_extern Tryz.func177 (by kernel_rfl) (by kernel_rfl) (by kernel_rfl) (e:=Extern.BytealgIndexByte.indexByte) (by kernel_rfl),Lib.run_indexByteNil];simp only[Result.andThen];rw[Oper.upon_value];go_wp2;go_ret;exact⟨rfl,Drawn0.refl _⟩
 |some a =>
  have hc:=cells_u8 hr0;clear hr0;go_enter Tryz.func138,Tryz.ntmps138;go_wp2;rw[run_callFunc_extern Tryz.func177 (by kernel_rfl) (by kernel_rfl) (by kernel_rfl) (e:=Extern.BytealgIndexByte.indexByte) (by kernel_rfl),Lib.run_indexByteAt w a l0.length c0 l0 rfl hc a1];simp only[Result.andThen];rw[Oper.upon_value];go_wp2;go_ret;exact⟨rfl,Drawn0.refl _⟩
def qa.l0:Nat->Int->List Int->List (List Int)->Option ((List (List Int))×Int)
 |0,_,_,_=>none
 |k+1,x0,x1,x6=>if (x1.length:Int) > 0 then(if x0=1 then((qp.f x1 10).bind fun t113=>(if (wrap64 (t113+1))=0 then(if 0<=(x1.length:Int)then(if (x1.length:Int)<=(x1.length:Int)then((zU.f (x1.take ((x1.length:Int):Int).toNat)).bind fun t119=>(if x6.length<5864062014805 then(qa.l0 k x0 (x1.drop ((x1.length:Int):Int).toNat) (x6++[t119]))else(none)))else(none))else(none))else(if 0<=(wrap64 (t113+1))then(if (wrap64 (t113+1))<=(x1.length:Int)then((zU.f (x1.take ((wrap64 (t113+1)):Int).toNat)).bind fun t135=>(if x6.length<5864062014805 then(qa.l0 k x0 (x1.drop ((wrap64 (t113+1)):Int).toNat) (x6++[t135]))else(none)))else(none))else(none))))else(if 1<=(x1.length:Int)then((zU.f (x1.take 1)).bind fun t151=>(if x6.length<5864062014805 then(qa.l0 k x0 (x1.drop 1) (x6++[t151]))else(none)))else(none)))else(some (x6,0))
def qa.f(k:Nat)(a0:Int)(l1:List Int):Option ((List (List Int))×Int):=(ZB.f a0).bind fun t112=>(if t112=true then(qa.l0 k a0 l1 ([]:List (List Int)))else(some (([]:List (List Int)),1)))
theorem qa.calls(k:Nat)(a0:Int)(P1_:Nat->Prop)(A1:Option Addr)(c1:Nat)(l1:List Int)(r1:List (List Int))(r2:Int)(w:World)(hs1:Kd.V (Kd.int .u8) 5 w w.heap.size (fun k_=>P1_ k_) (.slice A1 l1.length c1) l1)(h:qa.f k a0 l1=some (r1,r2)) :
 Calls Tryz.prog 84 #[.int .i64 a0,.slice A1 l1.length c1] w fun e w'=>∃ v0_:Value,e=.returned (.tuple #[v0_,.int .i64 r2])/\Kd.S (Kd.slice 5 (Kd.int .u8)) 22 w' w.heap.size (fun k_=>(w.heap.size<=k_)) v0_ r1/\Below w.heap.size w w':=by
 have HO1:=Qk (show Kd.V (Kd.int .u8) 5 w w.heap.size (fun k_=>(P1_ k_\/w.heap.size<=k_)) (.slice A1 l1.length c1) l1 from Kd.V_mono hs1 (fun k_ hk=>.inl hk));have HB:=Qk (Below.refl w.heap.size w);have H:((ZB.f a0).bind fun t112=>(if t112=true then(qa.l0 k a0 l1 ([]:List (List Int)))else(some (([]:List (List Int)),1))))=some (r1,r2):=h;clear h;replace H:=Qo H;obtain⟨t112,A30,H⟩:=H;replace H:(if t112=true then(qa.l0 k a0 l1 ([]:List (List Int)))else(some (([]:List (List Int)),1)))=some (r1,r2):=H;have A3:=Qk A30;clear A30;by_cases c4:t112=true
 ·subst c4;have H1:(qa.l0 k a0 l1 ([]:List (List Int)))=some (r1,r2):=by rw[if_pos rfl]at H;exact H
  clear H;have H:=H1;clear H1;have H':=Qk H;clear H;go_enter Tryz.func84,Tryz.ntmps84;go_wp2_with (first|(go_at_call 137;(with_reducible refine(ZB.calls a0 true _ A3.out).mono ?_);rintro e w' ⟨rfl,⟨nd,rfl⟩⟩;(try refine⟨_,rfl,?_⟩)))
  go_loopg [1,6] k (fun kq v1 v6 w'=>∃ (x1_1:List Int) (x6_1:List (List Int)),Aside0 (qa.l0 kq a0 x1_1 x6_1=some (r1,r2))/\Aside0 (kq<=k)/\Aside0 (Kd.V (Kd.int .u8) 5 w' w.heap.size (fun k_=>(P1_ k_\/w.heap.size<=k_)/\some k_≠(v6:Value).ownBlock) v1 x1_1)/\Aside0 (Kd.S (Kd.slice 5 (Kd.int .u8)) 22 w' w.heap.size (fun k_=>(w.heap.size<=k_)) v6 x6_1)/\Aside0 (Below w.heap.size w w'))
  case atStart=>exact⟨(l1),(([]:List (List Int))),H',⟨Nat.le_refl _⟩,⟨by(with_reducible repeat(first|apply Kd.V_alloc|apply Kd.V_drewN|apply Kd.V_drew));exact Kd.V_mono HO1.out (fun _ hk=>⟨hk,(by simp[Value.ownBlock])⟩)⟩,⟨by first|exact Kd.S_nil _ _ _ _ _|exact Kd.N_nil _ _ _ _ _|exact Kd.V_nil _ _ _ _ _|exact Kd.Q_nil _ _ _ _ _|exact Kd.R_nil _ _ _ _ _⟩,⟨by repeat(first|(with_reducible first|exact HB.out|apply za|apply zb|apply zg)|exact HB.out)⟩⟩
  case round =>
   clear H';obtain⟨x1_1,x6_1,HA,HK1,HO_1,HO_6,HB⟩:=hrel
   cases gk with
   |zero=>exact absurd HA.out (by simp[qa.l0])
   |succ k1 =>
    have H:=HA.out;clear HA;simp only[qa.l0]at H;by_cases c5:(x1_1.length:Int) > 0
    ·rw[if_pos c5]at H;have c5b0:decide (0<(x1_1.length:Int))=true:=Qm c5;have c5b1:decide (0<x1_1.length)=true:=Qm (by omega);clear c5;by_cases c6:a0=1
     ·rw[if_pos c6]at H;have c6b0:(a0 == 1)=true:=beq_iff_eq.mpr c6;have c6b1:(a0 != 1)=false:=bne_eq_false_iff_eq.mpr c6;clear c6;replace H:=Qo H;obtain⟨t113,A70,H⟩:=H;replace H:(if (wrap64 (t113+1))=0 then(if 0<=(x1_1.length:Int)then(if (x1_1.length:Int)<=(x1_1.length:Int)then((zU.f (x1_1.take ((x1_1.length:Int):Int).toNat)).bind fun t119=>(if x6_1.length<5864062014805 then(qa.l0 k1 a0 (x1_1.drop ((x1_1.length:Int):Int).toNat) (x6_1++[t119]))else(none)))else(none))else(none))else(if 0<=(wrap64 (t113+1))then(if (wrap64 (t113+1))<=(x1_1.length:Int)then((zU.f (x1_1.take ((wrap64 (t113+1)):Int).toNat)).bind fun t135=>(if x6_1.length<5864062014805 then(qa.l0 k1 a0 (x1_1.drop ((wrap64 (t113+1)):Int).toNat) (x6_1++[t135]))else(none)))else(none))else(none)))=some (r1,r2):=H;have A7:=Qk A70;clear A70;by_cases c8:(wrap64 (t113+1))=0
      ·rw[if_pos c8]at H;have c8b0:((wrap64 (t113+1)) == 0)=true:=beq_iff_eq.mpr c8;have c8b1:((wrap64 (t113+1)) != 0)=false:=bne_eq_false_iff_eq.mpr c8;clear c8;replace H:=ifSome H;obtain⟨c9,H⟩:=H;have c9b0:=Qr c9;have c9b1:decide (0<=(x1_1.length:Int))=true:=Qm c9;clear c9;replace H:=ifSome H;obtain⟨c10,H⟩:=H;have c10b0:=Qr c10;have c10b1:decide ((x1_1.length:Int)<=(x1_1.length:Int))=true:=Qm c10;clear c10;obtain⟨y114,hy114⟩:∃ y_:List Int,y_=(x1_1.take ((x1_1.length:Int):Int).toNat):=⟨_,rfl⟩
       replace H:((zU.f y114).bind fun t119=>(if x6_1.length<5864062014805 then(qa.l0 k1 a0 (x1_1.drop ((x1_1.length:Int):Int).toNat) (x6_1++[t119]))else(none)))=some (r1,r2):=by first|(rw[hy114];with_reducible exact H)|(have H2_:=(Option.bind_some _ _).symm.trans H;rw[hy114];with_reducible exact H2_)|(have H2_:=(Option.bind_some _ _).symm.trans H;with_reducible exact H2_)|with_reducible exact H|(rw[hy114];exact H)|exact H
       have Ny114:=Qk hy114;clear hy114;replace H:=Qo H;obtain⟨t119,A110,H⟩:=H;replace H:(if x6_1.length<5864062014805 then(qa.l0 k1 a0 (x1_1.drop ((x1_1.length:Int):Int).toNat) (x6_1++[t119]))else(none))=some (r1,r2):=H;have A11:=Qk A110;clear A110;replace H:=ifSome H;obtain⟨c12,H⟩:=H;have LMc12:=Qk c12;clear c12;obtain⟨y122,hy122⟩:∃ y_:List (List Int),y_=(x6_1++[t119]):=⟨_,rfl⟩
       replace H:(qa.l0 k1 a0 (x1_1.drop ((x1_1.length:Int):Int).toNat) y122)=some (r1,r2):=by first|(rw[hy122];with_reducible exact H)|(have H2_:=(Option.bind_some _ _).symm.trans H;rw[hy122];with_reducible exact H2_)|(have H2_:=(Option.bind_some _ _).symm.trans H;with_reducible exact H2_)|with_reducible exact H|(rw[hy122];exact H)|exact H
       have Ny122:=Qk hy122;clear hy122;have c13b0:=Qr (Ql (by assumption):0<=(x1_1.length:Int));have c14b0:=Qr (Ql (by first|(with_reducible assumption)|assumption):(x1_1.length:Int)<=(x1_1.length:Int));obtain⟨y125,hy125⟩:∃ y_:List Int,y_=(x1_1.drop ((x1_1.length:Int):Int).toNat):=⟨_,rfl⟩
       replace H:(qa.l0 k1 a0 y125 y122)=some (r1,r2):=by first|(rw[hy125];with_reducible exact H)|(have H2_:=(Option.bind_some _ _).symm.trans H;rw[hy125];with_reducible exact H2_)|(have H2_:=(Option.bind_some _ _).symm.trans H;with_reducible exact H2_)|with_reducible exact H|(rw[hy125];exact H)|exact H
       have Ny125:=Qk hy125;clear hy125;have H':=Qk H;clear H;obtain⟨Ao15,co15,eo15⟩:=Kd.V_slice HO_1.out;subst eo15;go_wp2_with (first|(go_at_call 138;(with_reducible refine(qp.calls _ _ x1_1 10 t113 _ ?side1 ?side2 A7.out).mono ?_);(case side1=>repeat(first|exact(Kd.V_reads' HO_1.out).2.2|(with_reducible refine Kd.C_alloc ?_ _)|(with_reducible refine Kd.C_drewN ?_ _)|(with_reducible refine Kd.C_drew ?_)));(case side2=>exact(Kd.V_reads' HO_1.out).2.1);rintro e w' ⟨rfl,⟨nd,rfl⟩⟩;(try refine⟨_,rfl,?_⟩);have q16:((x1_1.length:Int):Int)<=((x1_1.length:Int):Int):=Ql (by first|(with_reducible assumption)|assumption);obtain⟨i016,hi016,_,hsz16,_⟩:=info_parts info5;have hroom16:x1_1.length<=co15:=(Kd.V_reads' HO_1.out).2.1;have hC16:Kd.F (Kd.int .u8) _ _ Ao15 x1_1.length x1_1:=(Kd.V_at (base:=w.heap.size) HO_1.out).2.2;have hcut16:=cut_to (P:=Tryz.prog) 22 5 .i64 Tryz.underlying22 hi016 Ao15 x1_1.length co15 (x1_1.length:Int) (Ql (by first|(with_reducible assumption)|assumption)) q16 hroom16;have hr16:=Kd.F_take (m:=((x1_1.length:Int):Int).toNat) hC16 (by omega);have hy16:y114.length=((x1_1.length:Int):Int).toNat:=(by rw[Ny114.out,List.length_take];omega);rw[← Ny114.out]at hr16;rw[← hy16]at hcut16;have HO118:=Qk (show Kd.V (Kd.int .u8) 5 _ w.heap.size _ (.slice Ao15 y114.length co15) y114 from Kd.V_mk (by omega) hr16);have HC118:=Qk (show y114.length<=co15 from by omega);(try clear hr16);(try clear hC16);(try clear hroom16);(try clear hi016);(try clear hsz16);have KY16:=Qk hy16;clear hy16;replace q16:=Qr q16)|(go_at_call 101;(with_reducible refine(zU.calls _ _ y114 t119 _ ?side1 ?side2 A11.out).mono ?_);(case side1=>repeat(first|exact(Kd.V_reads' HO118.out).2.2|(with_reducible refine Kd.C_alloc ?_ _)|(with_reducible refine Kd.C_drewN ?_ _)|(with_reducible refine Kd.C_drew ?_)));(case side2=>exact(Kd.V_reads' HO118.out).2.1);rintro e w17 ⟨v120,rfl,ho0,hb⟩;(try refine⟨_,rfl,?_⟩);replace HO_1:=Qk (Kd.V_elder' (by(with_reducible repeat(first|apply Kd.V_alloc|apply Kd.V_drewN|apply Kd.V_drew));exact HO_1.out) (Kd.R_base ho0) hb);replace HO_6:=Qk (Kd.S_elder' (by(with_reducible repeat(first|apply Kd.S_alloc|apply Kd.S_drewN|apply Kd.S_drew));exact HO_6.out) (Kd.R_base ho0) hb);replace HO118:=Qk (Kd.V_elder' (by(with_reducible repeat(first|apply Kd.V_alloc|apply Kd.V_drewN|apply Kd.V_drew));exact HO118.out) (Kd.R_base ho0) hb);have HO121:=Qk (Kd.R_lower (Kd.R_newM (M:=fun k_=>(w.heap.size<=k_)) ho0 (ze (by repeat(first|(with_reducible first|exact HB.out|apply za|apply zb|apply zg)|exact HB.out))) (fun k_ h_=>h_)) (ze (by repeat(first|(with_reducible first|exact HB.out|apply za|apply zb|apply zg)|exact HB.out))));replace HB:=Qk (zi (by repeat(first|(with_reducible first|exact HB.out|apply za|apply zb|apply zg)|exact HB.out)) hb);(try clear hb);(try clear hb2);(try clear hk);(try clear hi);(try clear ho0);obtain⟨Ao19,co19,eo19⟩:=Kd.R_slice HO121.out;subst eo19)|((with_reducible refine zO (b:=.append) (xs:=#[.tmp 23,.tmp 28]) rfl ?_);at_builtin;refine Kd.S_append (Kd.slice 5 (Kd.int .u8)) (w0:=w) w.heap.size rfl (.tmp 23) (.tmp 28) 60 22 (.slice none 0 0) 24 rfl Tryz.underlying60 info22 rfl (by decide) (by omega) u6 x6_1 t119 [.slice Ao19 t119.length co19] (fun k_=>(w.heap.size<=k_)) (fun k_=>some k_=(.slice Ao19 t119.length co19:Value).ownBlock) rfl rfl ?aP (fun k_ hk_=>((Kd.R_mono (ok':=fun k_=>((fun k_=>(w.heap.size<=k_))) k_/\some k_≠(u6:Value).ownBlock) (Kd.R_apart' (HO121.out) (Kd.S_typed HO_6.out) (by decide)) (fun k_ hk=>⟨hk.1.1,hk.2⟩))).1 k_ hk_.symm) ?aF ?aO ?aB ?aS ?aL ?_;(case aP=>exact Kd.M_row (Kd.R_mono (Kd.R_tight rfl (Kd.R_mono (ok':=fun k_=>((fun k_=>(w.heap.size<=k_))) k_/\some k_≠(u6:Value).ownBlock) (Kd.R_apart' (HO121.out) (Kd.S_typed HO_6.out) (by decide)) (fun k_ hk=>⟨hk.1.1,hk.2⟩))) (fun _ h_=>h_)));(case aB=>exact(by repeat(first|(with_reducible first|exact HB.out|apply za|apply zb|apply zg)|exact HB.out)));(case aF=>exact(fun k_ hk=>(Nat.le_trans (ze (by repeat(first|(with_reducible first|exact HB.out|apply za|apply zb|apply zg)|exact HB.out))) hk)));(case aO=>exact(by(with_reducible repeat(first|apply Kd.S_alloc|apply Kd.S_drewN|apply Kd.S_drew));exact Kd.S_mono HO_6.out (fun k_ hk=>⟨hk.1,fun e_=>hk.2 e_⟩)));(case aS=>exact(ze (by repeat(first|(with_reducible first|exact HB.out|apply za|apply zb|apply zg)|exact HB.out))));(case aL=>have:=LMc12.out;omega);intro v123 w18 ho hb hg hat;rw[← Ny122.out]at ho;replace HO_1:=Qk (Kd.V_afterv (ok:=(fun k_=>(P1_ k_\/w.heap.size<=k_)/\some k_≠(.slice Ao19 t119.length co19:Value).ownBlock)) (by(with_reducible repeat(first|apply Kd.V_alloc|apply Kd.V_drewN|apply Kd.V_drew));exact Kd.V_mono HO_1.out (fun _ hk=>⟨⟨hk.1.1,hk.2⟩,hk.1.2⟩)) hg hat);replace HO118:=Qk (Kd.V_afterv (ok:=(fun k_=>(P1_ k_\/w.heap.size<=k_)/\some k_≠(.slice Ao19 t119.length co19:Value).ownBlock)) (by(with_reducible repeat(first|apply Kd.V_alloc|apply Kd.V_drewN|apply Kd.V_drew));exact Kd.V_mono HO118.out (fun _ hk=>⟨⟨hk.1.1,hk.2⟩,hk.1.2⟩)) hg hat);replace HB:=Qk (hb);have HO124:=Qk (ho);clear HO_6 HO121;(try clear ho);(try clear hb);(try clear hg);(try clear hat);have q20:((x1_1.length:Int):Int)<=((x1_1.length:Int):Int):=Ql (by first|(with_reducible assumption)|assumption);obtain⟨i020,hi020,_,hsz20,_⟩:=info_parts info5;have hroom20:x1_1.length<=co15:=(Kd.V_reads' HO_1.out).2.1;have hC20:Kd.F (Kd.int .u8) _ _ Ao15 x1_1.length x1_1:=(Kd.V_at (base:=w.heap.size) HO_1.out).2.2;have q020:(0:Int)<=((x1_1.length:Int):Int):=Ql (by first|(with_reducible assumption)|assumption);have hcut20:=cut_from (P:=Tryz.prog) 22 5 .i64 Tryz.underlying22 hi020 1 hsz20 Ao15 x1_1.length co15 (x1_1.length:Int) q020 q20;have hr20:=Kd.F_cut (m:=((x1_1.length:Int):Int).toNat) (c:=co15) hC20 (by omega) hroom20;obtain⟨A20,hA20⟩:∃ z_,z_=(if co15=((x1_1.length:Int):Int).toNat then Ao15 else(Ao15:Option Addr).map (·.add (((x1_1.length:Int):Int).toNat*1))):=⟨_,rfl⟩;obtain⟨c20,hc20⟩:∃ z_,z_=co15-((x1_1.length:Int):Int).toNat:=⟨_,rfl⟩;have hy20:y125.length=x1_1.length-((x1_1.length:Int):Int).toNat:=(by rw[Ny125.out,List.length_drop] <;> omega);rw[show (x1_1).drop ((x1_1.length:Int):Int).toNat=y125 from Ny125.out.symm]at hr20;replace hr20:Kd.F (Kd.int .u8) _ _ A20 y125.length y125:=(by rw[hA20];exact hr20);rw[← hy20,← hA20,← hc20]at hcut20;have HO129:=Qk (show Kd.V (Kd.int .u8) 5 _ w.heap.size _ (.slice A20 y125.length c20) y125 from Kd.V_mk (by rw[hy20,hc20];exact Nat.sub_le_sub_right hroom20 _) hr20);have HC129:=Qk (show y125.length<=c20 from by rw[hy20,hc20];exact Nat.sub_le_sub_right hroom20 _);(try clear hr20);(try clear hC20);(try clear hroom20);(try clear hi020);(try clear hsz20);(try clear hc20);have KY20:=Qk hy20;have KA20:=Qk hA20;(try clear hy20);(try clear hA20);replace q20:=Qr q20))
       go_roundg k1
       case measure=>have:=HK1.out;omega
       case rel=>exact⟨(y125),(y122),H',⟨by have:=HK1.out;omega⟩,⟨by(with_reducible repeat(first|apply Kd.V_alloc|apply Kd.V_drewN|apply Kd.V_drew));exact Kd.V_mono HO129.out (fun _ hk=>⟨hk.1.1,hk.2⟩)⟩,⟨HO124.out⟩,⟨HB.out⟩⟩
      ·rw[if_neg c8]at H;have c8b0:((wrap64 (t113+1)) == 0)=false:=beq_eq_false_iff_ne.mpr c8;have c8b1:((wrap64 (t113+1)) != 0)=true:=bne_iff_ne.mpr c8;obtain⟨ji21,hji21⟩:∃ j_:Int,(wrap64 (t113+1))=j_:=⟨_,rfl⟩
       replace H:(if 0<=(ji21)then(if (ji21)<=(x1_1.length:Int)then((zU.f (x1_1.take ((ji21):Int).toNat)).bind fun t135=>(if x6_1.length<5864062014805 then(qa.l0 k1 a0 (x1_1.drop ((ji21):Int).toNat) (x6_1++[t135]))else(none)))else(none))else(none))=some (r1,r2):=by first|(rw[hji21]at H;exact H)|(simp only[hji21]at H ⊢;exact H)
       (try rw[hji21]at c8b0);(try rw[hji21]at c8b1);(try rw[hji21]at A7);have hji21w:(IntKind.i64.wrap (t113+1))=ji21:=(zp _).trans hji21;replace H:=ifSome H;obtain⟨c22,H⟩:=H;have c22b0:=Qr c22;have c22b1:decide (0<=(ji21))=true:=Qm c22;clear c22;replace H:=ifSome H;obtain⟨c23,H⟩:=H;have c23b0:=Qr c23;have c23b1:decide ((ji21)<=(x1_1.length:Int))=true:=Qm c23;clear c23;obtain⟨y130,hy130⟩:∃ y_:List Int,y_=(x1_1.take ((ji21):Int).toNat):=⟨_,rfl⟩
       replace H:((zU.f y130).bind fun t135=>(if x6_1.length<5864062014805 then(qa.l0 k1 a0 (x1_1.drop ((ji21):Int).toNat) (x6_1++[t135]))else(none)))=some (r1,r2):=by first|(rw[hy130];with_reducible exact H)|(have H2_:=(Option.bind_some _ _).symm.trans H;rw[hy130];with_reducible exact H2_)|(have H2_:=(Option.bind_some _ _).symm.trans H;with_reducible exact H2_)|with_reducible exact H|(rw[hy130];exact H)|exact H
       have Ny130:=Qk hy130;clear hy130;replace H:=Qo H;obtain⟨t135,A240,H⟩:=H;replace H:(if x6_1.length<5864062014805 then(qa.l0 k1 a0 (x1_1.drop ((ji21):Int).toNat) (x6_1++[t135]))else(none))=some (r1,r2):=H;have A24:=Qk A240;clear A240;replace H:=ifSome H;obtain⟨c25,H⟩:=H;have LMc25:=Qk c25;clear c25;obtain⟨y138,hy138⟩:∃ y_:List (List Int),y_=(x6_1++[t135]):=⟨_,rfl⟩
       replace H:(qa.l0 k1 a0 (x1_1.drop ((ji21):Int).toNat) y138)=some (r1,r2):=by first|(rw[hy138];with_reducible exact H)|(have H2_:=(Option.bind_some _ _).symm.trans H;rw[hy138];with_reducible exact H2_)|(have H2_:=(Option.bind_some _ _).symm.trans H;with_reducible exact H2_)|with_reducible exact H|(rw[hy138];exact H)|exact H
       have Ny138:=Qk hy138;clear hy138;have c26b0:=Qr (Ql (by assumption):0<=(ji21));have c27b0:=Qr (Ql (by first|(with_reducible assumption)|assumption):(ji21)<=(x1_1.length:Int));obtain⟨y141,hy141⟩:∃ y_:List Int,y_=(x1_1.drop ((ji21):Int).toNat):=⟨_,rfl⟩
       replace H:(qa.l0 k1 a0 y141 y138)=some (r1,r2):=by first|(rw[hy141];with_reducible exact H)|(have H2_:=(Option.bind_some _ _).symm.trans H;rw[hy141];with_reducible exact H2_)|(have H2_:=(Option.bind_some _ _).symm.trans H;with_reducible exact H2_)|with_reducible exact H|(rw[hy141];exact H)|exact H
       have Ny141:=Qk hy141;clear hy141;have H':=Qk H;clear H;obtain⟨Ao28,co28,eo28⟩:=Kd.V_slice HO_1.out;subst eo28;go_wp2_with (first|(go_at_call 138;(with_reducible refine(qp.calls _ _ x1_1 10 t113 _ ?side1 ?side2 A7.out).mono ?_);(case side1=>repeat(first|exact(Kd.V_reads' HO_1.out).2.2|(with_reducible refine Kd.C_alloc ?_ _)|(with_reducible refine Kd.C_drewN ?_ _)|(with_reducible refine Kd.C_drew ?_)));(case side2=>exact(Kd.V_reads' HO_1.out).2.1);rintro e w' ⟨rfl,⟨nd,rfl⟩⟩;(try refine⟨_,rfl,?_⟩);have q29:((ji21):Int)<=((x1_1.length:Int):Int):=Ql (by first|(with_reducible assumption)|assumption);obtain⟨i029,hi029,_,hsz29,_⟩:=info_parts info5;have hroom29:x1_1.length<=co28:=(Kd.V_reads' HO_1.out).2.1;have hC29:Kd.F (Kd.int .u8) _ _ Ao28 x1_1.length x1_1:=(Kd.V_at (base:=w.heap.size) HO_1.out).2.2;have hcut29:=cut_to (P:=Tryz.prog) 22 5 .i64 Tryz.underlying22 hi029 Ao28 x1_1.length co28 (ji21) (Ql (by first|(with_reducible assumption)|assumption)) q29 hroom29;have hr29:=Kd.F_take (m:=((ji21):Int).toNat) hC29 (by omega);have hy29:y130.length=((ji21):Int).toNat:=(by rw[Ny130.out,List.length_take];omega);rw[← Ny130.out]at hr29;rw[← hy29]at hcut29;have HO134:=Qk (show Kd.V (Kd.int .u8) 5 _ w.heap.size _ (.slice Ao28 y130.length co28) y130 from Kd.V_mk (by omega) hr29);have HC134:=Qk (show y130.length<=co28 from by omega);(try clear hr29);(try clear hC29);(try clear hroom29);(try clear hi029);(try clear hsz29);have KY29:=Qk hy29;clear hy29;replace q29:=Qr q29)|(go_at_call 101;(with_reducible refine(zU.calls _ _ y130 t135 _ ?side1 ?side2 A24.out).mono ?_);(case side1=>repeat(first|exact(Kd.V_reads' HO134.out).2.2|(with_reducible refine Kd.C_alloc ?_ _)|(with_reducible refine Kd.C_drewN ?_ _)|(with_reducible refine Kd.C_drew ?_)));(case side2=>exact(Kd.V_reads' HO134.out).2.1);rintro e w30 ⟨v136,rfl,ho0,hb⟩;(try refine⟨_,rfl,?_⟩);replace HO_1:=Qk (Kd.V_elder' (by(with_reducible repeat(first|apply Kd.V_alloc|apply Kd.V_drewN|apply Kd.V_drew));exact HO_1.out) (Kd.R_base ho0) hb);replace HO_6:=Qk (Kd.S_elder' (by(with_reducible repeat(first|apply Kd.S_alloc|apply Kd.S_drewN|apply Kd.S_drew));exact HO_6.out) (Kd.R_base ho0) hb);replace HO134:=Qk (Kd.V_elder' (by(with_reducible repeat(first|apply Kd.V_alloc|apply Kd.V_drewN|apply Kd.V_drew));exact HO134.out) (Kd.R_base ho0) hb);have HO137:=Qk (Kd.R_lower (Kd.R_newM (M:=fun k_=>(w.heap.size<=k_)) ho0 (ze (by repeat(first|(with_reducible first|exact HB.out|apply za|apply zb|apply zg)|exact HB.out))) (fun k_ h_=>h_)) (ze (by repeat(first|(with_reducible first|exact HB.out|apply za|apply zb|apply zg)|exact HB.out))));replace HB:=Qk (zi (by repeat(first|(with_reducible first|exact HB.out|apply za|apply zb|apply zg)|exact HB.out)) hb);(try clear hb);(try clear hb2);(try clear hk);(try clear hi);(try clear ho0);obtain⟨Ao32,co32,eo32⟩:=Kd.R_slice HO137.out;subst eo32)|((with_reducible refine zO (b:=.append) (xs:=#[.tmp 23,.tmp 28]) rfl ?_);at_builtin;refine Kd.S_append (Kd.slice 5 (Kd.int .u8)) (w0:=w) w.heap.size rfl (.tmp 23) (.tmp 28) 60 22 (.slice none 0 0) 24 rfl Tryz.underlying60 info22 rfl (by decide) (by omega) u6 x6_1 t135 [.slice Ao32 t135.length co32] (fun k_=>(w.heap.size<=k_)) (fun k_=>some k_=(.slice Ao32 t135.length co32:Value).ownBlock) rfl rfl ?aP (fun k_ hk_=>((Kd.R_mono (ok':=fun k_=>((fun k_=>(w.heap.size<=k_))) k_/\some k_≠(u6:Value).ownBlock) (Kd.R_apart' (HO137.out) (Kd.S_typed HO_6.out) (by decide)) (fun k_ hk=>⟨hk.1.1,hk.2⟩))).1 k_ hk_.symm) ?aF ?aO ?aB ?aS ?aL ?_;(case aP=>exact Kd.M_row (Kd.R_mono (Kd.R_tight rfl (Kd.R_mono (ok':=fun k_=>((fun k_=>(w.heap.size<=k_))) k_/\some k_≠(u6:Value).ownBlock) (Kd.R_apart' (HO137.out) (Kd.S_typed HO_6.out) (by decide)) (fun k_ hk=>⟨hk.1.1,hk.2⟩))) (fun _ h_=>h_)));(case aB=>exact(by repeat(first|(with_reducible first|exact HB.out|apply za|apply zb|apply zg)|exact HB.out)));(case aF=>exact(fun k_ hk=>(Nat.le_trans (ze (by repeat(first|(with_reducible first|exact HB.out|apply za|apply zb|apply zg)|exact HB.out))) hk)));(case aO=>exact(by(with_reducible repeat(first|apply Kd.S_alloc|apply Kd.S_drewN|apply Kd.S_drew));exact Kd.S_mono HO_6.out (fun k_ hk=>⟨hk.1,fun e_=>hk.2 e_⟩)));(case aS=>exact(ze (by repeat(first|(with_reducible first|exact HB.out|apply za|apply zb|apply zg)|exact HB.out))));(case aL=>have:=LMc25.out;omega);intro v139 w31 ho hb hg hat;rw[← Ny138.out]at ho;replace HO_1:=Qk (Kd.V_afterv (ok:=(fun k_=>(P1_ k_\/w.heap.size<=k_)/\some k_≠(.slice Ao32 t135.length co32:Value).ownBlock)) (by(with_reducible repeat(first|apply Kd.V_alloc|apply Kd.V_drewN|apply Kd.V_drew));exact Kd.V_mono HO_1.out (fun _ hk=>⟨⟨hk.1.1,hk.2⟩,hk.1.2⟩)) hg hat);replace HO134:=Qk (Kd.V_afterv (ok:=(fun k_=>(P1_ k_\/w.heap.size<=k_)/\some k_≠(.slice Ao32 t135.length co32:Value).ownBlock)) (by(with_reducible repeat(first|apply Kd.V_alloc|apply Kd.V_drewN|apply Kd.V_drew));exact Kd.V_mono HO134.out (fun _ hk=>⟨⟨hk.1.1,hk.2⟩,hk.1.2⟩)) hg hat);replace HB:=Qk (hb);have HO140:=Qk (ho);clear HO_6 HO137;(try clear ho);(try clear hb);(try clear hg);(try clear hat);have q33:((ji21):Int)<=((x1_1.length:Int):Int):=Ql (by first|(with_reducible assumption)|assumption);obtain⟨i033,hi033,_,hsz33,_⟩:=info_parts info5;have hroom33:x1_1.length<=co28:=(Kd.V_reads' HO_1.out).2.1;have hC33:Kd.F (Kd.int .u8) _ _ Ao28 x1_1.length x1_1:=(Kd.V_at (base:=w.heap.size) HO_1.out).2.2;have q033:(0:Int)<=((ji21):Int):=Ql (by first|(with_reducible assumption)|assumption);have hcut33:=cut_from (P:=Tryz.prog) 22 5 .i64 Tryz.underlying22 hi033 1 hsz33 Ao28 x1_1.length co28 (ji21) q033 q33;have hr33:=Kd.F_cut (m:=((ji21):Int).toNat) (c:=co28) hC33 (by omega) hroom33;obtain⟨A33,hA33⟩:∃ z_,z_=(if co28=((ji21):Int).toNat then Ao28 else(Ao28:Option Addr).map (·.add (((ji21):Int).toNat*1))):=⟨_,rfl⟩;obtain⟨c33,hc33⟩:∃ z_,z_=co28-((ji21):Int).toNat:=⟨_,rfl⟩;have hy33:y141.length=x1_1.length-((ji21):Int).toNat:=(by rw[Ny141.out,List.length_drop] <;> omega);rw[show (x1_1).drop ((ji21):Int).toNat=y141 from Ny141.out.symm]at hr33;replace hr33:Kd.F (Kd.int .u8) _ _ A33 y141.length y141:=(by rw[hA33];exact hr33);rw[← hy33,← hA33,← hc33]at hcut33;have HO145:=Qk (show Kd.V (Kd.int .u8) 5 _ w.heap.size _ (.slice A33 y141.length c33) y141 from Kd.V_mk (by rw[hy33,hc33];exact Nat.sub_le_sub_right hroom33 _) hr33);have HC145:=Qk (show y141.length<=c33 from by rw[hy33,hc33];exact Nat.sub_le_sub_right hroom33 _);(try clear hr33);(try clear hC33);(try clear hroom33);(try clear hi033);(try clear hsz33);(try clear hc33);have KY33:=Qk hy33;have KA33:=Qk hA33;(try clear hy33);(try clear hA33);replace q33:=Qr q33))
       go_roundg k1
       case measure=>have:=HK1.out;omega
       case rel=>exact⟨(y141),(y138),H',⟨by have:=HK1.out;omega⟩,⟨by(with_reducible repeat(first|apply Kd.V_alloc|apply Kd.V_drewN|apply Kd.V_drew));exact Kd.V_mono HO145.out (fun _ hk=>⟨hk.1.1,hk.2⟩)⟩,⟨HO140.out⟩,⟨HB.out⟩⟩
     ·rw[if_neg c6]at H;have c6b0:(a0 == 1)=false:=beq_eq_false_iff_ne.mpr c6;have c6b1:(a0 != 1)=true:=bne_iff_ne.mpr c6;replace H:=ifSome H;obtain⟨c34,H⟩:=H;have c34b0:=Qr c34;have c34b1:decide (1<=(x1_1.length:Int))=true:=Qm c34;clear c34;obtain⟨y146,hy146⟩:∃ y_:List Int,y_=(x1_1.take 1):=⟨_,rfl⟩
      replace H:((zU.f y146).bind fun t151=>(if x6_1.length<5864062014805 then(qa.l0 k1 a0 (x1_1.drop 1) (x6_1++[t151]))else(none)))=some (r1,r2):=by first|(rw[hy146];with_reducible exact H)|(have H2_:=(Option.bind_some _ _).symm.trans H;rw[hy146];with_reducible exact H2_)|(have H2_:=(Option.bind_some _ _).symm.trans H;with_reducible exact H2_)|with_reducible exact H|(rw[hy146];exact H)|exact H
      have Ny146:=Qk hy146;clear hy146;replace H:=Qo H;obtain⟨t151,A350,H⟩:=H;replace H:(if x6_1.length<5864062014805 then(qa.l0 k1 a0 (x1_1.drop 1) (x6_1++[t151]))else(none))=some (r1,r2):=H;have A35:=Qk A350;clear A350;replace H:=ifSome H;obtain⟨c36,H⟩:=H;have LMc36:=Qk c36;clear c36;obtain⟨y154,hy154⟩:∃ y_:List (List Int),y_=(x6_1++[t151]):=⟨_,rfl⟩
      replace H:(qa.l0 k1 a0 (x1_1.drop 1) y154)=some (r1,r2):=by first|(rw[hy154];with_reducible exact H)|(have H2_:=(Option.bind_some _ _).symm.trans H;rw[hy154];with_reducible exact H2_)|(have H2_:=(Option.bind_some _ _).symm.trans H;with_reducible exact H2_)|with_reducible exact H|(rw[hy154];exact H)|exact H
      have Ny154:=Qk hy154;clear hy154;have c37b0:=Qr (Ql (by assumption):1<=(x1_1.length:Int));obtain⟨y157,hy157⟩:∃ y_:List Int,y_=(x1_1.drop 1):=⟨_,rfl⟩
      replace H:(qa.l0 k1 a0 y157 y154)=some (r1,r2):=by first|(rw[hy157];with_reducible exact H)|(have H2_:=(Option.bind_some _ _).symm.trans H;rw[hy157];with_reducible exact H2_)|(have H2_:=(Option.bind_some _ _).symm.trans H;with_reducible exact H2_)|with_reducible exact H|(rw[hy157];exact H)|exact H
      have Ny157:=Qk hy157;clear hy157;have H':=Qk H;clear H;obtain⟨Ao38,co38,eo38⟩:=Kd.V_slice HO_1.out;subst eo38;have q39:(1:Int)<=((x1_1.length:Int):Int):=Ql (by assumption);obtain⟨i039,hi039,_,hsz39,_⟩:=info_parts info5;have hroom39:x1_1.length<=co38:=(Kd.V_reads' HO_1.out).2.1;have hC39:Kd.F (Kd.int .u8) _ _ Ao38 x1_1.length x1_1:=(Kd.V_at (base:=w.heap.size) HO_1.out).2.2;have hcut39:=cut_to (P:=Tryz.prog) 22 5 .i64 Tryz.underlying22 hi039 Ao38 x1_1.length co38 1 (by omega) q39 hroom39;have hr39:=Kd.F_take (m:=1) hC39 (by omega);have hy39:y146.length=(1:Int).toNat:=(by rw[Ny146.out,List.length_take];omega);rw[← Ny146.out]at hr39;rw[← hy39]at hcut39;have HO150:=Qk (show Kd.V (Kd.int .u8) 5 _ w.heap.size _ (.slice Ao38 y146.length co38) y146 from Kd.V_mk (by omega) hr39);have HC150:=Qk (show y146.length<=co38 from by omega);clear hr39 hC39 hroom39 hi039 hsz39;have KY39:=Qk hy39;clear hy39;replace q39:=Qr q39;go_wp2_with (first|(go_at_call 101;(with_reducible refine(zU.calls _ _ y146 t151 _ ?side1 ?side2 A35.out).mono ?_);(case side1=>repeat(first|exact(Kd.V_reads' HO150.out).2.2|(with_reducible refine Kd.C_alloc ?_ _)|(with_reducible refine Kd.C_drewN ?_ _)|(with_reducible refine Kd.C_drew ?_)));(case side2=>exact(Kd.V_reads' HO150.out).2.1);rintro e w40 ⟨v152,rfl,ho0,hb⟩;(try refine⟨_,rfl,?_⟩);replace HO_1:=Qk (Kd.V_elder' HO_1.out (Kd.R_base ho0) hb);replace HO_6:=Qk (Kd.S_elder' HO_6.out (Kd.R_base ho0) hb);replace HO150:=Qk (Kd.V_elder' HO150.out (Kd.R_base ho0) hb);have HO153:=Qk (Kd.R_lower (Kd.R_newM (M:=fun k_=>(w.heap.size<=k_)) ho0 (ze HB.out) (fun k_ h_=>h_)) (ze HB.out));replace HB:=Qk (zi HB.out hb);(try clear hb);(try clear hb2);(try clear hk);(try clear hi);(try clear ho0);obtain⟨Ao42,co42,eo42⟩:=Kd.R_slice HO153.out;subst eo42)|((with_reducible refine zO (b:=.append) (xs:=#[.tmp 23,.tmp 28]) rfl ?_);at_builtin;refine Kd.S_append (Kd.slice 5 (Kd.int .u8)) (w0:=w) w.heap.size rfl (.tmp 23) (.tmp 28) 60 22 (.slice none 0 0) 24 rfl Tryz.underlying60 info22 rfl (by decide) (by omega) u6 x6_1 t151 [.slice Ao42 t151.length co42] (fun k_=>(w.heap.size<=k_)) (fun k_=>some k_=(.slice Ao42 t151.length co42:Value).ownBlock) rfl rfl ?aP (fun k_ hk_=>((Kd.R_mono (ok':=fun k_=>((fun k_=>(w.heap.size<=k_))) k_/\some k_≠(u6:Value).ownBlock) (Kd.R_apart' (HO153.out) (Kd.S_typed HO_6.out) (by decide)) (fun k_ hk=>⟨hk.1.1,hk.2⟩))).1 k_ hk_.symm) ?aF ?aO ?aB ?aS ?aL ?_;(case aP=>exact Kd.M_row (Kd.R_mono (Kd.R_tight rfl (Kd.R_mono (ok':=fun k_=>((fun k_=>(w.heap.size<=k_))) k_/\some k_≠(u6:Value).ownBlock) (Kd.R_apart' (HO153.out) (Kd.S_typed HO_6.out) (by decide)) (fun k_ hk=>⟨hk.1.1,hk.2⟩))) (fun _ h_=>h_)));(case aB=>exact HB.out);(case aF=>exact(fun k_ hk=>(Nat.le_trans (ze HB.out) hk)));(case aO=>exact(by(with_reducible repeat(first|apply Kd.S_alloc|apply Kd.S_drewN|apply Kd.S_drew));exact Kd.S_mono HO_6.out (fun k_ hk=>⟨hk.1,fun e_=>hk.2 e_⟩)));(case aS=>exact(ze HB.out));(case aL=>have:=LMc36.out;omega);intro v155 w41 ho hb hg hat;rw[← Ny154.out]at ho;replace HO_1:=Qk (Kd.V_afterv (ok:=(fun k_=>(P1_ k_\/w.heap.size<=k_)/\some k_≠(.slice Ao42 t151.length co42:Value).ownBlock)) (by(with_reducible repeat(first|apply Kd.V_alloc|apply Kd.V_drewN|apply Kd.V_drew));exact Kd.V_mono HO_1.out (fun _ hk=>⟨⟨hk.1.1,hk.2⟩,hk.1.2⟩)) hg hat);replace HO150:=Qk (Kd.V_afterv (ok:=(fun k_=>(P1_ k_\/w.heap.size<=k_)/\some k_≠(.slice Ao42 t151.length co42:Value).ownBlock)) (by(with_reducible repeat(first|apply Kd.V_alloc|apply Kd.V_drewN|apply Kd.V_drew));exact Kd.V_mono HO150.out (fun _ hk=>⟨⟨hk.1.1,hk.2⟩,hk.1.2⟩)) hg hat);replace HB:=Qk (hb);have HO156:=Qk (ho);clear HO_6 HO153;(try clear ho);(try clear hb);(try clear hg);(try clear hat);have q43:(1:Int)<=((x1_1.length:Int):Int):=Ql (by first|(with_reducible assumption)|assumption);obtain⟨i043,hi043,_,hsz43,_⟩:=info_parts info5;have hroom43:x1_1.length<=co38:=(Kd.V_reads' HO_1.out).2.1;have hC43:Kd.F (Kd.int .u8) _ _ Ao38 x1_1.length x1_1:=(Kd.V_at (base:=w.heap.size) HO_1.out).2.2;have hcut43:=cut_from (P:=Tryz.prog) 22 5 .i64 Tryz.underlying22 hi043 1 hsz43 Ao38 x1_1.length co38 1 (by omega) q43;have hr43:=Kd.F_cut (m:=(1:Int).toNat) (c:=co38) hC43 (by omega) hroom43;obtain⟨A43,hA43⟩:∃ z_,z_=(if co38=(1:Int).toNat then Ao38 else(Ao38:Option Addr).map (·.add ((1:Int).toNat*1))):=⟨_,rfl⟩;obtain⟨c43,hc43⟩:∃ z_,z_=co38-(1:Int).toNat:=⟨_,rfl⟩;have hy43:y157.length=x1_1.length-(1:Int).toNat:=(by rw[Ny157.out,List.length_drop] <;> omega);rw[show (x1_1).drop (1:Int).toNat=y157 from Ny157.out.symm]at hr43;replace hr43:Kd.F (Kd.int .u8) _ _ A43 y157.length y157:=(by rw[hA43];exact hr43);rw[← hy43,← hA43,← hc43]at hcut43;have HO161:=Qk (show Kd.V (Kd.int .u8) 5 _ w.heap.size _ (.slice A43 y157.length c43) y157 from Kd.V_mk (by rw[hy43,hc43];exact Nat.sub_le_sub_right hroom43 _) hr43);have HC161:=Qk (show y157.length<=c43 from by rw[hy43,hc43];exact Nat.sub_le_sub_right hroom43 _);(try clear hr43);(try clear hC43);(try clear hroom43);(try clear hi043);(try clear hsz43);(try clear hc43);have KY43:=Qk hy43;have KA43:=Qk hA43;(try clear hy43);(try clear hA43);replace q43:=Qr q43))
      go_roundg k1
      case measure=>have:=HK1.out;omega
      case rel=>exact⟨(y157),(y154),H',⟨by have:=HK1.out;omega⟩,⟨by(with_reducible repeat(first|apply Kd.V_alloc|apply Kd.V_drewN|apply Kd.V_drew));exact Kd.V_mono HO161.out (fun _ hk=>⟨hk.1.1,hk.2⟩)⟩,⟨HO156.out⟩,⟨HB.out⟩⟩
    ·rw[if_neg c5]at H;have c5b0:decide (0<(x1_1.length:Int))=false:=Qn c5;have c5b1:decide (0<x1_1.length)=false:=Qn (by omega);clear c5;simp only[Option.some.injEq,Prod.mk.injEq]at H;obtain⟨rfl,rfl⟩:=H;obtain⟨Ao44,co44,eo44⟩:=Kd.V_slice HO_1.out;subst eo44;go_wp2;go_ret2;exact⟨_,rfl,by(with_reducible repeat(first|apply Kd.S_alloc|apply Kd.S_drewN|apply Kd.S_drew));exact HO_6.out,HB.out⟩
 ·replace c4:=Bool.eq_false_iff.mpr c4;subst c4;have H1:(some (([]:List (List Int)),1))=some (r1,r2):=by rw[if_neg (show ¬ (false=true) by decide)]at H;exact H
  clear H;have H:=H1;clear H1;simp only[Option.some.injEq,Prod.mk.injEq]at H;obtain⟨rfl,rfl⟩:=H;go_enter Tryz.func84,Tryz.ntmps84;go_wp2_with (first|(go_at_call 137;(with_reducible refine(ZB.calls a0 false _ A3.out).mono ?_);rintro e w' ⟨rfl,⟨nd,rfl⟩⟩))
  go_ret2;exact⟨_,rfl,by first|exact Kd.S_nil _ _ _ _ _|exact Kd.N_nil _ _ _ _ _|exact Kd.V_nil _ _ _ _ _|exact Kd.Q_nil _ _ _ _ _|exact Kd.R_nil _ _ _ _ _,by repeat(first|(with_reducible first|exact HB.out|apply za|apply zb|apply zg)|exact HB.out)⟩
def qZ.f(l0:List Int)(l1:List Int):Option Int:=match l1 with
 |[c]=>some (Lib.countByte (Lib.bytesOf l0) c.toNat.toUInt8:Nat)
 |_=>none
theorem qZ.calls(A0:Option Addr)(c0:Nat)(l0:List Int)(A1:Option Addr)(c1:Nat)(l1:List Int)(r:Int)(w:World)(hr0:Kd.C (Kd.int .u8) w A0 l0.length l0)(hc0:l0.length<=c0)(hr1:Kd.C (Kd.int .u8) w A1 l1.length l1)(hc1:l1.length<=c1)(h:qZ.f l0 l1=some r) :
 Calls Tryz.prog 105 #[.slice A0 l0.length c0,.slice A1 l1.length c1] w fun e w'=>e=.returned (.int .i64 r)/\Drawn0 w w':=by
 obtain⟨c,rfl⟩:∃ c,l1=[c]:=by
  unfold qZ.f at h;split at h
  ·exact⟨_,rfl⟩
  ·cases h
 obtain rfl:=Qp h
 cases A1 with
 |none=>have h0:=none_u8 hr1;cases h0
 |some b =>
  have hc2:w.cell? b=some (.int .u8 c):=by
   have h2:=cells_u8 hr1 0 (by simp);have e:b.add 0=b:=by cases b;unfold Addr.add;split <;> simp_all
   rw[e]at h2;exact h2
  clear hr1
  cases A0 with
  |none =>
   have h0:=none_u8 hr0;subst h0;go_enter Tryz.func105,Tryz.ntmps105;go_wp2;rw[run_callFunc_extern Tryz.func146 (by kernel_rfl) (by kernel_rfl) (by kernel_rfl) (e:=Extern.BytealgCount.count) (by kernel_rfl),Lib.run_countNil];simp only[Result.andThen];rw[Oper.upon_value];go_wp2;go_ret;exact⟨rfl,Drawn0.refl _⟩
  |some a =>
   have hc:=cells_u8 hr0;clear hr0;go_enter Tryz.func105,Tryz.ntmps105;go_wp2;rw[run_callFunc_extern Tryz.func146 (by kernel_rfl) (by kernel_rfl) (by kernel_rfl) (e:=Extern.BytealgCount.count) (by kernel_rfl),Lib.run_countAt w a l0.length c0 l0 rfl hc c];simp only[Result.andThen];rw[Oper.upon_value];go_wp2;go_ret;exact⟨rfl,Drawn0.refl _⟩
def ZS.f(a0:Int)(l1:List Int):Option (Int×Int):=if a0=0 then(some ((l1.length:Int),0))else(if a0=1 then((qZ.f l1 (([10]:List Int))).bind fun t184=>(if (l1.length:Int) > 0 then(if 0<=(wrap64 ((l1.length:Int)-1))then(if (wrap64 ((l1.length:Int)-1))<(l1.length:Int)then(if (rd l1 (wrap64 ((l1.length:Int)-1)))=10 then(some (t184,0))else(some (wrap64 (t184+1),0)))else(none))else(none))else(some (t184,0))))else(some (0,1)))
theorem ZS.calls(a0:Int)(A1:Option Addr)(c1:Nat)(l1:List Int)(r1:Int)(r2:Int)(w:World)(hr1:Kd.C (Kd.int .u8) w A1 l1.length l1)(hc1:l1.length<=c1)(h:ZS.f a0 l1=some (r1,r2)) :
 Calls Tryz.prog 63 #[.int .i64 a0,.slice A1 l1.length c1] w fun e w'=>e=.returned (.tuple #[.int .i64 r1,.int .i64 r2])/\Below w.heap.size w w':=by
 have HR1:=Qk hr1;have HC1:=Qk hc1;clear hr1 hc1;have HB:=Qk (Below.refl w.heap.size w);have H:(if a0=0 then(some ((l1.length:Int),0))else(if a0=1 then((qZ.f l1 (([10]:List Int))).bind fun t184=>(if (l1.length:Int) > 0 then(if 0<=(wrap64 ((l1.length:Int)-1))then(if (wrap64 ((l1.length:Int)-1))<(l1.length:Int)then(if (rd l1 (wrap64 ((l1.length:Int)-1)))=10 then(some (t184,0))else(some (wrap64 (t184+1),0)))else(none))else(none))else(some (t184,0))))else(some (0,1))))=some (r1,r2):=h;clear h;by_cases c3:a0=0
 ·rw[if_pos c3]at H;have c3b0:(a0 == 0)=true:=beq_iff_eq.mpr c3;have c3b1:(a0 != 0)=false:=bne_eq_false_iff_eq.mpr c3;clear c3;simp only[Option.some.injEq,Prod.mk.injEq]at H;obtain⟨rfl,rfl⟩:=H;go_enter Tryz.func63,Tryz.ntmps63;go_wp2;go_ret2;exact⟨rfl,HB.out⟩
 ·rw[if_neg c3]at H;have c3b0:(a0 == 0)=false:=beq_eq_false_iff_ne.mpr c3;have c3b1:(a0 != 0)=true:=bne_iff_ne.mpr c3;by_cases c4:a0=1
  ·rw[if_pos c4]at H;have c4b0:(a0 == 1)=true:=beq_iff_eq.mpr c4;have c4b1:(a0 != 1)=false:=bne_eq_false_iff_eq.mpr c4;clear c4;obtain⟨y181,hy181⟩:∃ y_:List Int,y_=(([10]:List Int)):=⟨_,rfl⟩
   replace H:((qZ.f l1 y181).bind fun t184=>(if (l1.length:Int) > 0 then(if 0<=(wrap64 ((l1.length:Int)-1))then(if (wrap64 ((l1.length:Int)-1))<(l1.length:Int)then(if (rd l1 (wrap64 ((l1.length:Int)-1)))=10 then(some (t184,0))else(some (wrap64 (t184+1),0)))else(none))else(none))else(some (t184,0))))=some (r1,r2):=by first|(rw[hy181];with_reducible exact H)|(have H2_:=(Option.bind_some _ _).symm.trans H;rw[hy181];with_reducible exact H2_)|(have H2_:=(Option.bind_some _ _).symm.trans H;with_reducible exact H2_)|with_reducible exact H|(rw[hy181];exact H)|exact H
   have Ny181:=Qk hy181;clear hy181;replace H:=Qo H;obtain⟨t184,A50,H⟩:=H;replace H:(if (l1.length:Int) > 0 then(if 0<=(wrap64 ((l1.length:Int)-1))then(if (wrap64 ((l1.length:Int)-1))<(l1.length:Int)then(if (rd l1 (wrap64 ((l1.length:Int)-1)))=10 then(some (t184,0))else(some (wrap64 (t184+1),0)))else(none))else(none))else(some (t184,0)))=some (r1,r2):=H;have A5:=Qk A50;clear A50;by_cases c6:(l1.length:Int) > 0
   ·rw[if_pos c6]at H;have c6b0:decide (0<(l1.length:Int))=true:=Qm c6;have c6b1:decide (0<l1.length)=true:=Qm (by omega);clear c6;obtain⟨ji7,hji7⟩:∃ j_:Int,(wrap64 ((l1.length:Int)-1))=j_:=⟨_,rfl⟩
    replace H:(if 0<=(ji7)then(if (ji7)<(l1.length:Int)then(if (rd l1 (ji7))=10 then(some (t184,0))else(some (wrap64 (t184+1),0)))else(none))else(none))=some (r1,r2):=by first|(rw[hji7]at H;exact H)|(simp only[hji7]at H ⊢;exact H)
    (try rw[hji7]at A5);have hji7w:(IntKind.i64.wrap ((l1.length:Int)-1))=ji7:=(zp _).trans hji7;replace H:=ifSome H;obtain⟨c8,H⟩:=H;have c8b0:decide (0<=(ji7))=true:=Qm c8;clear c8;replace H:=ifSome H;obtain⟨c9,H⟩:=H;have c9b0:decide ((ji7)<(l1.length:Int))=true:=Qm c9;clear c9;by_cases c10:(rd l1 (ji7))=10
    ·rw[if_pos c10]at H;have c10b0:((rd l1 (ji7)) == 10)=true:=beq_iff_eq.mpr c10;have c10b1:((rd l1 (ji7)) != 10)=false:=bne_eq_false_iff_eq.mpr c10;clear c10;simp only[Option.some.injEq,Prod.mk.injEq]at H;obtain⟨rfl,rfl⟩:=H;go_enter Tryz.func63,Tryz.ntmps63;go_wp2_with (first|((with_reducible refine qf (N:=15) rfl ?_);refine Kd.R_lit (Kd.int .u8) _ 5 ?hg (N:=15) ?hd (xs:=([10]:List Int)) (inner:=[.int .u8 10]) (ok:=fun _=>True) (okp:=fun _=>True) ?hr ?hp (fun _ hk=>hk) trivial (Below.refl _ _) (Nat.le_refl _) (by simp) ?_;(case hd=>rfl);(case hg=>rfl);(case hr=>first|(go_simp;done)|(go_simp;rfl));(case hp=>exact(Reps.one (show Kd.M (Kd.int .u8) _ _ _ 10 [.int .u8 10]from rfl) (Reps.none _ _)));intro v182 w11 ho12 hb hg_ hnew_;(first|rw[← Ny181.out]at ho12|(simp only[Int.reduceToNat]at ho12;rw[← Ny181.out]at ho12));have HO183:=Qk (Kd.R_lower ho12 (ze HB.out));replace HB:=Qk (zi HB.out hb);obtain⟨Ao13,co13,eo13⟩:=Kd.R_slice HO183.out;subst eo13)|(go_at_call 105;(with_reducible refine(qZ.calls _ _ l1 _ _ y181 t184 _ ?side1 ?side2 ?side3 ?side4 A5.out).mono ?_);(case side1=>repeat(first|exact(Kd.C_below HR1.out HB.out)|(with_reducible refine Kd.C_alloc ?_ _)|(with_reducible refine Kd.C_drewN ?_ _)|(with_reducible refine Kd.C_drew ?_)));(case side2=>exact HC1.out);(case side3=>repeat(first|exact(Kd.R_reads' HO183.out).2.2|(with_reducible refine Kd.C_alloc ?_ _)|(with_reducible refine Kd.C_drewN ?_ _)|(with_reducible refine Kd.C_drew ?_)));(case side4=>exact(Kd.R_reads' HO183.out).2.1);rintro e w' ⟨rfl,⟨nd,rfl⟩⟩;have p185:0<=((ji7):Int):=Ql (by assumption);have q185:(ji7)<(l1.length:Int):=Ql (by assumption);obtain⟨ad185,e185,hx185_0⟩:=Kd.at_int HR1.out (ji7) p185 q185;cases e185;replace hx185_0:=(HB.out.cell (Qq w _ hx185_0)).trans hx185_0;replace p185:=Qr p185;replace q185:=Qr q185))
     go_ret2;exact⟨by first|rfl|(simp[zR,zQ] <;> rfl)|(simp only[← hji7];first|rfl|(simp[zR,zQ] <;> rfl))|(simp[*,zR,zQ] <;> rfl),by repeat(first|(with_reducible first|exact HB.out|apply za|apply zb|apply zg)|exact HB.out)⟩
    ·rw[if_neg c10]at H;have c10b0:((rd l1 (ji7)) == 10)=false:=beq_eq_false_iff_ne.mpr c10;have c10b1:((rd l1 (ji7)) != 10)=true:=bne_iff_ne.mpr c10;simp only[Option.some.injEq,Prod.mk.injEq]at H;obtain⟨rfl,rfl⟩:=H;go_enter Tryz.func63,Tryz.ntmps63;go_wp2_with (first|((with_reducible refine qf (N:=15) rfl ?_);refine Kd.R_lit (Kd.int .u8) _ 5 ?hg (N:=15) ?hd (xs:=([10]:List Int)) (inner:=[.int .u8 10]) (ok:=fun _=>True) (okp:=fun _=>True) ?hr ?hp (fun _ hk=>hk) trivial (Below.refl _ _) (Nat.le_refl _) (by simp) ?_;(case hd=>rfl);(case hg=>rfl);(case hr=>first|(go_simp;done)|(go_simp;rfl));(case hp=>exact(Reps.one (show Kd.M (Kd.int .u8) _ _ _ 10 [.int .u8 10]from rfl) (Reps.none _ _)));intro v182 w14 ho15 hb hg_ hnew_;(first|rw[← Ny181.out]at ho15|(simp only[Int.reduceToNat]at ho15;rw[← Ny181.out]at ho15));have HO183:=Qk (Kd.R_lower ho15 (ze HB.out));replace HB:=Qk (zi HB.out hb);obtain⟨Ao16,co16,eo16⟩:=Kd.R_slice HO183.out;subst eo16)|(go_at_call 105;(with_reducible refine(qZ.calls _ _ l1 _ _ y181 t184 _ ?side1 ?side2 ?side3 ?side4 A5.out).mono ?_);(case side1=>repeat(first|exact(Kd.C_below HR1.out HB.out)|(with_reducible refine Kd.C_alloc ?_ _)|(with_reducible refine Kd.C_drewN ?_ _)|(with_reducible refine Kd.C_drew ?_)));(case side2=>exact HC1.out);(case side3=>repeat(first|exact(Kd.R_reads' HO183.out).2.2|(with_reducible refine Kd.C_alloc ?_ _)|(with_reducible refine Kd.C_drewN ?_ _)|(with_reducible refine Kd.C_drew ?_)));(case side4=>exact(Kd.R_reads' HO183.out).2.1);rintro e w' ⟨rfl,⟨nd,rfl⟩⟩;have p185:0<=((ji7):Int):=Ql (by assumption);have q185:(ji7)<(l1.length:Int):=Ql (by assumption);obtain⟨ad185,e185,hx185_0⟩:=Kd.at_int HR1.out (ji7) p185 q185;cases e185;replace hx185_0:=(HB.out.cell (Qq w _ hx185_0)).trans hx185_0;replace p185:=Qr p185;replace q185:=Qr q185))
     go_ret2;exact⟨by first|rfl|(simp[zR,zQ] <;> rfl)|(simp only[← hji7];first|rfl|(simp[zR,zQ] <;> rfl))|(simp[*,zR,zQ] <;> rfl),by repeat(first|(with_reducible first|exact HB.out|apply za|apply zb|apply zg)|exact HB.out)⟩
   ·rw[if_neg c6]at H;have c6b0:decide (0<(l1.length:Int))=false:=Qn c6;have c6b1:decide (0<l1.length)=false:=Qn (by omega);clear c6;simp only[Option.some.injEq,Prod.mk.injEq]at H;obtain⟨rfl,rfl⟩:=H;go_enter Tryz.func63,Tryz.ntmps63;go_wp2_with (first|((with_reducible refine qf (N:=15) rfl ?_);refine Kd.R_lit (Kd.int .u8) _ 5 ?hg (N:=15) ?hd (xs:=([10]:List Int)) (inner:=[.int .u8 10]) (ok:=fun _=>True) (okp:=fun _=>True) ?hr ?hp (fun _ hk=>hk) trivial (Below.refl _ _) (Nat.le_refl _) (by simp) ?_;(case hd=>rfl);(case hg=>rfl);(case hr=>first|(go_simp;done)|(go_simp;rfl));(case hp=>exact(Reps.one (show Kd.M (Kd.int .u8) _ _ _ 10 [.int .u8 10]from rfl) (Reps.none _ _)));intro v182 w17 ho18 hb hg_ hnew_;(first|rw[← Ny181.out]at ho18|(simp only[Int.reduceToNat]at ho18;rw[← Ny181.out]at ho18));have HO183:=Qk (Kd.R_lower ho18 (ze HB.out));replace HB:=Qk (zi HB.out hb);obtain⟨Ao19,co19,eo19⟩:=Kd.R_slice HO183.out;subst eo19)|(go_at_call 105;(with_reducible refine(qZ.calls _ _ l1 _ _ y181 t184 _ ?side1 ?side2 ?side3 ?side4 A5.out).mono ?_);(case side1=>repeat(first|exact(Kd.C_below HR1.out HB.out)|(with_reducible refine Kd.C_alloc ?_ _)|(with_reducible refine Kd.C_drewN ?_ _)|(with_reducible refine Kd.C_drew ?_)));(case side2=>exact HC1.out);(case side3=>repeat(first|exact(Kd.R_reads' HO183.out).2.2|(with_reducible refine Kd.C_alloc ?_ _)|(with_reducible refine Kd.C_drewN ?_ _)|(with_reducible refine Kd.C_drew ?_)));(case side4=>exact(Kd.R_reads' HO183.out).2.1);rintro e w' ⟨rfl,⟨nd,rfl⟩⟩))
    go_ret2;exact⟨rfl,by repeat(first|(with_reducible first|exact HB.out|apply za|apply zb|apply zg)|exact HB.out)⟩
  ·rw[if_neg c4]at H;have c4b0:(a0 == 1)=false:=beq_eq_false_iff_ne.mpr c4;have c4b1:(a0 != 1)=true:=bne_iff_ne.mpr c4;simp only[Option.some.injEq,Prod.mk.injEq]at H;obtain⟨rfl,rfl⟩:=H;go_enter Tryz.func63,Tryz.ntmps63;go_wp2;go_ret2;exact⟨rfl,HB.out⟩
def ZN.f(a0:Int):Option (Bool):=if a0≥0 then(some (decide (a0<=1048576)))else(some false)
theorem ZN.calls(a0:Int)(r:Bool)(w:World)(h:ZN.f a0=some r) :
 Calls Tryz.prog 76 #[.int .i64 a0] w fun e w'=>e=.returned (.bool r)/\Drawn0 w w':=by
 have H:(if a0≥0 then(some (decide (a0<=1048576)))else(some false))=some r:=h;clear h;by_cases c2:a0≥0
 ·rw[if_pos c2]at H;have c2b0:decide (0<=a0)=true:=Qm c2;clear c2;obtain rfl:=Qp H;go_enter Tryz.func76,Tryz.ntmps76;go_wp2;go_ret;exact⟨rfl,by repeat(first|exact Drawn0.refl _|apply Drawn0.step)⟩
 ·rw[if_neg c2]at H;have c2b0:decide (0<=a0)=false:=Qn c2;clear c2;obtain rfl:=Qp H;go_enter Tryz.func76,Tryz.ntmps76;go_wp2;go_ret;exact⟨rfl,by repeat(first|exact Drawn0.refl _|apply Drawn0.step)⟩
def pairs_is.f(l0:List Int)(a1:Int):Option (Bool):=if a1≥0 then(some (decide (a1<(l0.length:Int))))else(some false)
theorem pairs_is.calls(A0:Option Addr)(c0:Nat)(l0:List Int)(a1:Int)(r:Bool)(w:World)(hr0:Kd.C (Kd.int .i64) w A0 l0.length l0)(hc0:l0.length<=c0)(h:pairs_is.f l0 a1=some r) :
 Calls Tryz.prog 132 #[.slice A0 l0.length c0,.int .i64 a1] w fun e w'=>e=.returned (.bool r)/\Drawn0 w w':=by
 have HR0:=Qk hr0;have HC0:=Qk hc0;clear hr0 hc0;have H:(if a1≥0 then(some (decide (a1<(l0.length:Int))))else(some false))=some r:=h;clear h;by_cases c3:a1≥0
 ·rw[if_pos c3]at H;have c3b0:decide (0<=a1)=true:=Qm c3;clear c3;obtain rfl:=Qp H;go_enter Tryz.func132,Tryz.ntmps132;go_wp2;go_ret;exact⟨rfl,by repeat(first|exact Drawn0.refl _|apply Drawn0.step)⟩
 ·rw[if_neg c3]at H;have c3b0:decide (0<=a1)=false:=Qn c3;clear c3;obtain rfl:=Qp H;go_enter Tryz.func132,Tryz.ntmps132;go_wp2;go_ret;exact⟨rfl,by repeat(first|exact Drawn0.refl _|apply Drawn0.step)⟩
def ZT.f:Option (Int×Int):=some (1000,1099511627776)
theorem ZT.calls(r1:Int)(r2:Int)(w:World)(h:ZT.f=some (r1,r2)) :
 Calls Tryz.prog 13 #[] w fun e w'=>e=.returned (.agg #[.int .i64 r1,.int .i64 r2])/\Below w.heap.size w w':=by
 have hu40:=Tryz.underlying40;have HB:=Qk (Below.refl w.heap.size w);have H:(some (1000,1099511627776))=some (r1,r2):=h;clear h;simp only[Option.some.injEq,Prod.mk.injEq]at H;obtain⟨rfl,rfl⟩:=H;go_enter Tryz.func13,Tryz.ntmps13;go_wp2_with (first|((with_reducible refine qf (N:=0) rfl ?_);refine qt ?hg (N:=0) ?hd (cs:=#[.int .i64 0,.int .i64 0]) (t:=40) ?hr ?_;(case hd=>rfl);(case hg=>rfl);(case hr=>first|(go_simp;done)|(go_simp;rfl));intro gb101 hg w1 hbox hb;have n0_:=Qk (zi (by repeat(first|(with_reducible first|exact HB.out|apply za|apply zb|apply zg)|exact HB.out)) hb);have n1_:=Qk (hbox);have n2_:=Qk ((by rw[hg];exact(ze (by repeat(first|(with_reducible first|exact HB.out|apply za|apply zb|apply zg)|exact HB.out))):w.heap.size<=gb101));have n3_:=Qk ((by rw[hg];exact(ze (by repeat(first|(with_reducible first|exact HB.out|apply za|apply zb|apply zg)|exact HB.out))):w.heap.size<=gb101));clear HB;have HB:=n0_;have BK101:=n1_;have GW101:=n2_;have GE101:=n3_;clear n0_ n1_ n2_ n3_;(try clear hb);(try clear hbox);(try clear hg);have hcz2_0:w1.cell? ⟨gb101,0,none⟩=some (.int .i64 0):=(zf BK101.out 0).trans rfl;have hcz2_1:w1.cell? ⟨gb101,1,none⟩=some (.int .i64 0):=(zf BK101.out 1).trans rfl;have hfz2_0:=zh BK101.out 0;have hfz2_1:=zh BK101.out 1))
 refine bodyPost_ret (results_cell_row rfl _ _ gb101 40 #[.int .i64 1000,.int .i64 1099511627776] (0,0) _ rfl (by(with_reducible repeat(first|refine zn ?_ _|refine zo ?_|refine zl ?_ _));refine qi (cs:=#[.int .i64 1000,.int .i64 0]) ?_ 1 _ rfl;(with_reducible repeat(first|refine zn ?_ _|refine zo ?_|refine zl ?_ _));refine qi (cs:=#[.int .i64 0,.int .i64 0]) ?_ 0 _ rfl;(with_reducible repeat(first|refine zn ?_ _|refine zo ?_|refine zl ?_ _));exact BK101.out) Tryz.underlying40 rfl (by kernel_rfl)) rfl ?_;exact⟨by first|rfl|(simp[zR,zQ] <;> rfl)|(simp[*,zR,zQ] <;> rfl),by repeat(first|(with_reducible first|exact HB.out|apply za|apply zb|apply zg|refine zr ?_ GE101.out)|exact HB.out)⟩
theorem count_some(n:Nat)(h:n<=1000):ZN.f (n:Int)=some true:=by
 unfold ZN.f;rw[if_pos (by omega),Qm (by omega)]
def Zz(n m:Nat):Nat->List (Nat×Nat):=fun s=>(List.range s).map fun i=>(n+i,m+i)
def growL(p s n m:Nat)(qs:List (Nat×Nat)):List (Nat×Nat):=Zz 0 0 p++qs.map (fun q=>(q.1+p,q.2+p))++Zz (n-s) (m-s) s
theorem diagL_snoc(n m s:Nat):Zz n m (s+1)=Zz n m s++[(n+s,m+s)]:=by unfold Zz;rw[List.range_succ,List.map_append];rfl
theorem rd_T54_toP(qs:List (Nat×Nat))(k:Nat)(h:k<qs.length):rd_T54 (qs.map toP) (k:Int)=⟨(qs[k].1:Nat),(qs[k].2:Nat)⟩:=by
 unfold rd_T54;rw[Int.toNat_natCast];simp[List.getD_eq_getElem?_getD,h,toP]
theorem trim_Grow.small(A:Option Addr)(c:Nat)(qs:List (Nat×Nat))(p s n m:Nat)(w:World)(hr:Kd.C k54 w A qs.length (qs.map toP))(hn:n<=1000)(hm:m<=1000)(h1:p+s<=n)(h2:p+s<=m)(hq:∀ q∈qs,q.1<n-p-s/\q.2<m-p-s)(hl:qs.length<=1000) :
 Calls Tryz.prog 40 #[.slice A qs.length c,.int .i64 p,.int .i64 s,.int .i64 n,.int .i64 m] w fun e w'=>∃ v,e=.returned (.tuple #[v,.int .i64 0])/\Kd.R k54 54 w' w.heap.size (fun _=>True) v ((growL p s n m qs).map toP)/\Below w.heap.size w w':=by
 have HR:=Qk hr;have HQ:=Qk hq;clear hr hq;have C0:=Qk (count_some n hn);have C1:=Qk (count_some m hm);have t1:decide ((p:Int)<0)=false:=Qn (by omega);have t2:decide ((s:Int)<0)=false:=Qn (by omega);obtain⟨k,hk⟩:∃ k:Int,k=if (m:Int)<(n:Int)then(m:Int)else(n:Int):=⟨_,rfl⟩
 have hk1:(p:Int)+s<=k/\k<=1000:=by rw[hk];split <;> omega
 have t3:decide (k<(p:Int))=false:=Qn (by omega);have t4:decide (k-(p:Int)<(s:Int))=false:=Qn (by omega);rw[hk]at t3 t4;clear hk hk1 k;go_enter Tryz.func40,Tryz.ntmps40;go_upto_region 1 with fail
 go_cut [48] (fun v48 wc=>v48=.bool false/\Aside0 (Below w.heap.size w wc))
 case first =>
  go_wp2_with (first
   |(go_at_call 76;((with_reducible refine(ZN.calls _ _ _ C0.out).mono ?_);rintro e w1 ⟨rfl,nd,rfl⟩))
   |(go_at_call 76;((with_reducible refine(ZN.calls _ _ _ C1.out).mono ?_);rintro e w1 ⟨rfl,nd1,rfl⟩)))
  all_goals
   go_meet
   case rel=>exact⟨by first|rfl|(simp;omega)|simp,⟨zb (Below.refl w.heap.size w) (nd+nd1)⟩⟩
 case rest =>
  obtain⟨rfl,HB0⟩:=hcut;clear C0 C1 t1 t2 t3 t4;go_wp2_with fail
  go_loopw [50,12] (fun v50 v12 wr=>∃ i:Nat,i<=p/\v50=.int .i64 i/\Aside0 (Below w.heap.size w wr)/\Aside0 (Kd.R k54 54 wr w.heap.size (fun _=>True) v12 ((Zz 0 0 i).map toP))) (fun v50 _ _=>p-(intOf v50).toNat)
  case atStart=>exact⟨0,by omega,rfl,HB0,⟨Kd.R_nil _ _ _ _ _⟩⟩
  case round =>
   clear HB0;obtain⟨i,hi,rfl,HB,HL⟩:=hrel;by_cases hlt:i<p
   ·have c0:decide ((i:Int)<(p:Int))=true:=Qm (by omega)
    have HLN:=Qk (show ((Zz 0 0 i).map toP).length<=1000 by simp[Zz];omega);have hs:=HB.out.size;go_wp2_with (first
     |((with_reducible refine zO (b:=.append) (xs:=#[.tmp 53,.tmp 57]) rfl ?_);refine Kd.R_append k54 (w0:=w) w.heap.size rfl (.tmp 53) (.tmp 57) 32 54 (.agg #[(.int .i64 0),(.int .i64 0)]) 16 rfl Tryz.underlying32 info54 rfl (by decide) (by omega) u12 ((Zz 0 0 i).map toP) (⟨i,i⟩:S54) [.int .i64 i,.int .i64 i] (fun _=>True) (fun _=>False) rfl rfl (Qe _ _ _ (⟨i,i⟩:S54)) (fun _ hk=>hk.elim) (fun _ _=>trivial) HL.out HB.out hs (by have:=HLN.out;omega) ?_;intro v5 w5 ho hb hg hat;have HO5:=Qk ho;have HB5:=Qk hb;clear ho hb hg hat))
    go_roundw
    case rel =>
     refine⟨i+1,by omega,by go_num,HB5,⟨?_⟩⟩
     rw[diagL_snoc,List.map_append,Nat.zero_add];exact HO5.out
    case measure=>simp[intOf];omega
   ·obtain rfl:i=p:=by omega
    have c0:decide ((i:Int)<(i:Int))=false:=Qn (by omega);go_wp2_with fail
    go_loopw [62,12] (fun v62 v12 wr=>∃ k:Nat,k<=qs.length/\v62=.int .i64 k/\Aside0 (Below w.heap.size w wr)/\Aside0 (Kd.R k54 54 wr w.heap.size (fun _=>True) v12 ((Zz 0 0 i++(qs.take k).map (fun q=>(q.1+i,q.2+i))).map toP))) (fun v62 _ _=>qs.length-(intOf v62).toNat)
    case atStart=>exact⟨0,by omega,rfl,HB,⟨by simpa using HL.out⟩⟩
    case round =>
     clear HB HL;obtain⟨k,hk,rfl,HB,HL⟩:=hrel;by_cases hlt:k<qs.length
     ·have c1:decide ((k:Int)<(qs.length:Int))=true:=Qm (by omega)
      obtain⟨ad,rfl,hx,hy⟩:=at_T54 (Kd.C_below HR.out HB.out) (k:Int) (by omega) (by omega);rw[rd_T54_toP qs k hlt,Int.toNat_natCast]at hx hy;obtain⟨b1,b2⟩:=HQ.out _ (List.getElem_mem hlt);have HT:=Qk (show qs.take (k+1)=qs.take k++[qs[k]]from List.take_succ_eq_append_getElem hlt);generalize qs[k]=q at hx hy b1 b2 HT;obtain⟨x,y⟩:=q;simp only at hx hy b1 b2;have g0:(0:Int)<=(k:Int):=by omega
      have g1:(k:Int)<(qs.length:Int):=by omega
      have d1:decide ((x:Int)<0)=false:=Qn (by omega);have d2:decide ((n:Int)-(i:Int)-(s:Int)<=(x:Int))=false:=Qn (by omega);have d3:decide ((y:Int)<0)=false:=Qn (by omega);have d4:decide ((m:Int)-(i:Int)-(s:Int)<=(y:Int))=false:=Qn (by omega);have HLN:=Qk (show ((Zz 0 0 i++(qs.take k).map (fun q=>(q.1+i,q.2+i))).map toP).length<=2000 by simp[Zz];omega);go_upto_region 12 with fail
      have hba:=Qk (za HB.out (Obj.cells #[.int .i64 x,.int .i64 y] 54));have hla:=Qk (Kd.R_alloc HL.out (Obj.cells #[.int .i64 x,.int .i64 y] 54));have HG:=Qk (qv wr (Obj.cells #[.int .i64 x,.int .i64 y] 54));clear HB HL hx hy;generalize wr.alloc (Obj.cells #[.int .i64 x,.int .i64 y] 54)=w2 at hba hla HG ⊢;generalize wr.heap.size=bx at HG ⊢;have hz0:w2.cell? ⟨bx,0,none⟩=some (.int .i64 x):=(zf HG.out 0).trans rfl;have hz1:w2.cell? ⟨bx,1,none⟩=some (.int .i64 y):=(zf HG.out 1).trans rfl;have hsa:=hba.out.size;go_wp2_with (first
       |((with_reducible refine zO (b:=.append) (xs:=#[.tmp 94,.tmp 104]) rfl ?_);refine Kd.R_append k54 (w0:=w) w.heap.size rfl (.tmp 94) (.tmp 104) 32 54 (.agg #[(.int .i64 0),(.int .i64 0)]) 16 rfl Tryz.underlying32 info54 rfl (by decide) (by omega) u12 _ (⟨(x:Int)+(i:Int),(y:Int)+(i:Int)⟩:S54) [.int .i64 ((x:Int)+(i:Int)),.int .i64 ((y:Int)+(i:Int))] (fun _=>True) (fun _=>False) rfl rfl (Qe _ _ _ (⟨(x:Int)+(i:Int),(y:Int)+(i:Int)⟩:S54)) (fun _ hk=>hk.elim) (fun _ _=>trivial) hla.out hba.out hsa (by have:=HLN.out;omega) ?_;intro v5 w5 ho hb hg hat;have HO5:=Qk ho;have HB5:=Qk hb;clear ho hb hg hat))
      go_roundw
      case rel =>
       refine⟨k+1,by omega,by go_num,HB5,⟨?_⟩⟩
       rw[HT.out,show (Zz 0 0 i++(qs.take k++[(x,y)]).map (fun q=>(q.1+i,q.2+i))).map toP=(Zz 0 0 i++(qs.take k).map (fun q=>(q.1+i,q.2+i))).map toP++[⟨(x:Int)+(i:Int),(y:Int)+(i:Int)⟩] by simp[toP]]
       exact HO5.out
      case measure=>simp[intOf];omega
     ·obtain rfl:k=qs.length:=by omega
      have c1:decide ((qs.length:Int)<(qs.length:Int))=false:=Qn (by omega);have HTK:=Qk (show qs.take qs.length=qs from List.take_length);rw[HTK.out]at HL;go_wp2_with fail
      go_loopw [16,12] (fun v16 v12 wr=>∃ j k:Nat,j+k=s/\v16=.int .i64 k/\Aside0 (Below w.heap.size w wr)/\Aside0 (Kd.R k54 54 wr w.heap.size (fun _=>True) v12 ((Zz 0 0 i++qs.map (fun q=>(q.1+i,q.2+i))++Zz (n-s) (m-s) j).map toP))) (fun v16 _ _=>(intOf v16).toNat)
      case atStart=>exact⟨0,s,by omega,rfl,HB,⟨by simpa [Zz]using HL.out⟩⟩
      case round =>
       clear HB HL;obtain⟨j,k,hjk,rfl,HB,HL⟩:=hrel;have HJK:=Qk hjk;have hj1:j<=s:=by omega
       have hj2:k<=s:=by omega
       by_cases hlt:0<k
       ·have c2:decide (0<(k:Int))=true:=Qm (by omega)
        have HV:=Qk (show (⟨(n:Int)-(k:Int),(m:Int)-(k:Int)⟩:S54)=toP (n-s+j,m-s+j) by unfold toP;congr 1 <;> simp only <;> omega);have HLN:=Qk (show ((Zz 0 0 i++qs.map (fun q=>(q.1+i,q.2+i))++Zz (n-s) (m-s) j).map toP).length<=4000 by simp[Zz];omega);obtain⟨k1,hk1⟩:∃ k1,k=k1+1:=⟨k-1,by omega⟩
        have a1:k1+1<=k:=by omega
        have HK1:=Qk (show (k:Int)-1=(k1:Int) by omega);have HJ1:=Qk (show (j+1)+k1=s by omega);clear hjk hk1;have hs:=HB.out.size;go_wp2_with (first
         |((with_reducible refine zO (b:=.append) (xs:=#[.tmp 112,.tmp 120]) rfl ?_);refine Kd.R_append k54 (w0:=w) w.heap.size rfl (.tmp 112) (.tmp 120) 32 54 (.agg #[(.int .i64 0),(.int .i64 0)]) 16 rfl Tryz.underlying32 info54 rfl (by decide) (by omega) u12 _ (⟨(n:Int)-(k:Int),(m:Int)-(k:Int)⟩:S54) [.int .i64 ((n:Int)-(k:Int)),.int .i64 ((m:Int)-(k:Int))] (fun _=>True) (fun _=>False) rfl rfl (Qe _ _ _ (⟨(n:Int)-(k:Int),(m:Int)-(k:Int)⟩:S54)) (fun _ hk=>hk.elim) (fun _ _=>trivial) HL.out HB.out hs (by have:=HLN.out;omega) ?_;intro v5 w5 ho hb hg hat;have HO5:=Qk ho;have HB5:=Qk hb;clear ho hb hg hat))
        go_roundw
        case rel =>
         refine⟨j+1,k1,HJ1.out,by rw[HK1.out],HB5,⟨?_⟩⟩
         have h:=HO5.out;rw[HV.out]at h;rw[diagL_snoc,show (Zz 0 0 i++qs.map (fun q=>(q.1+i,q.2+i))++(Zz (n-s) (m-s) j++[(n-s+j,m-s+j)])).map toP=(Zz 0 0 i++qs.map (fun q=>(q.1+i,q.2+i))++Zz (n-s) (m-s) j).map toP++[toP (n-s+j,m-s+j)] by simp]
         exact h
        case measure=>simp[intOf];omega
       ·have c2:decide (0<(k:Int))=false:=Qn (by omega)
        have HZ:=Qk (show j=s by omega);clear hjk;go_wp2;go_ret2;have h:=HL.out;rw[HZ.out]at h;exact⟨_,rfl,h,HB.out⟩
structure GoodN(a b:List Int)(qs:List (Nat×Nat)):Prop where
 at_:∀ q∈qs,q.1<a.length/\q.2<b.length/\rd a q.1=rd b q.2
 rise:qs.Pairwise (fun x y=>x.1<y.1/\x.2<y.2)
def aheadP(qs:List (Nat×Nat))(k:Nat):Int×Int:=if k=0 then(-1,-1)else(((qs.getD (k-1) (0,0)).1:Nat),((qs.getD (k-1) (0,0)).2:Nat))
theorem aheadP_lt{a b:List Int}{qs:List (Nat×Nat)}(h:GoodN a b qs){k:Nat}(hk:k<qs.length):(aheadP qs k).1<(qs[k].1:Int)/\(aheadP qs k).2<(qs[k].2:Int):=by
 unfold aheadP;split
 ·simp only;omega
 ·have:=List.pairwise_iff_getElem.1 h.rise (k-1) k (by omega) hk (by omega)
  rw[List.getD_eq_getElem?_getD,List.getElem?_eq_getElem (by omega)];simp only[Option.getD_some];omega
theorem is_some(l:List Int)(i:Nat)(h:i<l.length):pairs_is.f l (i:Int)=some true:=by
 unfold pairs_is.f;rw[if_pos (by omega),Qm (by omega)]
theorem pairs_Good.good(A0 A1 A2:Option Addr)(c0 c1 c2:Nat)(a b:List Int)(qs:List (Nat×Nat))(w:World)(hr0:Kd.C (Kd.int .i64) w A0 a.length a)(hc0:a.length<=c0)(hr1:Kd.C (Kd.int .i64) w A1 b.length b)(hc1:b.length<=c1)(hr2:Kd.C k54 w A2 qs.length (qs.map toP))(hg:GoodN a b qs)(hl:qs.length<=1000)(ha:a.length<=1000)(hb:b.length<=1000) :
 Calls Tryz.prog 77 #[.slice A0 a.length c0,.slice A1 b.length c1,.slice A2 qs.length c2] w fun e w'=>e=.returned (.bool true)/\Below w.heap.size w w':=by
 have H0:=Qk hr0;have H1:=Qk hr1;have H2:=Qk hr2;have HC0:=Qk hc0;have HC1:=Qk hc1;have HG:=Qk hg;clear hr0 hr1 hr2 hc0 hc1 hg;go_enter Tryz.func77,Tryz.ntmps77;go_wp2_with fail
 have HB:=Qk (za (Below.refl w.heap.size w) (Obj.cells #[.int .i64 (-1),.int .i64 (-1)] 54));have HL:=Qk (qv w (Obj.cells #[.int .i64 (-1),.int .i64 (-1)] 54));generalize w.alloc (Obj.cells #[.int .i64 (-1),.int .i64 (-1)] 54)=w1 at HB HL ⊢;go_loopw [13] (fun v13 wr=>∃ k:Nat,k<=qs.length/\v13=.int .i64 k/\Aside0 (Below w.heap.size w wr)/\Aside0 (wr.heap[w.heap.size]?=some (.cells #[.int .i64 (aheadP qs k).1,.int .i64 (aheadP qs k).2] 54 (0,0)))) (fun v13 _=>qs.length-(intOf v13).toNat)
 case atStart=>exact⟨0,by omega,rfl,HB,HL⟩
 case round =>
  clear HB HL;obtain⟨k,hk,rfl,HB,HL⟩:=hrel;by_cases hlt:k<qs.length
  ·have tk:decide ((k:Int)<(qs.length:Int))=true:=Qm (by omega)
   obtain⟨ad,rfl,hx,hy⟩:=at_T54 (Kd.C_below H2.out HB.out) (k:Int) (by omega) (by omega);rw[rd_T54_toP qs k hlt,Int.toNat_natCast]at hx hy;obtain⟨b1,b2,b3⟩:=HG.out.at_ _ (List.getElem_mem hlt);obtain⟨l1,l2⟩:=aheadP_lt HG.out hlt;have HN:=Qk (show aheadP qs (k+1)=(((qs[k].1:Nat):Int),((qs[k].2:Nat):Int)) by unfold aheadP;rw[if_neg (by omega)];simp[List.getD_eq_getElem?_getD,hlt]);generalize qs[k]=q at hx hy b1 b2 b3 l1 l2 HN;obtain⟨x,y⟩:=q;simp only at hx hy b1 b2 b3 l1 l2;have S0:=Qk (is_some a x b1);have S1:=Qk (is_some b y b2);have g0:(0:Int)<=(k:Int):=by omega
   have g1:(k:Int)<(qs.length:Int):=by omega
   go_upto_region 5 with fail
   have n0_:=Qk (za HB.out (Obj.cells #[.int .i64 x,.int .i64 y] 54));have n1_:=Qk (zl HL.out (Obj.cells #[.int .i64 x,.int .i64 y] 54));have HX:=Qk (qv wr (Obj.cells #[.int .i64 x,.int .i64 y] 54));have HBX:=Qk (Nat.le_of_lt (Nat.lt_of_lt_of_le (Zh HL.out) (Nat.le_refl wr.heap.size)));have HNE:=Qk (Nat.ne_of_lt (Zh HL.out));clear HB HL hx hy;generalize wr.alloc (Obj.cells #[.int .i64 x,.int .i64 y] 54)=w2 at n0_ n1_ HX ⊢;generalize wr.heap.size=bx at HX HBX HNE ⊢;generalize aheadP qs k=pq at n1_ l1 l2;obtain⟨p,q⟩:=pq;simp only at n1_ l1 l2;have hz0:w2.cell? ⟨bx,0,none⟩=some (.int .i64 x):=(zf HX.out 0).trans rfl;have hz1:w2.cell? ⟨bx,1,none⟩=some (.int .i64 y):=(zf HX.out 1).trans rfl;have hy0:w2.cell? ⟨w.heap.size,0,none⟩=some (.int .i64 p):=(zf n1_.out 0).trans rfl;have hy1:w2.cell? ⟨w.heap.size,1,none⟩=some (.int .i64 q):=(zf n1_.out 1).trans rfl;obtain⟨ad0,rfl,ha0⟩:=Kd.at_int (Kd.C_below H0.out n0_.out) (x:Int) (by omega) (by omega);obtain⟨ad1,rfl,ha1⟩:=Kd.at_int (Kd.C_below H1.out n0_.out) (y:Int) (by omega) (by omega);rw[Int.toNat_natCast]at ha0 ha1;have d0:(0:Int)<=(x:Int):=by omega
   have d1:(x:Int)<(a.length:Int):=by omega
   have d2:(0:Int)<=(y:Int):=by omega
   have d3:(y:Int)<(b.length:Int):=by omega
   have t1:(rd a (x:Int) != rd b (y:Int))=false:=by rw[b3];simp
   have t2:decide ((x:Int)<=p)=false:=Qn (by omega);have t3:decide ((y:Int)<=q)=false:=Qn (by omega);clear b3;have HP0:=Qk (fun n=>(pairs_is.calls (some ad0) c0 a (x:Int) true (w2.drewN n) (Kd.C_drewN (Kd.C_below H0.out n0_.out) n) HC0.out S0.out).mono (fun e w' hp=>(⟨hp.1,hp.2.out⟩:e=.returned (.bool true)/\∃ m,w'=(w2.drewN n).drewN m)));have HP1:=Qk (fun n=>(pairs_is.calls (some ad1) c1 b (y:Int) true (w2.drewN n) (Kd.C_drewN (Kd.C_below H1.out n0_.out) n) HC1.out S1.out).mono (fun e w' hp=>(⟨hp.1,hp.2.out⟩:e=.returned (.bool true)/\∃ m,w'=(w2.drewN n).drewN m)));go_quiet ((first|(go_at_call 132;with_reducible exact Calls.quiet_of (HP0.out _))|(go_at_call 132;with_reducible exact Calls.quiet_of (HP1.out _))))
   have hbd:=zb (Below.refl w2.heap.size w2) nq;have HB:=Qk (zi n0_.out hbd);have HL:=Qk (zy n1_.out hbd);have HXX:=Qk (zy HX.out hbd);have hz0:=zF hbd hz0;have hz1:=zF hbd hz1;have hf0:=zh HL.out 0;have hf1:=zh HL.out 1;clear n0_ n1_ HX hy0 hy1 ha0 ha1 hbd;generalize w2.drewN nq=w3 at HB HL HXX hz0 hz1 hf0 hf1 ⊢;have hy0:w3.cell? ⟨w.heap.size,0,none⟩=some (.int .i64 p):=(zf HL.out 0).trans rfl;have hy1:w3.cell? ⟨w.heap.size,1,none⟩=some (.int .i64 q):=(zf HL.out 1).trans rfl;go_wp2_with fail
   go_roundw
   case rel =>
    refine⟨k+1,by omega,by go_num,⟨zr (zr HB.out (Nat.le_refl _)) (Nat.le_refl _)⟩,⟨?_⟩⟩
    rw[HN.out];exact qi (q6 HL.out 0 _) 1 _ rfl
   case measure=>simp[intOf];omega
  ·obtain rfl:k=qs.length:=by omega
   have c1:decide ((qs.length:Int)<(qs.length:Int))=false:=Qn (by omega);go_wp2;go_ret;exact⟨rfl,HB.out⟩
theorem rd_L4_seq{n:Nat}(F:Nat->List Int){i:Int}{p:Nat}(h:p<n)(e:i=(p:Int)):zD (seq n F) i=F p:=by
 subst e;unfold zD;rw[Int.toNat_natCast,seq_getD F h]
def okPair(a b:List Int)(li lj:Int)(x:S54):Bool:=decide (0<=x.f0) && decide (x.f0<a.length) && decide (0<=x.f1) && decide (x.f1<b.length) && decide (rd a x.f0=rd b x.f1) && decide (li<x.f0) && decide (lj<x.f1)
def good(a b:List Int):Int->Int->List S54->Bool
 |_,_,[]=>true
 |li,lj,x::l=>okPair a b li lj x && good a b x.f0 x.f1 l
def kT:Kd (List Int):=Kd.slice 5 (Kd.int .u8)
theorem inf22k:(Tryz.prog.info? 22).map (fun i=>(i.zero,i.size,i.bytes))=some (some (.slice none 0 0),kT.sz,24):=by kernel_rfl
theorem Qh.calls(A:Option Addr)(c:Nat)(vs:List Value)(l:List (List Int))(w:World)(hV:Vals w vs l)(hc:CellsAt w A vs)(hl:l.length<=1000)(ht:∀ t,t∈l->t.length<140737488355328) :
 Calls Tryz.prog 82 #[.slice A vs.length c] w fun e w'=>∃ v,e=.returned v/\kT.R 22 w' w.heap.size (fun _=>True) v l/\Below w.heap.size w w':=by
 have hvl:vs.length<=1000:=by have:=hV.1;omega
 have HVL:=Qk hV.1;have HV:=Qk hV;have HC:=Qk hc;have HTT:=Qk ht;clear hV hc ht;go_enter Tryz.func82,Tryz.ntmps82;go_wp2_with fail
 go_loopw [8,3] (fun v8 v3 wr=>∃ i:Nat,i<=vs.length/\v8=.int .i64 i/\Aside0 (Below w.heap.size w wr)/\Aside0 (kT.R 22 wr w.heap.size (fun _=>True) v3 (l.take i))) (fun v8 _ _=>vs.length-(intOf v8).toNat)
 case atStart=>exact⟨0,by omega,rfl,⟨Below.refl _ _⟩,⟨Kd.R_nil _ _ _ _ _⟩⟩
 case round =>
  obtain⟨i,hi,rfl,HB,HO⟩:=hrel;by_cases hlt:i<vs.length
  ·obtain⟨t,ht⟩:∃ t,l[i]?=some t:=⟨_,List.getElem?_eq_getElem (by have:=HVL.out;omega)⟩
   obtain⟨A1,c1,a1,a2,a3⟩:=HV.out.2 i t ht;obtain⟨ad,rfl,hz1⟩:=HC.out i _ a1;have hz1:=zF HB.out hz1;have HA:=Qk (And.intro a2 (Kd.C_below a3 HB.out));have HTK:=Qk (show l.take (i+1)=l.take i++[t] by rw[List.take_add_one,ht];rfl);have HCL:=Qk (show zU.f t=some t by unfold zU.f;rw[if_pos (HTT.out t (List.mem_of_getElem? ht))]);have HLL:=Qk (show (l.take i).length<=1000 by rw[List.length_take];omega);clear a1 a2 a3 ht;have gl:decide ((i:Int)<(vs.length:Int))=true:=Qm (by omega);have gl2:decide (i<vs.length)=true:=Qm hlt;have gi0:(0:Int)<=(i:Int):=by omega
   have gi1:(i:Int)<(vs.length:Int):=by omega
   have hs:=HB.out.size;go_wp2_with (first
    |(go_at_call 101;((with_reducible refine(zU.calls A1 c1 t t _ HA.out.2 HA.out.1 HCL.out).mono ?_);rintro e w5 ⟨v5,rfl,hv,hb⟩;obtain⟨A5,c5,rfl⟩:=Kd.R_slice hv;have HN:=Qk (show ∀ k,u3.ownBlock=some k->k<wr.heap.size from fun k hk=>Kd.R_lt HO.out k hk);have HM5:=Qk (show kT.M w5 w.heap.size (fun k=>some k≠u3.ownBlock) t [.slice A5 t.length c5]from⟨_,rfl,Kd.R_lower (Kd.R_mono (Kd.R_bound hv) (fun k hk e=>by have h1:=HN.out k e.symm;have h2:=hk.2.1;omega)) hs⟩);have HB5:=Qk (zi HB.out hb);have HO5:=Qk (Kd.R_below HO.out hb);have hs5:=HB5.out.size;clear HB HO hv hb))
    |((with_reducible refine zO (b:=.append) (xs:=#[.tmp 12,.tmp 15]) rfl ?_);refine Kd.R_append kT (w0:=w) w.heap.size rfl (.tmp 12) (.tmp 15) 60 22 (.slice none 0 0) 24 rfl Tryz.underlying60 inf22k rfl (by decide) (by omega) u3 (l.take i) t [.slice A5 t.length c5] (fun _=>True) (fun k=>some k≠u3.ownBlock) rfl rfl HM5.out (fun _ hk=>⟨trivial,hk⟩) (fun _ _=>trivial) HO5.out HB5.out hs5 (by have:=HLL.out;omega) ?_;intro v6 w6 ho hb hg hat;have HO6:=Qk ho;have HB6:=Qk hb;clear ho hb hg hat))
   go_roundw
   case rel=>exact⟨i+1,by omega,by go_num,HB6,⟨by rw[HTK.out];exact HO6.out⟩⟩
   case measure=>simp[intOf];omega
  ·obtain rfl:i=vs.length:=by omega
   have hge:decide ((vs.length:Int)<(vs.length:Int))=false:=Qn (by omega);have HTL:=Qk (show l.take vs.length=l by rw[HVL.out];exact List.take_length);rw[HTL.out]at HO;go_wp2_with fail
   go_ret;exact⟨_,rfl,HO.out,HB.out⟩
theorem own_below'{w w1:World}{base:Nat}{e:TypeId}{size n:Nat}{v:Value}{xs:List Value}(h:w.ownsRow base e size v n xs)(hb:Below w.heap.size w w1):w1.ownsRow base e size v n xs:=by
 obtain⟨h1,h2⟩:=h;refine⟨h1,?_⟩
 rcases h2 with h2|⟨g,cap,cur,rfl,hg,hh,r⟩
 ·exact .inl h2
 ·exact .inr ⟨g,cap,cur,rfl,hg,zy hh hb,r⟩
theorem own_set'{w:World}{base:Nat}{e:TypeId}{size n:Nat}{v:Value}{xs:List Value}(h:w.ownsRow base e size v n xs){g:Nat}{t:TypeId}{cs:Array Value}(hg:w.heap[g]?=some (.cells cs t (0,0)))(ht:e≠t)(u:Value):(w.setCell ⟨g,0,none⟩ u).ownsRow base e size v n xs:=by
 refine own_setCell h (fun e'=>?_) u;obtain⟨_,h2⟩:=h
 rcases h2 with⟨rfl,_⟩|⟨g',cap,cur,rfl,_,hh,_⟩
 ·simp[Value.ownBlock]at e'
 ·simp only[Value.ownBlock]at e'
  injection e' with e'
  exact blk_ne hh hg ht e'.symm
structure MI(w0 W:World)(pi pj ps pa pb:Nat)(va vb v r:Value)(i j m:Nat):Prop where
 B:Below w0.heap.size w0 W
 hi:w0.heap.size<=pi
 hj:w0.heap.size<=pj
 hs:w0.heap.size<=ps
 ne:pi≠pj
 I:W.heap[pi]?=some (.cells #[.int .i64 (i:Int)] 3 (0,0))
 J:W.heap[pj]?=some (.cells #[.int .i64 (j:Int)] 3 (0,0))
 S:W.heap[ps]?=some (.cells #[v] 33 (0,0))
 A:W.heap[pa]?=some (.cells #[va] 60 (0,0))
 Bb:W.heap[pb]?=some (.cells #[vb] 60 (0,0))
 O:∃ n xs,W.ownsRow w0.heap.size 99 3 r n xs/\n<=m
namespace MI
variable {w0 W W':World} {pi pj ps pa pb i j m:Nat} {va vb v r:Value}
theorem below(h:MI w0 W pi pj ps pa pb va vb v r i j m)(hb:Below W.heap.size W W'):MI w0 W' pi pj ps pa pb va vb v r i j m :=
 ⟨zi h.B hb,h.hi,h.hj,h.hs,h.ne,zy h.I hb,zy h.J hb,zy h.S hb,zy h.A hb,zy h.Bb hb,by obtain⟨n,xs,h1,h2⟩:=h.O;exact⟨n,xs,own_below' h1 hb,h2⟩⟩
theorem drew(h:MI w0 W pi pj ps pa pb va vb v r i j m):MI w0 W.drew pi pj ps pa pb va vb v r i j m:=h.below (zC (Below.refl _ _))
theorem drewN(h:MI w0 W pi pj ps pa pb va vb v r i j m)(n:Nat):MI w0 (W.drewN n) pi pj ps pa pb va vb v r i j m:=h.below (zb (Below.refl _ _) n)
theorem alloc(h:MI w0 W pi pj ps pa pb va vb v r i j m)(o:Obj):MI w0 (W.alloc o) pi pj ps pa pb va vb v r i j m:=h.below (za (Below.refl _ _) o)
theorem cells(h:MI w0 W pi pj ps pa pb va vb v r i j m):W.cell? ⟨ps,0,none⟩=some v/\W.cell? ⟨pi,0,none⟩=some (.int .i64 (i:Int))/\W.cell? ⟨pa,0,none⟩=some va/\W.cell? ⟨pb,0,none⟩=some vb/\W.cell? ⟨pj,0,none⟩=some (.int .i64 (j:Int)) :=
 ⟨zf h.S 0,zf h.I 0,zf h.A 0,zf h.Bb 0,zf h.J 0⟩
theorem frozen(h:MI w0 W pi pj ps pa pb va vb v r i j m):W.frozen? ⟨ps,0,none⟩=false/\W.frozen? ⟨pi,0,none⟩=false/\W.frozen? ⟨pj,0,none⟩=false :=
 ⟨zh h.S 0,zh h.I 0,zh h.J 0⟩
theorem setS(h:MI w0 W pi pj ps pa pb va vb v r i j m)(u:Value):MI w0 (W.setCell ⟨ps,0,none⟩ u) pi pj ps pa pb va vb u r i j m :=
 ⟨zr h.B h.hs,h.hi,h.hj,h.hs,h.ne,qD h.I (blk_ne h.I h.S (by decide)) _,qD h.J (blk_ne h.J h.S (by decide)) _,by simpa using q6 h.S 0 u,qD h.A (blk_ne h.A h.S (by decide)) _,qD h.Bb (blk_ne h.Bb h.S (by decide)) _,by obtain⟨n,xs,h1,h2⟩:=h.O;exact⟨n,xs,own_set' h1 h.S (by decide) _,h2⟩⟩
theorem setI(h:MI w0 W pi pj ps pa pb va vb v r i j m)(k:Nat):MI w0 (W.setCell ⟨pi,0,none⟩ (.int .i64 (k:Int))) pi pj ps pa pb va vb v r k j m :=
 ⟨zr h.B h.hi,h.hi,h.hj,h.hs,h.ne,by simpa using q6 h.I 0 (.int .i64 (k:Int)),qD h.J (fun e=>h.ne e.symm) _,qD h.S (blk_ne h.S h.I (by decide)) _,qD h.A (blk_ne h.A h.I (by decide)) _,qD h.Bb (blk_ne h.Bb h.I (by decide)) _,by obtain⟨n,xs,h1,h2⟩:=h.O;exact⟨n,xs,own_set' h1 h.I (by decide) _,h2⟩⟩
theorem setJ(h:MI w0 W pi pj ps pa pb va vb v r i j m)(k:Nat):MI w0 (W.setCell ⟨pj,0,none⟩ (.int .i64 (k:Int))) pi pj ps pa pb va vb v r i k m :=
 ⟨zr h.B h.hj,h.hi,h.hj,h.hs,h.ne,qD h.I (fun e=>h.ne e) _,by simpa using q6 h.J 0 (.int .i64 (k:Int)),qD h.S (blk_ne h.S h.J (by decide)) _,qD h.A (blk_ne h.A h.J (by decide)) _,qD h.Bb (blk_ne h.Bb h.J (by decide)) _,by obtain⟨n,xs,h1,h2⟩:=h.O;exact⟨n,xs,own_set' h1 h.J (by decide) _,h2⟩⟩
theorem up(h:MI w0 W pi pj ps pa pb va vb v r i j m){m':Nat}(hm:m<=m'):MI w0 W pi pj ps pa pb va vb v r i j m' :=
 ⟨h.B,h.hi,h.hj,h.hs,h.ne,h.I,h.J,h.S,h.A,h.Bb,by obtain⟨n,xs,h1,h2⟩:=h.O;exact⟨n,xs,h1,Nat.le_trans h2 hm⟩⟩
theorem form(h:MI w0 W pi pj ps pa pb va vb v r i j m):∃ A n c,r=.slice A n c:=by
 obtain⟨n,xs,⟨_,ho⟩,_⟩:=h.O
 rcases ho with⟨rfl,_⟩|⟨g,cap,cur,rfl,_⟩
 ·exact⟨none,0,0,rfl⟩
 ·exact⟨_,_,_,rfl⟩
theorem inf99_:(Tryz.prog.info? 99).map (fun i=>(i.zero,i.size,i.bytes))=some (some (.agg #[.int .i64 0,.slice none 0 0,.slice none 0 0]),3,56):=by kernel_rfl
theorem push(h:MI w0 W pi pj ps pa pb va vb v r i j m)(hm:m<=1000){q:Nat}{c0 c1 c2:Value}{t:TypeId}(h1:∀ u∈[c0,c1,c2],u.oneCell'=true)(hq:W.heap[q]?=some (.cells #[c0,c1,c2] t (0,0)))(ty:TypeId) :
 ∃ r' W',(Builtin.append_ #[33,33] ty #[r,.slice (some ⟨q,0,none⟩) 1 1]).run Tryz.prog W=.ok r' W'/\MI w0 W' pi pj ps pa pb va vb v r' i j (m+1):=by
 obtain⟨n,xs,ho,hn⟩:=h.O;obtain⟨i0,hi,hz0,hz1,hz2⟩:=info_parts inf99_;have hnews:∀ j u,([c0,c1,c2]:List Value)[j]?=some u->W.cell? ((⟨q,0,none⟩:Addr).add j)=some u:=fun j u hj=>by
  rw[qy];exact(zf hq j).trans (by simpa using hj)
 obtain⟨v',W',hr,h2,h3,_,h5⟩:=run_append_own_at (P:=Tryz.prog) W w0.heap.size 33 ty 99 i0 (.agg #[.int .i64 0,.slice none 0 0,.slice none 0 0]) 3 56 Tryz.underlying33 hi hz0 hz1 hz2 rfl (by decide) r n xs ho ⟨q,0,none⟩ 1 1 [c0,c1,c2] rfl hnews h1 (by unfold maxLen;omega) (by omega) h.B.size;have hne:∀ {g:Nat} {t:TypeId} {cs:Array Value},W.heap[g]?=some (.cells cs t (0,0))->(99:TypeId)≠t->some g≠r.ownBlock:=fun {g t cs} hg ht e=>by
  obtain⟨_,k⟩:=ho
  rcases k with⟨rfl,_⟩|⟨g',cap,cur,rfl,_,hh,_⟩
  ·simp[Value.ownBlock]at e
  ·simp only[Value.ownBlock]at e
   injection e with e
   exact blk_ne hh hg ht e.symm
 exact⟨v',W',hr,h.B.grown h3 h.B.size (ZL ho),h.hi,h.hj,h.hs,h.ne,qC h.I h3 (hne h.I (by decide)),qC h.J h3 (hne h.J (by decide)),qC h.S h3 (hne h.S (by decide)),qC h.A h3 (hne h.A (by decide)),qC h.Bb h3 (hne h.Bb (by decide)),n+1,_,h2,by omega⟩
end MI
theorem vals_cut(A:Option Addr)(c:Nat)(vs:List Value)(a b:Nat)(h1:a<=b)(hm:b<=vs.length)(hc:vs.length<=c)(hs:vs.length<=1000) :
 ∃ A':Option Addr,(∀ W:World,(Instr.slice 60 (.slice A vs.length c) (some (.int .i64 (a:Int))) (some (.int .i64 (b:Int))) none).run Tryz.prog W=.ok (.slice A' ((vs.take b).drop a).length (c-a)) W)/\∀ w:World,CellsAt w A vs->CellsAt w A' ((vs.take b).drop a):=by
 obtain⟨i0,hi,_,hz,_⟩:=info_parts inf22k;obtain⟨A',h2,h3,_⟩:=Z1 (P:=Tryz.prog) (id:Value->Value) (.slice none 0 0) 60 22 .i64 .i64 Tryz.underlying60 hi hz A c vs (a:Int) (b:Int) (by omega) (by omega) (by omega) hc;refine⟨A',fun W=>by simpa using h2 W,fun w h=>?_⟩;have hr:ReadsOf (id:Value->Value) (.slice none 0 0) w A vs.length vs:=⟨rfl,by omega,fun h0=>by
  obtain⟨ad,e,_⟩:=h 0 _ (List.getElem?_eq_getElem h0);refine⟨ad,e,fun j hj=>?_⟩;obtain⟨ad',e',h'⟩:=h j _ (List.getElem?_eq_getElem hj);rw[e]at e';injection e' with e'
  subst e';rw[h',List.getD_eq_getElem?_getD,List.getElem?_eq_getElem hj];rfl⟩
 have h4:=h3 w hr;simp only[Int.toNat_natCast]at h4;intro q u hq;have hq':=(List.getElem?_eq_some_iff.1 hq).1;obtain⟨ad,e,h5⟩:=h4.2.2 (by omega);refine⟨ad,e,?_⟩;rw[h5 q hq',List.getD_eq_getElem?_getD,hq];rfl
theorem Vals.drop{w:World}{vs:List Value}{l:List (List Int)}(h:Vals w vs l)(k:Nat):Vals w (vs.drop k) (l.drop k):=by
 refine⟨by rw[List.length_drop,List.length_drop,h.1],fun i t hi=>?_⟩;rw[List.getElem?_drop]at hi ⊢;exact h.2 _ t hi
theorem edit_hunk.calls(w0 w:World)(pi pj ps pa pb:Nat)(A B:Option Addr)(ca cb:Nat)(vs us:List Value)(la lb:List (List Int))(v:Value)(i j ti tj:Nat)
 (hI:MI w0 w pi pj ps pa pb (.slice A vs.length ca) (.slice B us.length cb) v v i j i)
 (hVA:Aside0 (∀ W,Below w0.heap.size w0 W->Vals W vs la)) (hVB:Aside0 (∀ W,Below w0.heap.size w0 W->Vals W us lb))
 (hCA:Aside0 (∀ W,Below w0.heap.size w0 W->CellsAt W A vs)) (hCB:Aside0 (∀ W,Below w0.heap.size w0 W->CellsAt W B us))
 (hTA:Aside0 (∀ t,t∈la->t.length<140737488355328)) (hTB:Aside0 (∀ t,t∈lb->t.length<140737488355328))
 (hcA:vs.length<=ca) (hcB:us.length<=cb) (hlA:vs.length<=1000) (hlB:us.length<=1000) (h1:i<=ti) (h2:ti<=vs.length) (h3:j<=tj) (h4:tj<=us.length) :
 Calls Tryz.prog 81 #[.int .i64 (ti:Int),.int .i64 (tj:Int),.pointer (some ⟨pi,0,none⟩),.pointer (some ⟨pj,0,none⟩),.pointer (some ⟨ps,0,none⟩),.pointer (some ⟨pa,0,none⟩),.pointer (some ⟨pb,0,none⟩)] w fun e w' =>
  e=.returned (.tuple #[])/\∃ v',MI w0 w' pi pj ps pa pb (.slice A vs.length ca) (.slice B us.length cb) v' v' (ti+1) (tj+1) (ti+1):=by
 obtain⟨A2,hs2,HA2⟩:=vals_cut A ca vs i ti h1 h2 hcA hlA
 obtain⟨A3,hs3,HA3⟩:=vals_cut B cb us j tj h3 h4 hcB hlB
 have hti:i<=1000:=by omega
 have HVA:Aside0 (∀ W,Below w0.heap.size w0 W->Vals W ((vs.take ti).drop i) ((la.take ti).drop i)):=⟨fun W hb=>((hVA.out W hb).take ti).drop i⟩
 have HVB:Aside0 (∀ W,Below w0.heap.size w0 W->Vals W ((us.take tj).drop j) ((lb.take tj).drop j)):=⟨fun W hb=>((hVB.out W hb).take tj).drop j⟩
 have HCA:Aside0 (∀ W,Below w0.heap.size w0 W->CellsAt W A2 ((vs.take ti).drop i)):=⟨fun W hb=>HA2 W (hCA.out W hb)⟩
 have HCB:Aside0 (∀ W,Below w0.heap.size w0 W->CellsAt W A3 ((us.take tj).drop j)):=⟨fun W hb=>HA3 W (hCB.out W hb)⟩
 have HTA:Aside0 (∀ t,t∈(la.take ti).drop i->t.length<140737488355328):=⟨fun t ht=>hTA.out t (List.mem_of_mem_take (List.mem_of_mem_drop ht))⟩
 have HTB:Aside0 (∀ t,t∈(lb.take tj).drop j->t.length<140737488355328):=⟨fun t ht=>hTB.out t (List.mem_of_mem_take (List.mem_of_mem_drop ht))⟩
 have eA:vs.length=la.length:=(hVA.out w hI.B).1
 have eB:us.length=lb.length:=(hVB.out w hI.B).1
 have HLA:Aside0 (((la.take ti).drop i).length<=1000):=⟨by rw[List.length_drop,List.length_take];omega⟩
 have HLB:Aside0 (((lb.take tj).drop j).length<=1000):=⟨by rw[List.length_drop,List.length_take];omega⟩
 clear HA2 HA3
 generalize (vs.take ti).drop i=vA at hs2 HVA HCA
 generalize (us.take tj).drop j=vB at hs3 HVB HCB
 generalize (la.take ti).drop i=lA at HVA HTA HLA
 generalize (lb.take tj).drop j=lB at HVB HTB HLB
 have hwi:IntKind.i64.wrap ((ti:Int)+1)=((ti+1:Nat):Int):=by rw[IntWalk.i64_in _ (by omega)];omega
 have hwj:IntKind.i64.wrap ((tj:Int)+1)=((tj+1:Nat):Int):=by rw[IntWalk.i64_in _ (by omega)];omega
 have hI:=Qk hI
 clear hVA hVB hCA hCB hTA hTB eA eB
 obtain⟨cs,ci,cA,cB,cj⟩:=hI.out.cells
 obtain⟨fs,fi,fj⟩:=hI.out.frozen
 rcases Nat.lt_or_ge i ti with g0|g0
 ·have gg:decide ((i:Int)<(ti:Int))=true:=Qm (by omega)
  have gg2:decide (i<ti)=true:=Qm g0
  go_enter Tryz.func81,Tryz.ntmps81
  go_wp2_with fail
  clear cs ci cA cB cj fs fi fj
  refine ZG (n:=16) (S:=fun w'=>w'.cell? ⟨ps,0,none⟩=some v/\w'.cell? ⟨pi,0,none⟩=some (.int .i64 (i:Int))/\w'.cell? ⟨pa,0,none⟩=some (.slice A vs.length ca)/\w'.cell? ⟨pb,0,none⟩=some (.slice B us.length cb)/\w'.cell? ⟨pj,0,none⟩=some (.int .i64 (j:Int))) (ds:=[15]) #[N,N,N,N,N,N,N,N,N,N,N,N,N,N,N,N] (by kernel_rfl) rfl rfl hI.out.drew.cells (fun hHeld=>?_)
  have HB0:=Qk hI.out.drew.B
  have hI:=Qk hI.out.drew
  generalize w.drew=w4 at hI HB0 hHeld ⊢
  refine zG (i:=4) (N:=some 21) (v:=?_) (a':=?_) #[N,N,N,N,Y,N,N,N,N,N,N,N,N,N,N,N] rfl rfl (by kernel_rfl) (fun _ _ _ h=>h) (Or.inl ⟨by rfl,?_⟩) ?_ ?_;rotate_left
  ·intro w';go_simp;with_reducible rfl
  rotate_left
  ·simp only[Act.put,sA,sB,sC,zp,zw];rfl
  refine zG (i:=9) (N:=some 26) (v:=?_) (a':=?_) #[N,N,N,N,Y,N,N,N,N,Y,N,N,N,N,N,N] rfl rfl (by kernel_rfl) (fun _ _ _ h=>h) (Or.inl ⟨by rfl,?_⟩) ?_ ?_;rotate_left
  ·intro w';go_simp;with_reducible rfl
  rotate_left
  ·simp only[Act.put,sA,sB,sC,zp,zw];rfl
  refine take_ (i:=0) (N:=some 17) (v:=?_) (a':=?_) #[Y,N,N,N,Y,N,N,N,N,Y,N,N,N,N,N,N] rfl rfl (by kernel_rfl) (fun _ _ _ h=>h) (Or.inl ⟨by rfl,?_⟩) hHeld ?_ ?_;rotate_left
  ·rintro w' ⟨s0,s1,s2,s3,s4⟩;go_simp;with_reducible rfl
  rotate_left
  ·simp only[Act.put,sA,sB,sC,zp,zw];rfl
  refine take_ (i:=1) (N:=some 18) (v:=?_) (a':=?_) #[Y,Y,N,N,Y,N,N,N,N,Y,N,N,N,N,N,N] rfl rfl (by kernel_rfl) (fun _ _ _ h=>h) (Or.inl ⟨by rfl,?_⟩) hHeld ?_ ?_;rotate_left
  ·rintro w' ⟨s0,s1,s2,s3,s4⟩;go_simp;with_reducible rfl
  rotate_left
  ·simp only[Act.put,sA,sB,sC,zp,zw];rfl
  refine take_ (i:=2) (N:=some 19) (v:=?_) (a':=?_) #[Y,Y,Y,N,Y,N,N,N,N,Y,N,N,N,N,N,N] rfl rfl (by kernel_rfl) (fun _ _ _ h=>h) (Or.inl ⟨by rfl,?_⟩) hHeld ?_ ?_;rotate_left
  ·rintro w' ⟨s0,s1,s2,s3,s4⟩;go_simp;with_reducible rfl
  rotate_left
  ·simp only[Act.put,sA,sB,sC,zp,zw];rfl
  refine take_ (i:=3) (N:=some 20) (v:=?_) (a':=?_) #[Y,Y,Y,Y,Y,N,N,N,N,Y,N,N,N,N,N,N] rfl rfl (by kernel_rfl) (fun _ _ _ h=>h) (Or.inl ⟨by rfl,?_⟩) hHeld ?_ ?_;rotate_left
  ·rintro w' ⟨s0,s1,s2,s3,s4⟩;go_simp;with_reducible rfl
  rotate_left
  ·simp only[Act.put,sA,sB,sC,zp,zw];rfl
  refine take_ (i:=7) (N:=some 24) (v:=?_) (a':=?_) #[Y,Y,Y,Y,Y,N,N,Y,N,Y,N,N,N,N,N,N] rfl rfl (by kernel_rfl) (fun _ _ _ h=>h) (Or.inl ⟨by rfl,?_⟩) hHeld ?_ ?_;rotate_left
  ·rintro w' ⟨s0,s1,s2,s3,s4⟩;go_simp;with_reducible rfl
  rotate_left
  ·simp only[Act.put,sA,sB,sC,zp,zw];rfl
  refine take_ (i:=8) (N:=some 25) (v:=?_) (a':=?_) #[Y,Y,Y,Y,Y,N,N,Y,Y,Y,N,N,N,N,N,N] rfl rfl (by kernel_rfl) (fun _ _ _ h=>h) (Or.inl ⟨by rfl,?_⟩) hHeld ?_ ?_;rotate_left
  ·rintro w' ⟨s0,s1,s2,s3,s4⟩;go_simp;with_reducible rfl
  rotate_left
  ·simp only[Act.put,sA,sB,sC,zp,zw];rfl
  refine zG (i:=5) (N:=some 22) (v:=?_) (a':=?_) #[Y,Y,Y,Y,Y,Y,N,Y,Y,Y,N,N,N,N,N,N] rfl rfl (by kernel_rfl) (fun _ _ _ h=>h) (Or.inl ⟨by rfl,?_⟩) ?_ ?_;rotate_left
  ·intro w';go_simp;with_reducible rfl
  rotate_left
  ·simp only[Act.put,sA,sB,sC,zp,zw];rfl
  refine zG (i:=10) (N:=some 27) (v:=?_) (a':=?_) #[Y,Y,Y,Y,Y,Y,N,Y,Y,Y,Y,N,N,N,N,N] rfl rfl (by kernel_rfl) (fun _ _ _ h=>h) (Or.inl ⟨by rfl,?_⟩) ?_ ?_;rotate_left
  ·intro w';go_simp;with_reducible rfl
  rotate_left
  ·simp only[Act.put,sA,sB,sC,zp,zw];rfl
  refine one_ (i:=6) (N:=some 23) #[Y,Y,Y,Y,Y,Y,Y,Y,Y,Y,Y,N,N,N,N,N] rfl rfl (by kernel_rfl) (by decide) (fun K hK=>?_)
  refine goes_ Tryz.func82 (by kernel_rfl) rfl #[.slice A2 vA.length (ca-i)] (by rfl) rfl rfl (by simp only[List.map_toArray,List.map_cons,List.map_nil];rfl) ?_
  with_reducible refine(Qh.calls A2 _ _ lA _ (HVA.out _ HB0.out) (HCA.out _ HB0.out) HLA.out HTA.out).mono ?_
  rintro e w5 ⟨v5,rfl,hv5,hb5⟩
  obtain⟨A5,c5,rfl⟩:=Kd.R_slice hv5
  clear hv5
  generalize lA.length=n5 at HLA ⊢
  refine⟨_,rfl,?_⟩
  have HI5:=Qk (hI.out.below hb5)
  have HB5:=Qk (zi HB0.out hb5)
  clear hb5
  refine hK.out _ _ HI5.out.cells (fun hHeld=>?_)
  clear hK K
  refine norm_ (a':=?_) ?_ ?_
  rotate_left
  ·show Act.put _ (some 23) _=_
   simp only[Act.put,sA,sB,sC,zp,zw];rfl
  refine one_ (i:=11) (N:=some 28) #[Y,Y,Y,Y,Y,Y,Y,Y,Y,Y,Y,Y,N,N,N,N] rfl rfl (by kernel_rfl) (by decide) (fun K hK=>?_)
  refine goes_ Tryz.func82 (by kernel_rfl) rfl #[.slice A3 vB.length (cb-j)] (by rfl) rfl rfl (by simp only[List.map_toArray,List.map_cons,List.map_nil];rfl) ?_
  with_reducible refine(Qh.calls A3 _ _ lB _ (HVB.out _ HB5.out) (HCB.out _ HB5.out) HLB.out HTB.out).mono ?_
  rintro e w6 ⟨v6,rfl,hv6,hb6⟩
  obtain⟨A6,c6,rfl⟩:=Kd.R_slice hv6
  clear hv6
  generalize lB.length=n6 at HLB ⊢
  refine⟨_,rfl,?_⟩
  have HI6:=Qk (HI5.out.below hb6)
  have HB6:=Qk (zi HB5.out hb6)
  clear hb6
  refine hK.out _ _ HI6.out.cells (fun hHeld=>?_)
  clear hK K
  refine norm_ (a':=?_) ?_ ?_
  rotate_left
  ·show Act.put _ (some 28) _=_
   simp only[Act.put,sA,sB,sC,zp,zw];rfl
  refine zG (i:=12) (N:=some 29) (v:=?_) (a':=?_) #[Y,Y,Y,Y,Y,Y,Y,Y,Y,Y,Y,Y,Y,N,N,N] rfl rfl (by kernel_rfl) (fun _ _ _ h=>h) (Or.inl ⟨by rfl,?_⟩) ?_ ?_;rotate_left
  ·intro w';go_simp;with_reducible rfl
  rotate_left
  ·simp only[Act.put,sA,sB,sC,zp,zw];rfl
  refine one_ (i:=13) (N:=some 30) #[Y,Y,Y,Y,Y,Y,Y,Y,Y,Y,Y,Y,Y,Y,N,N] rfl rfl (by kernel_rfl) (by decide) (fun K hK=>?_)
  refine value_ (w1:=w6.alloc (.cells #[.int .i64 i,.slice A5 n5 c5,.slice A6 n6 c6] 99)) (v:=.slice (some ⟨w6.heap.size,0,none⟩) 1 1) (by rfl) rfl ?_ ?_
  ·first|(go_simp;done)|(go_simp;rfl)
  have HI7:=Qk (HI6.out.alloc (.cells #[.int .i64 i,.slice A5 n5 c5,.slice A6 n6 c6] 99))
  have hw7:=qv w6 (.cells #[.int .i64 i,.slice A5 n5 c5,.slice A6 n6 c6] 99)
  generalize w6.alloc (.cells #[.int .i64 i,.slice A5 n5 c5,.slice A6 n6 c6] 99)=w7 at HI7 hw7 ⊢
  refine hK.out _ _ HI7.out.cells (fun hHeld=>?_)
  clear hK K
  refine norm_ (a':=?_) ?_ ?_
  rotate_left
  ·show Act.put _ (some 30) _=_
   simp only[Act.put,sA,sB,sC,zp,zw];rfl
  obtain⟨v8,w8,hr8,HI8⟩:=HI7.out.push hti (fun u hu=>by simp only[List.mem_cons,List.not_mem_nil,or_false]at hu;rcases hu with rfl|rfl|rfl <;> rfl) hw7 _
  obtain⟨A8,n8,c8,rfl⟩:=HI8.form
  refine one_ (i:=14) (N:=some 31) #[Y,Y,Y,Y,Y,Y,Y,Y,Y,Y,Y,Y,Y,Y,Y,N] rfl rfl (by kernel_rfl) (by decide) (fun K hK=>?_)
  refine step_append_run ?g1 (.tmp 17) (.tmp 30) 33 ?g2 ?g3 ?g4 hr8 ?_
  case g1=>rfl
  case g2=>rfl
  case g3=>rfl
  case g4=>rfl
  refine hK.out _ _ HI8.cells (fun hHeld=>?_)
  clear hK K
  refine norm_ (a':=?_) ?_ ?_
  rotate_left
  ·show Act.put _ (some 31) _=_
   simp only[Act.put,sA,sB,sC,zp,zw];rfl
  have hfs:=zh HI8.S 0
  refine last_ (i:=15) (N:=none) #[Y,Y,Y,Y,Y,Y,Y,Y,Y,Y,Y,Y,Y,Y,Y,Y] rfl rfl (by kernel_rfl) (by decide) (fun K hK=>?_)
  refine skip_ (w1:=?_) (by rfl) rfl ?_ ?_
  rotate_left
  ·go_simp;rfl
  refine hK.out _ _ ?_
  clear hK K
  refine done_ (by kernel_rfl) ?_
  have HI9:=Qk (HI8.setS (.slice A8 n8 c8))
  clear HI8 hfs
  generalize w8.setCell ⟨ps,0,none⟩ (.slice A8 n8 c8)=w9 at HI9 ⊢
  obtain⟨cs,ci,cA,cB,cj⟩:=HI9.out.cells
  obtain⟨fs,fi,fj⟩:=HI9.out.frozen
  have ck:=HI9.out.ne
  have hcj2:(w9.setCell ⟨pi,0,none⟩ (.int .i64 ((ti+1:Nat):Int))).frozen? ⟨pj,0,none⟩=false:=((HI9.out.setI (ti+1)).frozen).2.2
  go_wp2_with fail
  go_end0
  exact⟨rfl,(.slice A8 n8 c8),((HI9.out.setI (ti+1)).setJ (tj+1)).up (by omega)⟩
 ·have gg:decide ((i:Int)<(ti:Int))=false:=Qn (by omega)
  have gg2:decide (i<ti)=false:=Qn (by omega)
  rcases Nat.lt_or_ge j tj with g1|g1
  ·have gg3:decide ((j:Int)<(tj:Int))=true:=Qm (by omega)
   have gg4:decide (j<tj)=true:=Qm g1
   go_enter Tryz.func81,Tryz.ntmps81
   go_wp2_with fail
   clear cs ci cA cB cj fs fi fj
   refine ZG (n:=16) (S:=fun w'=>w'.cell? ⟨ps,0,none⟩=some v/\w'.cell? ⟨pi,0,none⟩=some (.int .i64 (i:Int))/\w'.cell? ⟨pa,0,none⟩=some (.slice A vs.length ca)/\w'.cell? ⟨pb,0,none⟩=some (.slice B us.length cb)/\w'.cell? ⟨pj,0,none⟩=some (.int .i64 (j:Int))) (ds:=[15]) #[N,N,N,N,N,N,N,N,N,N,N,N,N,N,N,N] (by kernel_rfl) rfl rfl hI.out.drew.cells (fun hHeld=>?_)
   have HB0:=Qk hI.out.drew.B
   have hI:=Qk hI.out.drew
   generalize w.drew=w4 at hI HB0 hHeld ⊢
   refine zG (i:=4) (N:=some 21) (v:=?_) (a':=?_) #[N,N,N,N,Y,N,N,N,N,N,N,N,N,N,N,N] rfl rfl (by kernel_rfl) (fun _ _ _ h=>h) (Or.inl ⟨by rfl,?_⟩) ?_ ?_;rotate_left
   ·intro w';go_simp;with_reducible rfl
   rotate_left
   ·simp only[Act.put,sA,sB,sC,zp,zw];rfl
   refine zG (i:=9) (N:=some 26) (v:=?_) (a':=?_) #[N,N,N,N,Y,N,N,N,N,Y,N,N,N,N,N,N] rfl rfl (by kernel_rfl) (fun _ _ _ h=>h) (Or.inl ⟨by rfl,?_⟩) ?_ ?_;rotate_left
   ·intro w';go_simp;with_reducible rfl
   rotate_left
   ·simp only[Act.put,sA,sB,sC,zp,zw];rfl
   refine take_ (i:=0) (N:=some 17) (v:=?_) (a':=?_) #[Y,N,N,N,Y,N,N,N,N,Y,N,N,N,N,N,N] rfl rfl (by kernel_rfl) (fun _ _ _ h=>h) (Or.inl ⟨by rfl,?_⟩) hHeld ?_ ?_;rotate_left
   ·rintro w' ⟨s0,s1,s2,s3,s4⟩;go_simp;with_reducible rfl
   rotate_left
   ·simp only[Act.put,sA,sB,sC,zp,zw];rfl
   refine take_ (i:=1) (N:=some 18) (v:=?_) (a':=?_) #[Y,Y,N,N,Y,N,N,N,N,Y,N,N,N,N,N,N] rfl rfl (by kernel_rfl) (fun _ _ _ h=>h) (Or.inl ⟨by rfl,?_⟩) hHeld ?_ ?_;rotate_left
   ·rintro w' ⟨s0,s1,s2,s3,s4⟩;go_simp;with_reducible rfl
   rotate_left
   ·simp only[Act.put,sA,sB,sC,zp,zw];rfl
   refine take_ (i:=2) (N:=some 19) (v:=?_) (a':=?_) #[Y,Y,Y,N,Y,N,N,N,N,Y,N,N,N,N,N,N] rfl rfl (by kernel_rfl) (fun _ _ _ h=>h) (Or.inl ⟨by rfl,?_⟩) hHeld ?_ ?_;rotate_left
   ·rintro w' ⟨s0,s1,s2,s3,s4⟩;go_simp;with_reducible rfl
   rotate_left
   ·simp only[Act.put,sA,sB,sC,zp,zw];rfl
   refine take_ (i:=3) (N:=some 20) (v:=?_) (a':=?_) #[Y,Y,Y,Y,Y,N,N,N,N,Y,N,N,N,N,N,N] rfl rfl (by kernel_rfl) (fun _ _ _ h=>h) (Or.inl ⟨by rfl,?_⟩) hHeld ?_ ?_;rotate_left
   ·rintro w' ⟨s0,s1,s2,s3,s4⟩;go_simp;with_reducible rfl
   rotate_left
   ·simp only[Act.put,sA,sB,sC,zp,zw];rfl
   refine take_ (i:=7) (N:=some 24) (v:=?_) (a':=?_) #[Y,Y,Y,Y,Y,N,N,Y,N,Y,N,N,N,N,N,N] rfl rfl (by kernel_rfl) (fun _ _ _ h=>h) (Or.inl ⟨by rfl,?_⟩) hHeld ?_ ?_;rotate_left
   ·rintro w' ⟨s0,s1,s2,s3,s4⟩;go_simp;with_reducible rfl
   rotate_left
   ·simp only[Act.put,sA,sB,sC,zp,zw];rfl
   refine take_ (i:=8) (N:=some 25) (v:=?_) (a':=?_) #[Y,Y,Y,Y,Y,N,N,Y,Y,Y,N,N,N,N,N,N] rfl rfl (by kernel_rfl) (fun _ _ _ h=>h) (Or.inl ⟨by rfl,?_⟩) hHeld ?_ ?_;rotate_left
   ·rintro w' ⟨s0,s1,s2,s3,s4⟩;go_simp;with_reducible rfl
   rotate_left
   ·simp only[Act.put,sA,sB,sC,zp,zw];rfl
   refine zG (i:=5) (N:=some 22) (v:=?_) (a':=?_) #[Y,Y,Y,Y,Y,Y,N,Y,Y,Y,N,N,N,N,N,N] rfl rfl (by kernel_rfl) (fun _ _ _ h=>h) (Or.inl ⟨by rfl,?_⟩) ?_ ?_;rotate_left
   ·intro w';go_simp;with_reducible rfl
   rotate_left
   ·simp only[Act.put,sA,sB,sC,zp,zw];rfl
   refine zG (i:=10) (N:=some 27) (v:=?_) (a':=?_) #[Y,Y,Y,Y,Y,Y,N,Y,Y,Y,Y,N,N,N,N,N] rfl rfl (by kernel_rfl) (fun _ _ _ h=>h) (Or.inl ⟨by rfl,?_⟩) ?_ ?_;rotate_left
   ·intro w';go_simp;with_reducible rfl
   rotate_left
   ·simp only[Act.put,sA,sB,sC,zp,zw];rfl
   refine one_ (i:=6) (N:=some 23) #[Y,Y,Y,Y,Y,Y,Y,Y,Y,Y,Y,N,N,N,N,N] rfl rfl (by kernel_rfl) (by decide) (fun K hK=>?_)
   refine goes_ Tryz.func82 (by kernel_rfl) rfl #[.slice A2 vA.length (ca-i)] (by rfl) rfl rfl (by simp only[List.map_toArray,List.map_cons,List.map_nil];rfl) ?_
   with_reducible refine(Qh.calls A2 _ _ lA _ (HVA.out _ HB0.out) (HCA.out _ HB0.out) HLA.out HTA.out).mono ?_
   rintro e w5 ⟨v5,rfl,hv5,hb5⟩
   obtain⟨A5,c5,rfl⟩:=Kd.R_slice hv5
   clear hv5
   generalize lA.length=n5 at HLA ⊢
   refine⟨_,rfl,?_⟩
   have HI5:=Qk (hI.out.below hb5)
   have HB5:=Qk (zi HB0.out hb5)
   clear hb5
   refine hK.out _ _ HI5.out.cells (fun hHeld=>?_)
   clear hK K
   refine norm_ (a':=?_) ?_ ?_
   rotate_left
   ·show Act.put _ (some 23) _=_
    simp only[Act.put,sA,sB,sC,zp,zw];rfl
   refine one_ (i:=11) (N:=some 28) #[Y,Y,Y,Y,Y,Y,Y,Y,Y,Y,Y,Y,N,N,N,N] rfl rfl (by kernel_rfl) (by decide) (fun K hK=>?_)
   refine goes_ Tryz.func82 (by kernel_rfl) rfl #[.slice A3 vB.length (cb-j)] (by rfl) rfl rfl (by simp only[List.map_toArray,List.map_cons,List.map_nil];rfl) ?_
   with_reducible refine(Qh.calls A3 _ _ lB _ (HVB.out _ HB5.out) (HCB.out _ HB5.out) HLB.out HTB.out).mono ?_
   rintro e w6 ⟨v6,rfl,hv6,hb6⟩
   obtain⟨A6,c6,rfl⟩:=Kd.R_slice hv6
   clear hv6
   generalize lB.length=n6 at HLB ⊢
   refine⟨_,rfl,?_⟩
   have HI6:=Qk (HI5.out.below hb6)
   have HB6:=Qk (zi HB5.out hb6)
   clear hb6
   refine hK.out _ _ HI6.out.cells (fun hHeld=>?_)
   clear hK K
   refine norm_ (a':=?_) ?_ ?_
   rotate_left
   ·show Act.put _ (some 28) _=_
    simp only[Act.put,sA,sB,sC,zp,zw];rfl
   refine zG (i:=12) (N:=some 29) (v:=?_) (a':=?_) #[Y,Y,Y,Y,Y,Y,Y,Y,Y,Y,Y,Y,Y,N,N,N] rfl rfl (by kernel_rfl) (fun _ _ _ h=>h) (Or.inl ⟨by rfl,?_⟩) ?_ ?_;rotate_left
   ·intro w';go_simp;with_reducible rfl
   rotate_left
   ·simp only[Act.put,sA,sB,sC,zp,zw];rfl
   refine one_ (i:=13) (N:=some 30) #[Y,Y,Y,Y,Y,Y,Y,Y,Y,Y,Y,Y,Y,Y,N,N] rfl rfl (by kernel_rfl) (by decide) (fun K hK=>?_)
   refine value_ (w1:=w6.alloc (.cells #[.int .i64 i,.slice A5 n5 c5,.slice A6 n6 c6] 99)) (v:=.slice (some ⟨w6.heap.size,0,none⟩) 1 1) (by rfl) rfl ?_ ?_
   ·first|(go_simp;done)|(go_simp;rfl)
   have HI7:=Qk (HI6.out.alloc (.cells #[.int .i64 i,.slice A5 n5 c5,.slice A6 n6 c6] 99))
   have hw7:=qv w6 (.cells #[.int .i64 i,.slice A5 n5 c5,.slice A6 n6 c6] 99)
   generalize w6.alloc (.cells #[.int .i64 i,.slice A5 n5 c5,.slice A6 n6 c6] 99)=w7 at HI7 hw7 ⊢
   refine hK.out _ _ HI7.out.cells (fun hHeld=>?_)
   clear hK K
   refine norm_ (a':=?_) ?_ ?_
   rotate_left
   ·show Act.put _ (some 30) _=_
    simp only[Act.put,sA,sB,sC,zp,zw];rfl
   obtain⟨v8,w8,hr8,HI8⟩:=HI7.out.push hti (fun u hu=>by simp only[List.mem_cons,List.not_mem_nil,or_false]at hu;rcases hu with rfl|rfl|rfl <;> rfl) hw7 _
   obtain⟨A8,n8,c8,rfl⟩:=HI8.form
   refine one_ (i:=14) (N:=some 31) #[Y,Y,Y,Y,Y,Y,Y,Y,Y,Y,Y,Y,Y,Y,Y,N] rfl rfl (by kernel_rfl) (by decide) (fun K hK=>?_)
   refine step_append_run ?g1 (.tmp 17) (.tmp 30) 33 ?g2 ?g3 ?g4 hr8 ?_
   case g1=>rfl
   case g2=>rfl
   case g3=>rfl
   case g4=>rfl
   refine hK.out _ _ HI8.cells (fun hHeld=>?_)
   clear hK K
   refine norm_ (a':=?_) ?_ ?_
   rotate_left
   ·show Act.put _ (some 31) _=_
    simp only[Act.put,sA,sB,sC,zp,zw];rfl
   have hfs:=zh HI8.S 0
   refine last_ (i:=15) (N:=none) #[Y,Y,Y,Y,Y,Y,Y,Y,Y,Y,Y,Y,Y,Y,Y,Y] rfl rfl (by kernel_rfl) (by decide) (fun K hK=>?_)
   refine skip_ (w1:=?_) (by rfl) rfl ?_ ?_
   rotate_left
   ·go_simp;rfl
   refine hK.out _ _ ?_
   clear hK K
   refine done_ (by kernel_rfl) ?_
   have HI9:=Qk (HI8.setS (.slice A8 n8 c8))
   clear HI8 hfs
   generalize w8.setCell ⟨ps,0,none⟩ (.slice A8 n8 c8)=w9 at HI9 ⊢
   obtain⟨cs,ci,cA,cB,cj⟩:=HI9.out.cells
   obtain⟨fs,fi,fj⟩:=HI9.out.frozen
   have ck:=HI9.out.ne
   have hcj2:(w9.setCell ⟨pi,0,none⟩ (.int .i64 ((ti+1:Nat):Int))).frozen? ⟨pj,0,none⟩=false:=((HI9.out.setI (ti+1)).frozen).2.2
   go_wp2_with fail
   go_end0
   exact⟨rfl,(.slice A8 n8 c8),((HI9.out.setI (ti+1)).setJ (tj+1)).up (by omega)⟩
  ·have gg3:decide ((j:Int)<(tj:Int))=false:=Qn (by omega)
   have gg4:decide (j<tj)=false:=Qn (by omega)
   have ck:=hI.out.ne
   have hcj2:(w.setCell ⟨pi,0,none⟩ (.int .i64 ((ti+1:Nat):Int))).frozen? ⟨pj,0,none⟩=false:=((hI.out.setI (ti+1)).frozen).2.2
   go_enter Tryz.func81,Tryz.ntmps81
   go_wp2_with fail
   go_end0
   exact⟨rfl,v,((hI.out.setI (ti+1)).setJ (tj+1)).up (by omega)⟩
end Go.Proofs.YtdiojfaenfggkaaGreat.PTopNear
