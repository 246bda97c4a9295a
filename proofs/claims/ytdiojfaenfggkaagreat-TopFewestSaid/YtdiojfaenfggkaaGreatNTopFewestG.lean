/- Functions of the given program, each a Lean function and the walk that shows it. -/
import Derived.Test.YtdiojfaenfggkaaGreatNTopFewestF
import Derived.Outline
import Derived.Deep.RegionHeld3
import Derived.Deep.DeepCutAuto
import Derived.Deep.QuietTactic
import Derived.BigQuiet
import Derived.IntWalk
set_option maxHeartbeats 8000000
set_option maxRecDepth 100000
namespace Go.Proofs.YtdiojfaenfggkaaGreat.PTopNear
open Go.RowKit Go.Proofs.YtdiojfaenfggkaaGreatW.PrintWords Go.Proofs.YtdiojfaenfggkaaGreatW.PrintLast Go.Proofs.YtdiojfaenfggkaaGreatW.PrintMore
attribute [local go_sem] qW qU Zg Zf qK qJ qV qT
set_option linter.unusedVariables false
set_option linter.unusedSimpArgs false
mutual
def zA.j0:Nat->Int->List Int->Bool->Option ((List (List Int))×Int)
 |0,_,_,_=>none
 |k+1,x0,x1,x14=>if x14=true then(some (([]:List (List Int)),1))else(zA.l0 k x0 x1 ([]:List (List Int)) 0 0)
def zA.l0:Nat->Int->List Int->List (List Int)->Int->Int->Option ((List (List Int))×Int)
 |0,_,_,_,_,_=>none
 |k+1,x0,x1,x6,x7,x8=>if x8<(x1.length:Int)then(if x0=0 then(if 0<=x7 then(if x7<=(wrap64 (x8+1))then(if (wrap64 (x8+1))<=(x1.length:Int)then(if x6.length<5864062014805 then(zA.l0 k x0 x1 (x6++[((x1.take ((wrap64 (x8+1)):Int).toNat).drop (x7:Int).toNat)]) (wrap64 (x8+1)) (wrap64 (x8+1)))else(none))else(none))else(none))else(none))else(if 0<=x8 then(if (rd x1 x8)=10 then(if 0<=x7 then(if x7<=(wrap64 (x8+1))then(if (wrap64 (x8+1))<=(x1.length:Int)then(if x6.length<5864062014805 then(zA.l0 k x0 x1 (x6++[((x1.take ((wrap64 (x8+1)):Int).toNat).drop (x7:Int).toNat)]) (wrap64 (x8+1)) (wrap64 (x8+1)))else(none))else(none))else(none))else(none))else(zA.l0 k x0 x1 x6 x7 (wrap64 (x8+1))))else(none)))else(if x7<(x1.length:Int)then(if 0<=x7 then(if x7<=(x1.length:Int)then(if x6.length<5864062014805 then(some ((x6++[(x1.drop (x7:Int).toNat)]),0))else(none))else(none))else(none))else(some (x6,0)))
end
def zA.f(k:Nat)(a0:Int)(l1:List Int):Option ((List (List Int))×Int):=if a0=0 then(zA.j0 k a0 l1 false)else(zA.j0 k a0 l1 (a0 != 1))
theorem zA.calls(k:Nat)(a0:Int)(P1_:Nat->Prop)(A1:Option Addr)(c1:Nat)(l1:List Int)(r1:List (List Int))(r2:Int)(w:World)(hs1:Kd.V (Kd.int .u8) 5 w w.heap.size (fun k_=>P1_ k_) (.slice A1 l1.length c1) l1)(h:zA.f k a0 l1=some (r1,r2)) :
 Calls Tryz.prog 23 #[.int .i64 a0,.slice A1 l1.length c1] w fun e w'=>∃ v0_:Value,e=.returned (.tuple #[v0_,.int .i64 r2])/\Kd.N (Kd.slice 5 (Kd.int .u8)) 22 w' w.heap.size (fun k_=>(P1_ k_\/w.heap.size<=k_)) v0_ r1/\Below w.heap.size w w':=by
 have HO1:=Qk (show Kd.V (Kd.int .u8) 5 w w.heap.size (fun k_=>(P1_ k_\/w.heap.size<=k_)) (.slice A1 l1.length c1) l1 from Kd.V_mono hs1 (fun k_ hk=>.inl hk));have HB:=Qk (Below.refl w.heap.size w);have H:(if a0=0 then(zA.j0 k a0 l1 false)else(zA.j0 k a0 l1 (a0 != 1)))=some (r1,r2):=h;clear h;have HC3:=Qk H;clear H;go_enter Tryz.func23,Tryz.ntmps23;go_upto_region 1 with(fail)
 go_cut [14] (fun v14 wc=>∃ (kq:Nat) (x14_2:Bool),v14=.bool x14_2/\Aside0 (zA.j0 kq a0 l1 x14_2=some (r1,r2))/\Aside0 (kq<=k)/\Aside0 (Kd.V (Kd.int .u8) 5 wc w.heap.size (fun k_=>(P1_ k_\/w.heap.size<=k_)) (.slice A1 l1.length c1) l1)/\Aside0 (Below w.heap.size w wc))
 case first =>
  have H:=HC3.out;clear HC3;by_cases c4:a0=0
  ·rw[if_pos c4]at H;have c4b0:(a0 == 0)=true:=beq_iff_eq.mpr c4;have c4b1:(a0 != 0)=false:=bne_eq_false_iff_eq.mpr c4;clear c4;(first|rw[c4b0]|(simp only[zp,zw];rw[c4b0])|skip);have H':=Qk H;clear H;go_wp2;go_meet
   case rel=>exact⟨_,(false),rfl,H',⟨by first|omega|exact Nat.le_refl _⟩,⟨HO1.out⟩,⟨HB.out⟩⟩
  ·rw[if_neg c4]at H;have c4b0:(a0 == 0)=false:=beq_eq_false_iff_ne.mpr c4;have c4b1:(a0 != 0)=true:=bne_iff_ne.mpr c4;(first|rw[c4b0]|(simp only[zp,zw];rw[c4b0])|skip);have H':=Qk H;clear H;go_wp2;go_meet
   case rel=>exact⟨_,((a0 != 1)),rfl,H',⟨by first|omega|exact Nat.le_refl _⟩,⟨HO1.out⟩,⟨HB.out⟩⟩
 case rest =>
  clear HC3;obtain⟨kq,x14_2,rfl,HA,HJ2,HO_1,HB⟩:=hcut
  cases kq with
  |zero=>exact absurd HA.out (by simp[zA.j0])
  |succ kj2 =>
   have H:=HA.out;clear HA;simp only[zA.j0]at H;by_cases c5:x14_2=true
   ·subst c5;have H1:(some (([]:List (List Int)),1))=some (r1,r2):=by rw[if_pos rfl]at H;exact H
    clear H;have H:=H1;clear H1;simp only[Option.some.injEq,Prod.mk.injEq]at H;obtain⟨rfl,rfl⟩:=H;go_wp2;go_ret2;exact⟨_,rfl,by first|exact Kd.S_nil _ _ _ _ _|exact Kd.N_nil _ _ _ _ _|exact Kd.V_nil _ _ _ _ _|exact Kd.Q_nil _ _ _ _ _|exact Kd.R_nil _ _ _ _ _,HB.out⟩
   ·replace c5:=Bool.eq_false_iff.mpr c5;subst c5;have H1:(zA.l0 kj2 a0 l1 ([]:List (List Int)) 0 0)=some (r1,r2):=by rw[if_neg (show ¬ (false=true) by decide)]at H;exact H
    clear H;have H:=H1;clear H1;have H':=Qk H;clear H;go_wp2;go_loopg [6,7,8] kj2 (fun kq v6 v7 v8 w'=>∃ (x6_2:List (List Int)) (x7_2:Int) (x8_2:Int),v7=.int .i64 x7_2/\v8=.int .i64 x8_2/\Aside0 (zA.l0 kq a0 l1 x6_2 x7_2 x8_2=some (r1,r2))/\Aside0 (kq<=kj2)/\Aside0 (Kd.V (Kd.int .u8) 5 w' w.heap.size (fun k_=>(P1_ k_\/w.heap.size<=k_)/\some k_≠(v6:Value).ownBlock) (.slice A1 l1.length c1) l1)/\Aside0 (Kd.N (Kd.slice 5 (Kd.int .u8)) 22 w' w.heap.size (fun k_=>(P1_ k_\/w.heap.size<=k_)) v6 x6_2)/\Aside0 (Below w.heap.size w w'))
    case atStart=>exact⟨(([]:List (List Int))),(0),(0),rfl,rfl,H',⟨Nat.le_refl _⟩,⟨by(with_reducible repeat(first|apply Kd.V_alloc|apply Kd.V_drewN|apply Kd.V_drew));exact Kd.V_mono HO_1.out (fun _ hk=>⟨hk,(by simp[Value.ownBlock])⟩)⟩,⟨by first|exact Kd.S_nil _ _ _ _ _|exact Kd.N_nil _ _ _ _ _|exact Kd.V_nil _ _ _ _ _|exact Kd.Q_nil _ _ _ _ _|exact Kd.R_nil _ _ _ _ _⟩,⟨HB.out⟩⟩
    case round =>
     clear H';obtain⟨x6_2,x7_2,x8_2,rfl,rfl,HA,HK2,HO_1,HO_6,HB⟩:=hrel
     cases gk with
     |zero=>exact absurd HA.out (by simp[zA.l0])
     |succ k2 =>
      have H:=HA.out;clear HA;simp only[zA.l0]at H;by_cases c6:x8_2<(l1.length:Int)
      ·rw[if_pos c6]at H;have c6b0:decide (x8_2<(l1.length:Int))=true:=Qm c6;clear c6;by_cases c7:a0=0
       ·rw[if_pos c7]at H;have c7b0:(a0 == 0)=true:=beq_iff_eq.mpr c7;have c7b1:(a0 != 0)=false:=bne_eq_false_iff_eq.mpr c7;clear c7;replace H:=ifSome H;obtain⟨c8,H⟩:=H;have c8b0:=Qr c8;have c8b1:decide (0<=x7_2)=true:=Qm c8;clear c8;replace H:=ifSome H;obtain⟨c9,H⟩:=H;have c9b0:=Qr c9;have c9b1:decide (x7_2<=(wrap64 (x8_2+1)))=true:=Qm c9;replace H:=ifSome H;obtain⟨c10,H⟩:=H;have c10b0:=Qr c10;have c10b1:decide ((wrap64 (x8_2+1))<=(l1.length:Int))=true:=Qm c10;obtain⟨y869,hy869⟩:∃ y_:List Int,y_=((l1.take ((wrap64 (x8_2+1)):Int).toNat).drop (x7_2:Int).toNat):=⟨_,rfl⟩
        replace H:(if x6_2.length<5864062014805 then(zA.l0 k2 a0 l1 (x6_2++[y869]) (wrap64 (x8_2+1)) (wrap64 (x8_2+1)))else(none))=some (r1,r2):=by first|(rw[hy869];with_reducible exact H)|(have H2_:=(Option.bind_some _ _).symm.trans H;rw[hy869];with_reducible exact H2_)|(have H2_:=(Option.bind_some _ _).symm.trans H;with_reducible exact H2_)|with_reducible exact H|(rw[hy869];exact H)|exact H
        have Ny869:=Qk hy869;clear hy869;replace H:=ifSome H;obtain⟨c11,H⟩:=H;have LMc11:=Qk c11;clear c11;obtain⟨y874,hy874⟩:∃ y_:List (List Int),y_=(x6_2++[y869]):=⟨_,rfl⟩
        replace H:(zA.l0 k2 a0 l1 y874 (wrap64 (x8_2+1)) (wrap64 (x8_2+1)))=some (r1,r2):=by first|(rw[hy874];with_reducible exact H)|(have H2_:=(Option.bind_some _ _).symm.trans H;rw[hy874];with_reducible exact H2_)|(have H2_:=(Option.bind_some _ _).symm.trans H;with_reducible exact H2_)|with_reducible exact H|(rw[hy874];exact H)|exact H
        have Ny874:=Qk hy874;clear hy874;have H':=Qk H;clear H;have q12:((wrap64 (x8_2+1)):Int)<=((l1.length:Int):Int):=Ql (by assumption);obtain⟨i012,hi012,_,hsz12,_⟩:=info_parts info5;have hroom12:l1.length<=c1:=(Kd.V_reads' HO_1.out).2.1;have hC12:Kd.F (Kd.int .u8) _ _ A1 l1.length l1:=(Kd.V_at (base:=w.heap.size) HO_1.out).2.2;have ql12:(x7_2:Int)<=((wrap64 (x8_2+1)):Int):=Ql (by assumption);have q012:(0:Int)<=(x7_2:Int):=Ql (by assumption);have hcut12:=cut_mid (P:=Tryz.prog) 22 5 .i64 .i64 Tryz.underlying22 hi012 1 hsz12 A1 l1.length c1 x7_2 (wrap64 (x8_2+1)) q012 ql12 q12 hroom12;have hr12:=Kd.F_mid (lo:=(x7_2:Int).toNat) (hi:=((wrap64 (x8_2+1)):Int).toNat) (c:=c1) hC12 (by omega) (by omega) hroom12;obtain⟨A12,hA12⟩:∃ z_,z_=(if c1=(x7_2:Int).toNat then A1 else(A1:Option Addr).map (·.add ((x7_2:Int).toNat*1))):=⟨_,rfl⟩
        obtain⟨c12,hc12⟩:∃ z_,z_=c1-(x7_2:Int).toNat:=⟨_,rfl⟩
        have hy12:y869.length=((wrap64 (x8_2+1)):Int).toNat-(x7_2:Int).toNat:=(by rw[Ny869.out,List.length_drop,List.length_take] <;> omega);rw[show ((l1).take ((wrap64 (x8_2+1)):Int).toNat).drop (x7_2:Int).toNat=y869 from Ny869.out.symm]at hr12
        replace hr12:Kd.F (Kd.int .u8) _ _ A12 y869.length y869:=(by rw[hA12];exact hr12);rw[← hy12,← hA12,← hc12]at hcut12;have HO873:=Qk (show Kd.V (Kd.int .u8) 5 _ w.heap.size _ (.slice A12 y869.length c12) y869 from Kd.V_mk (by rw[hy12,hc12];exact Nat.sub_le_sub_right (Nat.le_trans (by omega) hroom12) _) hr12);have HC873:=Qk (show y869.length<=c12 from by rw[hy12,hc12];exact Nat.sub_le_sub_right (Nat.le_trans (by omega) hroom12) _);clear hr12 hC12 hroom12 hi012 hsz12 hc12;have KY12:=Qk hy12;have KA12:=Qk hA12;clear hy12 hA12;replace q12:=Qr q12;go_wp2_with (first|((with_reducible refine zO (b:=.append) (xs:=#[.tmp 30,.tmp 36]) rfl ?_);at_builtin;refine Kd.N_append (Kd.slice 5 (Kd.int .u8)) (w0:=w) w.heap.size rfl (.tmp 30) (.tmp 36) 60 22 (.slice none 0 0) 24 rfl Tryz.underlying60 info22 rfl (by decide) (by omega) u6 x6_2 y869 [.slice A12 y869.length c12] (fun k_=>(P1_ k_\/w.heap.size<=k_)) (fun k_=>((fun k_=>(P1_ k_\/w.heap.size<=k_))) k_/\some k_≠(u6:Value).ownBlock) rfl rfl ?aP (fun _ hk=>hk) ?aF ?aO ?aB ?aS ?aL ?_;(case aP=>exact(Kd.FK_slice_mk (Kd.V_reads' (Kd.V_mono (ok':=(fun k_=>((fun k_=>(P1_ k_\/w.heap.size<=k_))) k_/\some k_≠(u6:Value).ownBlock)) (HO873.out) (fun k_ hk=>⟨hk.1,hk.2⟩))).2.1 (Kd.V_F (Kd.V_mono (ok':=(fun k_=>((fun k_=>(P1_ k_\/w.heap.size<=k_))) k_/\some k_≠(u6:Value).ownBlock)) (HO873.out) (fun k_ hk=>⟨hk.1,hk.2⟩)))));(case aB=>exact HB.out);(case aF=>exact(fun k_ hk=>(.inr (Nat.le_trans (ze HB.out) hk))));(case aO=>exact HO_6.out);(case aS=>exact(ze HB.out));(case aL=>have:=LMc11.out;omega);intro v875 w13 ho hb hg hat;rw[← Ny874.out]at ho;replace HO_1:=Qk (Kd.V_afterv (ok:=(fun k_=>(P1_ k_\/w.heap.size<=k_))) HO_1.out hg hat);replace HO873:=Qk (Kd.V_afterv (ok:=(fun k_=>(P1_ k_\/w.heap.size<=k_))) HO873.out hg hat);replace HB:=Qk (hb);have HO876:=Qk (ho);clear HO_6))
        go_roundg k2
        case measure=>have:=HJ2.out;have:=HK2.out;omega
        case rel=>exact⟨(y874),(wrap64 (x8_2+1)),(wrap64 (x8_2+1)),rfl,rfl,H',⟨by have:=HJ2.out;have:=HK2.out;omega⟩,⟨HO_1.out⟩,⟨HO876.out⟩,⟨HB.out⟩⟩
       ·rw[if_neg c7]at H;have c7b0:(a0 == 0)=false:=beq_eq_false_iff_ne.mpr c7;have c7b1:(a0 != 0)=true:=bne_iff_ne.mpr c7;replace H:=ifSome H;obtain⟨c14,H⟩:=H;have c14b0:decide (0<=x8_2)=true:=Qm c14;clear c14;by_cases c15:(rd l1 x8_2)=10
        ·rw[if_pos c15]at H;have c15b0:((rd l1 x8_2) == 10)=true:=beq_iff_eq.mpr c15;have c15b1:((rd l1 x8_2) != 10)=false:=bne_eq_false_iff_eq.mpr c15;clear c15;replace H:=ifSome H;obtain⟨c16,H⟩:=H;have c16b0:=Qr c16;have c16b1:decide (0<=x7_2)=true:=Qm c16;clear c16;replace H:=ifSome H;obtain⟨c17,H⟩:=H;have c17b0:=Qr c17;have c17b1:decide (x7_2<=(wrap64 (x8_2+1)))=true:=Qm c17;replace H:=ifSome H;obtain⟨c18,H⟩:=H;have c18b0:=Qr c18;have c18b1:decide ((wrap64 (x8_2+1))<=(l1.length:Int))=true:=Qm c18;obtain⟨y878,hy878⟩:∃ y_:List Int,y_=((l1.take ((wrap64 (x8_2+1)):Int).toNat).drop (x7_2:Int).toNat):=⟨_,rfl⟩
         replace H:(if x6_2.length<5864062014805 then(zA.l0 k2 a0 l1 (x6_2++[y878]) (wrap64 (x8_2+1)) (wrap64 (x8_2+1)))else(none))=some (r1,r2):=by first|(rw[hy878];with_reducible exact H)|(have H2_:=(Option.bind_some _ _).symm.trans H;rw[hy878];with_reducible exact H2_)|(have H2_:=(Option.bind_some _ _).symm.trans H;with_reducible exact H2_)|with_reducible exact H|(rw[hy878];exact H)|exact H
         have Ny878:=Qk hy878;clear hy878;replace H:=ifSome H;obtain⟨c19,H⟩:=H;have LMc19:=Qk c19;clear c19;obtain⟨y883,hy883⟩:∃ y_:List (List Int),y_=(x6_2++[y878]):=⟨_,rfl⟩
         replace H:(zA.l0 k2 a0 l1 y883 (wrap64 (x8_2+1)) (wrap64 (x8_2+1)))=some (r1,r2):=by first|(rw[hy883];with_reducible exact H)|(have H2_:=(Option.bind_some _ _).symm.trans H;rw[hy883];with_reducible exact H2_)|(have H2_:=(Option.bind_some _ _).symm.trans H;with_reducible exact H2_)|with_reducible exact H|(rw[hy883];exact H)|exact H
         have Ny883:=Qk hy883;clear hy883;have H':=Qk H;clear H;have p877:0<=(x8_2:Int):=Ql (by assumption);have q877:x8_2<(l1.length:Int):=Ql (by assumption);obtain⟨ad877,e877,hx877_0⟩:=Kd.at_int (Kd.V_reads' HO_1.out).2.2 x8_2 p877 q877
         cases e877;replace p877:=Qr p877;replace q877:=Qr q877;have q20:((wrap64 (x8_2+1)):Int)<=((l1.length:Int):Int):=Ql (by assumption);obtain⟨i020,hi020,_,hsz20,_⟩:=info_parts info5;have hroom20:l1.length<=c1:=(Kd.V_reads' HO_1.out).2.1;have hC20:Kd.F (Kd.int .u8) _ _ (some ad877) l1.length l1:=(Kd.V_at (base:=w.heap.size) HO_1.out).2.2;have ql20:(x7_2:Int)<=((wrap64 (x8_2+1)):Int):=Ql (by assumption);have q020:(0:Int)<=(x7_2:Int):=Ql (by assumption);have hcut20:=cut_mid (P:=Tryz.prog) 22 5 .i64 .i64 Tryz.underlying22 hi020 1 hsz20 (some ad877) l1.length c1 x7_2 (wrap64 (x8_2+1)) q020 ql20 q20 hroom20;have hr20:=Kd.F_mid (lo:=(x7_2:Int).toNat) (hi:=((wrap64 (x8_2+1)):Int).toNat) (c:=c1) hC20 (by omega) (by omega) hroom20;obtain⟨A20,hA20⟩:∃ z_,z_=(if c1=(x7_2:Int).toNat then(some ad877)else((some ad877):Option Addr).map (·.add ((x7_2:Int).toNat*1))):=⟨_,rfl⟩
         obtain⟨c20,hc20⟩:∃ z_,z_=c1-(x7_2:Int).toNat:=⟨_,rfl⟩
         have hy20:y878.length=((wrap64 (x8_2+1)):Int).toNat-(x7_2:Int).toNat:=(by rw[Ny878.out,List.length_drop,List.length_take] <;> omega);rw[show ((l1).take ((wrap64 (x8_2+1)):Int).toNat).drop (x7_2:Int).toNat=y878 from Ny878.out.symm]at hr20
         replace hr20:Kd.F (Kd.int .u8) _ _ A20 y878.length y878:=(by rw[hA20];exact hr20);rw[← hy20,← hA20,← hc20]at hcut20;have HO882:=Qk (show Kd.V (Kd.int .u8) 5 _ w.heap.size _ (.slice A20 y878.length c20) y878 from Kd.V_mk (by rw[hy20,hc20];exact Nat.sub_le_sub_right (Nat.le_trans (by omega) hroom20) _) hr20);have HC882:=Qk (show y878.length<=c20 from by rw[hy20,hc20];exact Nat.sub_le_sub_right (Nat.le_trans (by omega) hroom20) _);clear hr20 hC20 hroom20 hi020 hsz20 hc20;have KY20:=Qk hy20;have KA20:=Qk hA20;clear hy20 hA20;replace q20:=Qr q20;go_wp2_with (first|((with_reducible refine zO (b:=.append) (xs:=#[.tmp 30,.tmp 36]) rfl ?_);at_builtin;refine Kd.N_append (Kd.slice 5 (Kd.int .u8)) (w0:=w) w.heap.size rfl (.tmp 30) (.tmp 36) 60 22 (.slice none 0 0) 24 rfl Tryz.underlying60 info22 rfl (by decide) (by omega) u6 x6_2 y878 [.slice A20 y878.length c20] (fun k_=>(P1_ k_\/w.heap.size<=k_)) (fun k_=>((fun k_=>(P1_ k_\/w.heap.size<=k_))) k_/\some k_≠(u6:Value).ownBlock) rfl rfl ?aP (fun _ hk=>hk) ?aF ?aO ?aB ?aS ?aL ?_;(case aP=>exact(Kd.FK_slice_mk (Kd.V_reads' (Kd.V_mono (ok':=(fun k_=>((fun k_=>(P1_ k_\/w.heap.size<=k_))) k_/\some k_≠(u6:Value).ownBlock)) (HO882.out) (fun k_ hk=>⟨hk.1,hk.2⟩))).2.1 (Kd.V_F (Kd.V_mono (ok':=(fun k_=>((fun k_=>(P1_ k_\/w.heap.size<=k_))) k_/\some k_≠(u6:Value).ownBlock)) (HO882.out) (fun k_ hk=>⟨hk.1,hk.2⟩)))));(case aB=>exact HB.out);(case aF=>exact(fun k_ hk=>(.inr (Nat.le_trans (ze HB.out) hk))));(case aO=>exact HO_6.out);(case aS=>exact(ze HB.out));(case aL=>have:=LMc19.out;omega);intro v884 w21 ho hb hg hat;rw[← Ny883.out]at ho;replace HO_1:=Qk (Kd.V_afterv (ok:=(fun k_=>(P1_ k_\/w.heap.size<=k_))) HO_1.out hg hat);replace HO882:=Qk (Kd.V_afterv (ok:=(fun k_=>(P1_ k_\/w.heap.size<=k_))) HO882.out hg hat);replace HB:=Qk (hb);have HO885:=Qk (ho);clear HO_6))
         go_roundg k2
         case measure=>have:=HJ2.out;have:=HK2.out;omega
         case rel=>exact⟨(y883),(wrap64 (x8_2+1)),(wrap64 (x8_2+1)),rfl,rfl,H',⟨by have:=HJ2.out;have:=HK2.out;omega⟩,⟨HO_1.out⟩,⟨HO885.out⟩,⟨HB.out⟩⟩
        ·rw[if_neg c15]at H;have c15b0:((rd l1 x8_2) == 10)=false:=beq_eq_false_iff_ne.mpr c15;have c15b1:((rd l1 x8_2) != 10)=true:=bne_iff_ne.mpr c15;have H':=Qk H;clear H;have p877:0<=(x8_2:Int):=Ql (by assumption);have q877:x8_2<(l1.length:Int):=Ql (by assumption);obtain⟨ad877,e877,hx877_0⟩:=Kd.at_int (Kd.V_reads' HO_1.out).2.2 x8_2 p877 q877
         cases e877;replace p877:=Qr p877;replace q877:=Qr q877;go_wp2;go_roundg k2
         case measure=>have:=HJ2.out;have:=HK2.out;omega
         case rel=>exact⟨(x6_2),(x7_2),(wrap64 (x8_2+1)),rfl,rfl,H',⟨by have:=HJ2.out;have:=HK2.out;omega⟩,⟨HO_1.out⟩,⟨HO_6.out⟩,⟨HB.out⟩⟩
      ·rw[if_neg c6]at H;have c6b0:decide (x8_2<(l1.length:Int))=false:=Qn c6;clear c6;by_cases c22:x7_2<(l1.length:Int)
       ·rw[if_pos c22]at H;have c22b0:decide (x7_2<(l1.length:Int))=true:=Qm c22;clear c22;replace H:=ifSome H;obtain⟨c23,H⟩:=H;have c23b0:=Qr c23;have c23b1:decide (0<=x7_2)=true:=Qm c23;clear c23;replace H:=ifSome H;obtain⟨c24,H⟩:=H;have c24b0:=Qr c24;have c24b1:decide (x7_2<=(l1.length:Int))=true:=Qm c24;clear c24;obtain⟨y886,hy886⟩:∃ y_:List Int,y_=(l1.drop (x7_2:Int).toNat):=⟨_,rfl⟩
        replace H:(if x6_2.length<5864062014805 then(some ((x6_2++[y886]),0))else(none))=some (r1,r2):=by first|(rw[hy886];with_reducible exact H)|(have H2_:=(Option.bind_some _ _).symm.trans H;rw[hy886];with_reducible exact H2_)|(have H2_:=(Option.bind_some _ _).symm.trans H;with_reducible exact H2_)|with_reducible exact H|(rw[hy886];exact H)|exact H
        have Ny886:=Qk hy886;clear hy886;replace H:=ifSome H;obtain⟨c25,H⟩:=H;have LMc25:=Qk c25;clear c25;obtain⟨y891,hy891⟩:∃ y_:List (List Int),y_=(x6_2++[y886]):=⟨_,rfl⟩
        replace H:(some (y891,0))=some (r1,r2):=by first|(rw[hy891];with_reducible exact H)|(have H2_:=(Option.bind_some _ _).symm.trans H;rw[hy891];with_reducible exact H2_)|(have H2_:=(Option.bind_some _ _).symm.trans H;with_reducible exact H2_)|with_reducible exact H|(rw[hy891];exact H)|exact H
        have Ny891:=Qk hy891;clear hy891;simp only[Option.some.injEq,Prod.mk.injEq]at H;obtain⟨rfl,rfl⟩:=H;have q26:(x7_2:Int)<=((l1.length:Int):Int):=Ql (by assumption);obtain⟨i026,hi026,_,hsz26,_⟩:=info_parts info5;have hroom26:l1.length<=c1:=(Kd.V_reads' HO_1.out).2.1;have hC26:Kd.F (Kd.int .u8) _ _ A1 l1.length l1:=(Kd.V_at (base:=w.heap.size) HO_1.out).2.2;have q026:(0:Int)<=(x7_2:Int):=Ql (by assumption);have hcut26:=cut_from (P:=Tryz.prog) 22 5 .i64 Tryz.underlying22 hi026 1 hsz26 A1 l1.length c1 x7_2 q026 q26;have hr26:=Kd.F_cut (m:=(x7_2:Int).toNat) (c:=c1) hC26 (by omega) hroom26;obtain⟨A26,hA26⟩:∃ z_,z_=(if c1=(x7_2:Int).toNat then A1 else(A1:Option Addr).map (·.add ((x7_2:Int).toNat*1))):=⟨_,rfl⟩
        obtain⟨c26,hc26⟩:∃ z_,z_=c1-(x7_2:Int).toNat:=⟨_,rfl⟩
        have hy26:y886.length=l1.length-(x7_2:Int).toNat:=(by rw[Ny886.out,List.length_drop] <;> omega);rw[show (l1).drop (x7_2:Int).toNat=y886 from Ny886.out.symm]at hr26
        replace hr26:Kd.F (Kd.int .u8) _ _ A26 y886.length y886:=(by rw[hA26];exact hr26);rw[← hy26,← hA26,← hc26]at hcut26;have HO890:=Qk (show Kd.V (Kd.int .u8) 5 _ w.heap.size _ (.slice A26 y886.length c26) y886 from Kd.V_mk (by rw[hy26,hc26];exact Nat.sub_le_sub_right hroom26 _) hr26);have HC890:=Qk (show y886.length<=c26 from by rw[hy26,hc26];exact Nat.sub_le_sub_right hroom26 _);clear hr26 hC26 hroom26 hi026 hsz26 hc26;have KY26:=Qk hy26;have KA26:=Qk hA26;clear hy26 hA26;replace q26:=Qr q26;go_wp2_with (first|((with_reducible refine zO (b:=.append) (xs:=#[.tmp 44,.tmp 48]) rfl ?_);at_builtin;refine Kd.N_append (Kd.slice 5 (Kd.int .u8)) (w0:=w) w.heap.size rfl (.tmp 44) (.tmp 48) 60 22 (.slice none 0 0) 24 rfl Tryz.underlying60 info22 rfl (by decide) (by omega) u6 x6_2 y886 [.slice A26 y886.length c26] (fun k_=>(P1_ k_\/w.heap.size<=k_)) (fun k_=>((fun k_=>(P1_ k_\/w.heap.size<=k_))) k_/\some k_≠(u6:Value).ownBlock) rfl rfl ?aP (fun _ hk=>hk) ?aF ?aO ?aB ?aS ?aL ?_;(case aP=>exact(Kd.FK_slice_mk (Kd.V_reads' (Kd.V_mono (ok':=(fun k_=>((fun k_=>(P1_ k_\/w.heap.size<=k_))) k_/\some k_≠(u6:Value).ownBlock)) (HO890.out) (fun k_ hk=>⟨hk.1,hk.2⟩))).2.1 (Kd.V_F (Kd.V_mono (ok':=(fun k_=>((fun k_=>(P1_ k_\/w.heap.size<=k_))) k_/\some k_≠(u6:Value).ownBlock)) (HO890.out) (fun k_ hk=>⟨hk.1,hk.2⟩)))));(case aB=>exact HB.out);(case aF=>exact(fun k_ hk=>(.inr (Nat.le_trans (ze HB.out) hk))));(case aO=>exact HO_6.out);(case aS=>exact(ze HB.out));(case aL=>have:=LMc25.out;omega);intro v892 w27 ho hb hg hat;rw[← Ny891.out]at ho;replace HO_1:=Qk (Kd.V_afterv (ok:=(fun k_=>(P1_ k_\/w.heap.size<=k_))) HO_1.out hg hat);replace HO890:=Qk (Kd.V_afterv (ok:=(fun k_=>(P1_ k_\/w.heap.size<=k_))) HO890.out hg hat);replace HB:=Qk (hb);have HO893:=Qk (ho);clear HO_6))
        go_ret2;exact⟨_,rfl,by(with_reducible repeat(first|apply Kd.N_alloc|apply Kd.N_drewN|apply Kd.N_drew));exact HO893.out,HB.out⟩
       ·rw[if_neg c22]at H;have c22b0:decide (x7_2<(l1.length:Int))=false:=Qn c22;clear c22;simp only[Option.some.injEq,Prod.mk.injEq]at H;obtain⟨rfl,rfl⟩:=H;go_wp2;go_ret2;exact⟨_,rfl,by(with_reducible repeat(first|apply Kd.N_alloc|apply Kd.N_drewN|apply Kd.N_drew));exact HO_6.out,HB.out⟩
def zM.l0:Nat->List (List Int)->List Int->Int->Option (List Int)
 |0,_,_,_=>none
 |k+1,x0,x3,x4=>if x4<(x0.length:Int)then(if 0<=x4 then(if x3.length+(qX x0 x4).length<140737488355328 then(zM.l0 k x0 (x3++(qX x0 x4)) (wrap64 (x4+1)))else(none))else(none))else(some x3)
def zM.f(k:Nat)(l0:List (List Int)):Option (List Int):=zM.l0 k l0 ([]:List Int) 0
theorem zM.calls(k:Nat)(A0:Option Addr)(c0:Nat)(l0:List (List Int))(r:List Int)(w:World)(hr0:Kd.C (Kd.slice 5 (Kd.int .u8)) w A0 l0.length l0)(hc0:l0.length<=c0)(h:zM.f k l0=some r) :
 Calls Tryz.prog 27 #[.slice A0 l0.length c0] w fun e w'=>∃ v0_:Value,e=.returned (v0_)/\Kd.R (Kd.int .u8) 5 w' w.heap.size (fun _=>True) v0_ r/\Below w.heap.size w w':=by
 have HR0:=Qk hr0;have HC0:=Qk hc0;clear hr0 hc0;have HB:=Qk (Below.refl w.heap.size w);have H:(zM.l0 k l0 ([]:List Int) 0)=some r:=h;clear h;have H':=Qk H;clear H;go_enter Tryz.func27,Tryz.ntmps27;go_wp2;go_loopg [3,4] k (fun kq v3 v4 w'=>∃ (x3_1:List Int) (x4_1:Int),v4=.int .i64 x4_1/\Aside0 (zM.l0 kq l0 x3_1 x4_1=some r)/\Aside0 (kq<=k)/\Aside0 (Kd.R (Kd.int .u8) 5 w' w.heap.size (fun _=>True) v3 x3_1)/\Aside0 (Below w.heap.size w w'))
 case atStart=>exact⟨(([]:List Int)),(0),rfl,H',⟨Nat.le_refl _⟩,⟨by first|exact Kd.R_nil _ _ _ _ _|exact Kd.N_nil _ _ _ _ _|exact Kd.V_nil _ _ _ _ _|exact Kd.Q_nil _ _ _ _ _|exact Kd.S_nil _ _ _ _ _⟩,⟨HB.out⟩⟩
 case round =>
  clear H';obtain⟨x3_1,x4_1,rfl,HA,HK1,HO_3,HB⟩:=hrel
  cases gk with
  |zero=>exact absurd HA.out (by simp[zM.l0])
  |succ k1 =>
   have H:=HA.out;clear HA;simp only[zM.l0]at H;by_cases c2:x4_1<(l0.length:Int)
   ·rw[if_pos c2]at H;have c2b0:decide (x4_1<(l0.length:Int))=true:=Qm c2;clear c2;replace H:=ifSome H;obtain⟨c3,H⟩:=H;have c3b0:decide (0<=x4_1)=true:=Qm c3;clear c3;replace H:=ifSome H;obtain⟨c4,H⟩:=H;have LMc4:=Qk c4;clear c4;obtain⟨y987,hy987⟩:∃ y_:List Int,y_=(x3_1++(qX l0 x4_1)):=⟨_,rfl⟩
    replace H:(zM.l0 k1 l0 y987 (wrap64 (x4_1+1)))=some r:=by first|(rw[hy987];with_reducible exact H)|(have H2_:=(Option.bind_some _ _).symm.trans H;rw[hy987];with_reducible exact H2_)|(have H2_:=(Option.bind_some _ _).symm.trans H;with_reducible exact H2_)|with_reducible exact H|(rw[hy987];exact H)|exact H
    have Ny987:=Qk hy987;clear hy987;have H':=Qk H;clear H;have p986:0<=(x4_1:Int):=Ql (by assumption);have q986:x4_1<(l0.length:Int):=Ql (by assumption);obtain⟨ad986,A986_0,c986_0,e986,hx986_0,hl986_0,hi986_0⟩:=at_L1 HR0.out x4_1 p986 q986
    cases e986;replace hx986_0:=(HB.out.cell (Qq w _ hx986_0)).trans hx986_0;have HR986_0:=Qk hi986_0;have HC986_0:=Qk hl986_0;clear hi986_0 hl986_0;replace p986:=Qr p986;replace q986:=Qr q986;go_wp2_with (first|((with_reducible refine zO (b:=.append) (xs:=#[.tmp 11,.tmp 15]) rfl ?_);at_builtin;refine Kd.R_append_rows (Kd.int .u8) (w0:=w) w.heap.size rfl (.tmp 11) (.tmp 15) 22 5 (.int .u8 0) 1 rfl Tryz.underlying22 info5 rfl (by decide) (by omega) u3 x3_1 (qX l0 x4_1) _ _ _ (fun _=>True) (fun _=>False) rfl rfl ?aO ?aR (fun _ _ h=>h) (fun _ h=>h.elim) ?aF ?aB ?aS ?aL ?_;(case aR=>repeat(first|exact(Kd.C_below HR986_0.out HB.out)|(with_reducible refine Kd.C_alloc ?_ _)|(with_reducible refine Kd.C_drewN ?_ _)|(with_reducible refine Kd.C_drew ?_)));(case aB=>exact HB.out);(case aF=>exact(fun _ _=>trivial));(case aO=>exact HO_3.out);(case aS=>exact(ze HB.out));(case aL=>have:=LMc4.out;omega);intro v988 w5 ho hb hg hat;rw[← Ny987.out]at ho;replace HB:=Qk (hb);have HO989:=Qk (ho);clear HO_3))
    go_roundg k1
    case measure=>have:=HK1.out;omega
    case rel=>exact⟨(y987),(wrap64 (x4_1+1)),rfl,H',⟨by have:=HK1.out;omega⟩,⟨HO989.out⟩,⟨HB.out⟩⟩
   ·rw[if_neg c2]at H;have c2b0:decide (x4_1<(l0.length:Int))=false:=Qn c2;clear c2;obtain rfl:=Qp H;go_wp2;go_ret;exact⟨_,rfl,by(with_reducible repeat(first|apply Kd.R_alloc|apply Kd.R_drewN|apply Kd.R_drew));exact HO_3.out,HB.out⟩
mutual
def zv.l0:Nat->List Int->List Int->Int->Option (Bool)
 |0,_,_,_=>none
 |k+1,x0,x1,x5=>if x5<(x0.length:Int)then(zv.j1 k x0 x1 x5 (decide (x5<(x1.length:Int))))else(zv.j1 k x0 x1 x5 false)
def zv.j1:Nat->List Int->List Int->Int->Bool->Option (Bool)
 |0,_,_,_,_=>none
 |k+1,x0,x1,x5,x15=>if x15=true then(if 0<=x5 then(if x5<(x0.length:Int)then(if x5<(x1.length:Int)then(if (rd x0 x5)=(rd x1 x5)then(zv.l0 k x0 x1 (wrap64 (x5+1)))else(some (decide ((rd x0 x5)<(rd x1 x5)))))else(none))else(none))else(none))else(some (decide ((x0.length:Int)<(x1.length:Int))))
end
def zv.f(k:Nat)(l0:List Int)(l1:List Int):Option (Bool):=zv.l0 k l0 l1 0
theorem zv.mono_l:∀ k,(∀ y0 y1 y2,LeO (zv.l0 k y0 y1 y2) (zv.l0 (k+1) y0 y1 y2))/\(∀ y0 y1 y2 y3,LeO (zv.j1 k y0 y1 y2 y3) (zv.j1 (k+1) y0 y1 y2 y3))
 |0=>⟨fun _ _ _ r h=>by simp[zv.l0]at h,fun _ _ _ _ r h=>by simp[zv.j1]at h⟩
 |k+1=>by
  obtain⟨ih0,ih1⟩:=zv.mono_l k;refine⟨?_,?_⟩
  ·intro y0 y1 y2;unfold zv.l0
   repeat' first
   |(with_reducible exact ih0 _ _ _)
   |(with_reducible exact ih1 _ _ _ _)
   |(with_reducible exact LeO.refl _)
   |(with_reducible exact LeO.none _)
   |(with_reducible refine LeO.ite ?_ ?_)
   |(with_reducible refine LeO.bind ?_ (fun _=>?_))
   |exact ih0 _ _ _
   |exact ih1 _ _ _ _
   |exact LeO.none _
   |refine LeO.ite ?_ ?_
   |refine LeO.bind ?_ (fun _=>?_)
  ·intro y0 y1 y2 y3;unfold zv.j1
   repeat' first
   |(with_reducible exact ih0 _ _ _)
   |(with_reducible exact ih1 _ _ _ _)
   |(with_reducible exact LeO.refl _)
   |(with_reducible exact LeO.none _)
   |(with_reducible refine LeO.ite ?_ ?_)
   |(with_reducible refine LeO.bind ?_ (fun _=>?_))
   |exact ih0 _ _ _
   |exact ih1 _ _ _ _
   |exact LeO.none _
   |refine LeO.ite ?_ ?_
   |refine LeO.bind ?_ (fun _=>?_)
theorem zv.mono:∀ a0 a1 k,LeO (zv.f k a0 a1) (zv.f (k+1) a0 a1):=by
 intro a0 a1 k;obtain⟨ih0,ih1⟩:=zv.mono_l k;unfold zv.f
 repeat' first
  |(with_reducible exact ih0 _ _ _)
  |(with_reducible exact ih1 _ _ _ _)
  |(with_reducible exact LeO.refl _)
  |(with_reducible exact LeO.none _)
  |(with_reducible refine LeO.ite ?_ ?_)
  |(with_reducible refine LeO.bind ?_ (fun _=>?_))
  |exact ih0 _ _ _
  |exact ih1 _ _ _ _
  |exact LeO.none _
  |refine LeO.ite ?_ ?_
  |refine LeO.bind ?_ (fun _=>?_)
theorem zv.calls(k:Nat)(A0:Option Addr)(c0:Nat)(l0:List Int)(A1:Option Addr)(c1:Nat)(l1:List Int)(r:Bool)(w:World)(hr0:Kd.C (Kd.int .u8) w A0 l0.length l0)(hc0:l0.length<=c0)(hr1:Kd.C (Kd.int .u8) w A1 l1.length l1)(hc1:l1.length<=c1)(h:zv.f k l0 l1=some r) :
 Calls Tryz.prog 102 #[.slice A0 l0.length c0,.slice A1 l1.length c1] w fun e w'=>e=.returned (.bool r)/\Drawn0 w w':=by
 have HR0:=Qk hr0;have HC0:=Qk hc0;clear hr0 hc0;have HR1:=Qk hr1;have HC1:=Qk hc1;clear hr1 hc1;have H:(zv.l0 k l0 l1 0)=some r:=h;clear h;have H':=Qk H;clear H;go_enter Tryz.func102,Tryz.ntmps102;go_wp2;go_loopg [5] k (fun kq v5 w'=>∃ (x5_1:Int),v5=.int .i64 x5_1/\Aside0 (zv.l0 kq l0 l1 x5_1=some r)/\Aside0 (kq<=k)/\Drawn0 w w')
 case atStart=>exact⟨(0),rfl,H',⟨Nat.le_refl _⟩,by repeat(first|exact Drawn0.refl _|apply Drawn0.step)⟩
 case round =>
  clear H';obtain⟨x5_1,rfl,HA,HK1,⟨m1,rfl⟩⟩:=hrel
  cases gk with
  |zero=>exact absurd HA.out (by simp[zv.l0])
  |succ k1 =>
   have H:=HA.out;clear HA;simp only[zv.l0]at H;have HC3:=Qk H;clear H;go_upto_region 2 with(fail)
   go_cut [15] (fun v15 wc=>∃ (kq:Nat) (x15_2:Bool),v15=.bool x15_2/\Aside0 (zv.j1 kq l0 l1 x5_1 x15_2=some r)/\Aside0 (kq<=k1)/\Drawn0 w wc)
   case first =>
    have H:=HC3.out;clear HC3;by_cases c4:x5_1<(l0.length:Int)
    ·rw[if_pos c4]at H;have c4b0:decide (x5_1<(l0.length:Int))=true:=Qm c4;clear c4;(first|rw[c4b0]|(simp only[zp,zw];rw[c4b0])|skip);have H':=Qk H;clear H;go_wp2;go_meet
     case rel=>exact⟨_,(decide (x5_1<(l1.length:Int))),rfl,H',⟨by have:=HK1.out;first|omega|exact Nat.le_refl _⟩,by repeat(first|exact Drawn0.refl _|apply Drawn0.step)⟩
    ·rw[if_neg c4]at H;have c4b0:decide (x5_1<(l0.length:Int))=false:=Qn c4;clear c4;(first|rw[c4b0]|(simp only[zp,zw];rw[c4b0])|skip);have H':=Qk H;clear H;go_wp2;go_meet
     case rel=>exact⟨_,(false),rfl,H',⟨by have:=HK1.out;first|omega|exact Nat.le_refl _⟩,by repeat(first|exact Drawn0.refl _|apply Drawn0.step)⟩
   case rest =>
    clear HC3;obtain⟨kq,x15_2,rfl,HA,HJ2,⟨mc2,rfl⟩⟩:=hcut
    cases kq with
    |zero=>exact absurd HA.out (by simp[zv.j1])
    |succ kj2 =>
     have H:=HA.out;clear HA;simp only[zv.j1]at H;by_cases c5:x15_2=true
     ·subst c5;have H1:(if 0<=x5_1 then(if x5_1<(l0.length:Int)then(if x5_1<(l1.length:Int)then(if (rd l0 x5_1)=(rd l1 x5_1)then(zv.l0 kj2 l0 l1 (wrap64 (x5_1+1)))else(some (decide ((rd l0 x5_1)<(rd l1 x5_1)))))else(none))else(none))else(none))=some r:=by rw[if_pos rfl]at H;exact H
      clear H;have H:=H1;clear H1;replace H:=ifSome H;obtain⟨c6,H⟩:=H;have c6b0:decide (0<=x5_1)=true:=Qm c6;clear c6;replace H:=ifSome H;obtain⟨c7,H⟩:=H;have c7b0:decide (x5_1<(l0.length:Int))=true:=Qm c7;clear c7;replace H:=ifSome H;obtain⟨c8,H⟩:=H;have c8b0:decide (x5_1<(l1.length:Int))=true:=Qm c8;clear c8;by_cases c9:(rd l0 x5_1)=(rd l1 x5_1)
      ·rw[if_pos c9]at H;have c9b0:((rd l0 x5_1) == (rd l1 x5_1))=true:=beq_iff_eq.mpr c9;have c9b1:((rd l0 x5_1) != (rd l1 x5_1))=false:=bne_eq_false_iff_eq.mpr c9;clear c9;have H':=Qk H;clear H;have p896:0<=(x5_1:Int):=Ql (by assumption);have q896:x5_1<(l0.length:Int):=Ql (by assumption);obtain⟨ad896,e896,hx896_0⟩:=Kd.at_int HR0.out x5_1 p896 q896
       cases e896;replace p896:=Qr p896;replace q896:=Qr q896;have p897:0<=(x5_1:Int):=Ql (by assumption);have q897:x5_1<(l1.length:Int):=Ql (by assumption);obtain⟨ad897,e897,hx897_0⟩:=Kd.at_int HR1.out x5_1 p897 q897
       cases e897;replace p897:=Qr p897;replace q897:=Qr q897;go_wp2;repeat(go_quiet (fail);try go_wp2)
       go_roundg kj2
       case measure=>have:=HK1.out;have:=HJ2.out;omega
       case rel=>exact⟨(wrap64 (x5_1+1)),rfl,H',⟨by have:=HK1.out;have:=HJ2.out;omega⟩,by repeat(first|exact Drawn0.refl _|apply Drawn0.step)⟩
      ·rw[if_neg c9]at H;have c9b0:((rd l0 x5_1) == (rd l1 x5_1))=false:=beq_eq_false_iff_ne.mpr c9;have c9b1:((rd l0 x5_1) != (rd l1 x5_1))=true:=bne_iff_ne.mpr c9;obtain rfl:=Qp H;have p896:0<=(x5_1:Int):=Ql (by assumption);have q896:x5_1<(l0.length:Int):=Ql (by assumption);obtain⟨ad896,e896,hx896_0⟩:=Kd.at_int HR0.out x5_1 p896 q896
       cases e896;replace p896:=Qr p896;replace q896:=Qr q896;have p897:0<=(x5_1:Int):=Ql (by assumption);have q897:x5_1<(l1.length:Int):=Ql (by assumption);obtain⟨ad897,e897,hx897_0⟩:=Kd.at_int HR1.out x5_1 p897 q897
       cases e897;replace p897:=Qr p897;replace q897:=Qr q897;have p898:0<=(x5_1:Int):=Ql (by assumption);have q898:x5_1<(l0.length:Int):=Ql (by assumption);obtain⟨ad898,e898,hx898_0⟩:=Kd.at_int HR0.out x5_1 p898 q898;obtain rfl:ad896=ad898:=(by injection e898);replace p898:=Qr p898;replace q898:=Qr q898;have p899:0<=(x5_1:Int):=Ql (by assumption);have q899:x5_1<(l1.length:Int):=Ql (by assumption);obtain⟨ad899,e899,hx899_0⟩:=Kd.at_int HR1.out x5_1 p899 q899;obtain rfl:ad897=ad899:=(by injection e899);replace p899:=Qr p899;replace q899:=Qr q899;go_wp2;repeat(go_quiet (fail);try go_wp2)
       go_ret;exact⟨rfl,by repeat(first|exact Drawn0.refl _|apply Drawn0.step)⟩
     ·replace c5:=Bool.eq_false_iff.mpr c5;subst c5;have H1:(some (decide ((l0.length:Int)<(l1.length:Int))))=some r:=by rw[if_neg (show ¬ (false=true) by decide)]at H;exact H
      clear H;have H:=H1;clear H1;obtain rfl:=Qp H;go_wp2;go_ret;exact⟨rfl,by repeat(first|exact Drawn0.refl _|apply Drawn0.step)⟩
def qc.f(l0:List Int)(l1:List Int):Option (Bool):=some ((strOfNums l0).toList == (strOfNums l1).toList)
theorem qc.calls(A0:Option Addr)(c0:Nat)(l0:List Int)(A1:Option Addr)(c1:Nat)(l1:List Int)(r:Bool)(w:World)(hr0:Kd.C (Kd.int .u8) w A0 l0.length l0)(hc0:l0.length<=c0)(hr1:Kd.C (Kd.int .u8) w A1 l1.length l1)(hc1:l1.length<=c1)(h:qc.f l0 l1=some r) :
 Calls Tryz.prog 103 #[.slice A0 l0.length c0,.slice A1 l1.length c1] w fun e w'=>e=.returned (.bool r)/\Drawn0 w w':=by
 have HR0:=Qk hr0;have HC0:=Qk hc0;clear hr0 hc0;have HR1:=Qk hr1;have HC1:=Qk hc1;clear hr1 hc1;have H:(some ((strOfNums l0).toList == (strOfNums l1).toList))=some r:=h;clear h;obtain rfl:=Qp H;have hcv3:=Kd.C_string (P:=Tryz.prog) (A:=A0) (c:=c0) Tryz.underlying22 Tryz.underlying5 Tryz.underlying9 HR0.out;have hcvd4:=fun nd_=>Kd.C_string (P:=Tryz.prog) (A:=A0) (c:=c0) Tryz.underlying22 Tryz.underlying5 Tryz.underlying9 (Kd.C_drewN HR0.out nd_)
 have hcv5:=Kd.C_string (P:=Tryz.prog) (A:=A1) (c:=c1) Tryz.underlying22 Tryz.underlying5 Tryz.underlying9 HR1.out;have hcvd6:=fun nd_=>Kd.C_string (P:=Tryz.prog) (A:=A1) (c:=c1) Tryz.underlying22 Tryz.underlying5 Tryz.underlying9 (Kd.C_drewN HR1.out nd_)
 go_enter Tryz.func103,Tryz.ntmps103;go_wp2;go_ret;exact⟨rfl,by repeat(first|exact Drawn0.refl _|apply Drawn0.step)⟩
section
open Kd
theorem qn{α:Type}(d:Kd α){W:World}(base e:Nat){xs:List α}{inner:List Value}{ok okp:Nat->Prop}(hrep:Reps (Kd.FK d W okp) d.sz xs inner)(hok:∀ k,okp k->ok k)(hfresh:ok W.heap.size)(hbase:base<=W.heap.size)(hm:xs.length<=9223372036854775807) :
 Kd.N d e (W.alloc (.cells inner.toArray e)) base ok (.slice (some ⟨W.heap.size,0,none⟩) xs.length xs.length) xs:=by
 have hr:(raw d.sz).R e (W.alloc (.cells inner.toArray e)) base (fun k=>k=W.heap.size) (.slice (some ⟨W.heap.size,0,none⟩) xs.length xs.length) (chunks d.sz xs.length inner):=by
  have hrep2:Reps ((raw d.sz).M W base (fun _=>False)) d.sz (chunks d.sz xs.length inner) inner:=reps_raw hrep (fun y c hk=>⟨d.K_len (FK_now hk),d.K_one (FK_now hk)⟩);refine⟨fun k hk=>?_,inner,?_,?_⟩
  ·have:W.heap.size=k:=by simpa [Value.ownBlock]using hk
   exact this.symm
  ·have h2:=World.ownsRow_lit (base:=base) (e:=e) (size:=d.sz) W inner.toArray xs.length hbase (by simpa [maxLen]using hm) (by simpa using hrep.1)
   have e_:(raw d.sz).sz=d.sz:=rfl;rw[e_]
   simpa [qr]using h2
  ·exact hrep2.imp_ (fun p c hp=>(raw d.sz).M_mono (fun k hk=>hk.1.elim) (M_below ((raw d.sz).M_bound hp) (za (Below.refl _ _) _)))
 exact N_made hr (World.grownBy_alloc W _ none) ⟨W.heap.size,by simp[Value.ownBlock],Nat.le_refl _⟩ (qr _ _ _) (fun j y c hy hc=>by rw[ZR hc];exact hrep.2 j y hy) hok hfresh
end
theorem qm(w:World)(o:Obj):(w.alloc o).heap.size=w.heap.size+1:=by
 show (w.heap.push o).size=_
 exact Array.size_push _
theorem qG{w:World}{a:Addr}{v:Value}(h:w.cell? a=some v)(o:Obj):(w.alloc o).drew.cell? a=some v:=by
 have hb:=(zC (za (Below.refl w.heap.size w) o)).block a.block (Qq w a h)
 simpa [World.cell?,hb]using h
theorem ZE{w:World}{a:Addr}{v:Value}(h:w.cell? a=some v)(o:Obj):(w.alloc o).cell? a=some v:=qG h o
theorem Qi{w:World}{a:Addr}{v:Value}(h:w.cell? a=some v)(o o2:Obj):((w.alloc o).alloc o2).drew.cell? a=some v:=ZE (ZE h o) o2
theorem cut_begin{l:List (List Int)}{A:Option Addr}{c:Nat}(hc:l.length<=c){hi:Nat}(h2:hi<=l.length) :
 (∀ W:World,(Instr.slice 60 (.slice A l.length c) none (some (.int .i64 (hi:Int))) none).run Tryz.prog W=.ok (.slice A (l.take hi).length c) W)/\(l.take hi).length<=c /\
  ∀ w:World,Kd.C (Kd.slice 5 (Kd.int .u8)) w A l.length l->Kd.C (Kd.slice 5 (Kd.int .u8)) w A (l.take hi).length (l.take hi):=by
 obtain⟨i0,hi0,hz0,hz1,hz2⟩:=info_parts qw;have hlen:(l.take hi).length=hi:=by rw[List.length_take];omega
 refine⟨fun W=>?_,by omega,fun w h=>Kd.C_take h h2⟩;have h:=cut_to (P:=Tryz.prog) 60 22 .i64 Tryz.underlying60 hi0 A l.length c (hi:Int) (by omega) (by omega) hc W;rw[hlen];exact h
def Zu(k:Nat)(t:List Int):List (List Int)->Nat->Option Nat
 |[],q=>some q
 |x::xs,q=>(zv.f k x t).bind fun c=>if c=true then Zu k t xs (q+1)else some q
def zJ.l0(k:Nat):List (List Int)->List (List Int)->Option (List (List Int))
 |[],d=>some d
 |t::l,d=>(Zu k t d 0).bind fun q=>if q<d.length/\((strOfNums (d.getD q [])).toList == (strOfNums t).toList)=true then zJ.l0 k l d else if d.length<100000000 then zJ.l0 k l (d.take q++[t]++d.drop q)else none
def zJ.f(k:Nat)(l:List (List Int)):Option (List (List Int)):=zJ.l0 k l []
theorem sort_at_mono(k:Nat)(t:List Int):∀ (d:List (List Int)) (q:Nat),LeO (Zu k t d q) (Zu (k+1) t d q)
 |[],_=>LeO.refl _
 |x::d,q=>LeO.bind (zv.mono _ _ _) fun c=>LeO.ite (sort_at_mono k t d (q+1)) (LeO.refl _)
theorem sort_l0_mono(k:Nat):∀ (l d:List (List Int)),LeO (zJ.l0 k l d) (zJ.l0 (k+1) l d)
 |[],_=>LeO.refl _
 |t::l,d=>LeO.bind (sort_at_mono k t d 0) fun q=>LeO.ite (sort_l0_mono k l _) (LeO.ite (sort_l0_mono k l _) (LeO.refl _))
theorem zJ.mono:∀ a0 k,LeO (zJ.f k a0) (zJ.f (k+1) a0):=fun a0 k=>sort_l0_mono k a0 []
theorem sort_at_le(k:Nat)(t:List Int):∀ (d:List (List Int)) (q r:Nat),Zu k t d q=some r->q<=r/\r<=q+d.length
 |[],q,r,h=>by simp only[Zu,Option.some.injEq]at h;subst h;simp
 |x::d,q,r,h=>by
  rw[Zu,Option.bind_eq_some_iff]at h;obtain⟨c,_,h⟩:=h;by_cases hc:c=true
  ·rw[if_pos hc]at h
   have:=sort_at_le k t d (q+1) r h;simp only[List.length_cons];omega
  ·rw[if_neg hc]at h
   obtain rfl:=Qp h;simp
theorem drop_tok_{l:List (List Int)}{j:Nat}(h:j<l.length):l.drop j=l.getD j []::l.drop (j+1):=by
 rw[List.drop_eq_getElem_cons h];simp[List.getD_eq_getElem?_getD,h]
theorem zJ.calls(k:Nat)(P0_:Nat->Prop)(A0:Option Addr)(c0:Nat)(l0:List (List Int))(r:List (List Int))(w:World)(hs0:Kd.V (Kd.slice 5 (Kd.int .u8)) 22 w w.heap.size (fun k_=>P0_ k_) (.slice A0 l0.length c0) l0)(h:zJ.f k l0=some r) :
 Calls Tryz.prog 56 #[.slice A0 l0.length c0] w fun e w'=>∃ v0_:Value,e=.returned (v0_)/\Kd.N (Kd.slice 5 (Kd.int .u8)) 22 w' w.heap.size (fun k_=>(P0_ k_\/w.heap.size<=k_)) v0_ r/\Below w.heap.size w w':=by
 have HR0:=Qk (Kd.V_reads' hs0).2.2;have HC0:=Qk (Kd.V_reads' hs0).2.1;have HS0:=Qk (Kd.V_bound hs0);have hm0:=Kd.C_max HR0.out;have HB:=Qk (Below.refl w.heap.size w);clear hs0;have H:=Qk (show zJ.l0 k (l0.drop 0) []=some r from h);clear h;go_enter Tryz.func56,Tryz.ntmps56;go_wp2;go_loopw [3,4] (fun s3 ix wr=>∃ (j:Nat) (d:List (List Int)) (vd:Value),j<=l0.length/\ix=.int .i64 j/\vd=s3/\Aside0 (zJ.l0 k (l0.drop j) d=some r)/\Aside0 (Kd.N (Kd.slice 5 (Kd.int .u8)) 22 wr w.heap.size (fun k_=>(P0_ k_\/w.heap.size<=k_)) vd d)/\Aside0 (Below w.heap.size w wr)) (fun _ ix _=>l0.length-(intOf ix).toNat)
 case atStart=>exact⟨0,[],_,Nat.zero_le _,rfl,rfl,H,⟨Kd.N_nil _ _ _ _ _⟩,HB⟩
 case round =>
  clear H HB;obtain⟨j,d,vd,hj,rfl,rfl,H,HN,HB⟩:=hrel;by_cases hjl:j<l0.length
  ·obtain⟨ad,At,ct,rfl,hx,hl,hi⟩:=at_L1 HR0.out (j:Int) (by omega) (by omega)
   obtain⟨ce,hce,hMe,hcc⟩:=Kd.V_get HS0.out ([]:List Int) (j:Int) (by omega) (by omega);obtain⟨ua,uc,rfl,ul,ge⟩:=Kd.FK_slice_open hMe;have hv:=hcc 0 _ rfl;have ea_:(ad.add ((j:Int).toNat*(Kd.slice 5 (Kd.int .u8)).sz+0))=ad.add ((j:Int).toNat):=by show ad.add ((j:Int).toNat*1+0)=_;rw[Nat.mul_one,Nat.add_zero]
   rw[ea_]at hv;replace hv:=Qp (hv.symm.trans hx);injection hv with hva_ hvn_ hvc_
   have ge2:Kd.F (Kd.int .u8) w _ At (qX l0 (j:Int)).length (qX l0 (j:Int)):=hva_ ▸ ge;clear hcc hce hMe ul ge hva_ hvn_ hvc_ ea_;have e0:qX l0 (j:Int)=l0.getD j []:=rfl;have h:=H.out;rw[drop_tok_ hjl,← e0,zJ.l0,Option.bind_eq_some_iff]at h;obtain⟨Q,hQ,h⟩:=h;simp only[Int.toNat_natCast]at hx;generalize qX l0 (j:Int)=t at hx hl hi hQ h ge2;have HFT:=Qk ge2;clear ge2;have hx:=zF HB.out hx;have HXK:=Qk hx;have HI:=Qk (Kd.C_below hi HB.out);have HL:=Qk hl;have AQ:=Qk (show Zu k t (d.drop 0) 0=some Q from hQ);have AQL:=Qk (sort_at_le k t d 0 Q hQ);have AH:=Qk h;obtain⟨Ad,cd,rfl⟩:=Kd.N_slice HN.out;have HRD:=Qk (Kd.N_reads' HN.out).2.2;have HCD:=Qk (Kd.N_reads' HN.out).2.1;have hmd:=Kd.C_max HRD.out;have HCT:=Qk (fun hi (h2:hi<=d.length)=>cut_begin (A:=Ad) HCD.out h2);have HCE:=Qk (fun lo (h2:lo<=d.length)=>cut_end (A:=Ad) HCD.out h2);clear hi hl h hQ e0 H;go_wp2;go_loopw [5] (fun ix w'=>∃ q:Nat,q<=d.length/\ix=.int .i64 q/\Aside0 (Zu k t (d.drop q) q=some Q)/\Drawn0 wr w') (fun ix _=>d.length-(intOf ix).toNat)
   case atStart=>exact⟨0,Nat.zero_le _,rfl,AQ,Drawn0.refl _⟩
   case round =>
    clear AQ;obtain⟨q,hq,rfl,AQ,⟨m1,rfl⟩⟩:=hrel;by_cases hql:q<d.length
    ·obtain⟨ad2,Au,cu,eAd,hy,hly,hiy⟩:=at_L1 HRD.out (q:Int) (by omega) (by omega)
     cases eAd;have hA:=AQ.out;rw[drop_tok_ hql,Zu,Option.bind_eq_some_iff]at hA;obtain⟨c,hc,hA⟩:=hA;have eB:qX d (q:Int)=d.getD q []:=rfl;rw[← eB]at hc;simp only[Int.toNat_natCast]at hy;generalize qX d (q:Int)=y at hy hly hiy hc;have HC:=Qk hc;have HIY:=Qk hiy;have HLY:=Qk hly;have AA:=Qk hA;have d1:decide (q<d.length)=true:=Qm hql;have hx1:(wr.drewN m1).cell? (ad.add j)=some (.slice At t.length ct):=HXK.out;have hy1:(wr.drewN m1).cell? (ad2.add q)=some (.slice Au y.length cu):=hy;have HI1:=Qk (Kd.C_drewN HI.out m1);have HIY1:=Qk (Kd.C_drewN HIY.out m1);have HD:=Qk (Drawn0.step (Drawn0.refl wr) m1);clear hc hiy hly hA AQ eB hx hy HIY;generalize wr.drewN m1=wv at hx1 hy1 HI1 HIY1 HD ⊢
     cases c with
     |true =>
      have AQ:=Qk (show Zu k t (d.drop (q+1)) (q+1)=some Q by have:=AA.out;rwa [if_pos rfl]at this);go_wp2;go_quiet (first|(go_at_call 102;refine Calls.quiet_of ((zv.calls k _ _ y _ _ t true _ (Kd.C_drewN HIY1.out _) HLY.out (Kd.C_drewN HI1.out _) HL.out HC.out).mono (fun e w' hp=>⟨hp.1,hp.2.out⟩))))
      go_wp2;go_roundw
      case rel=>exact⟨q+1,by omega,by go_num,AQ,by repeat(first|exact HD.out|apply Drawn0.step)⟩
      case measure=>simp[intOf];omega
     |false =>
      have hQ:=AA.out;rw[if_neg (by decide)]at hQ;obtain rfl:=Qp hQ;clear AA hQ;go_wp2;go_quiet (first|(go_at_call 102;refine Calls.quiet_of ((zv.calls k _ _ y _ _ t false _ (Kd.C_drewN HIY1.out _) HLY.out (Kd.C_drewN HI1.out _) HL.out HC.out).mono (fun e w' hp=>⟨hp.1,hp.2.out⟩))))
      go_wp2;have HD2:=Qk (Drawn0.step HD.out nq);clear HD hx1 hy1 HI1 HIY1 HC HLY d1 hql hq;generalize wv.drewN nq=wz at HD2 ⊢;obtain⟨mz,ez⟩:=HD2.out;have HBz:=Qk (show Below w.heap.size w wz by rw[ez];exact qh HB.out mz);have HNz:=Qk (show Kd.N (Kd.slice 5 (Kd.int .u8)) 22 wz w.heap.size (fun k_=>(P0_ k_\/w.heap.size<=k_)) _ d by rw[ez];exact Kd.N_below HN.out (qh (Below.refl _ _) mz));have hxz:wz.cell? (ad.add j)=some (.slice At t.length ct):=by rw[ez];exact HXK.out
      have HIz:=Qk (show Kd.C (Kd.int .u8) wz At t.length t by rw[ez];exact Kd.C_drewN HI.out mz);have HRz:=Qk (Kd.N_reads' HNz.out).2.2;clear HD2 ez HB HN HI HXK HRD;by_cases hQl:q<d.length
      ·obtain⟨ad3,Av,cv,eAd,hy,hly,hiy⟩:=at_L1 HRz.out (q:Int) (by omega) (by omega)
       cases eAd;have eB:qX d (q:Int)=d.getD q []:=rfl;have h:=AH.out;rw[← eB]at h;simp only[Int.toNat_natCast]at hy;generalize qX d (q:Int)=y at hy hly hiy h;have HIY:=Qk hiy;have HLY:=Qk hly;have d1:decide (q<d.length)=true:=Qm hQl;clear hiy hly eB;generalize hS:((strOfNums y).toList == (strOfNums t).toList)=S at h;have HSM:=Qk (show qc.f y t=some S from congrArg some hS);clear hS
       cases S with
       |true =>
        rw[if_pos ⟨hQl,rfl⟩]at h;have AN:=Qk h;clear h AH;go_quiet (first|(go_at_call 103;refine Calls.quiet_of ((qc.calls _ _ y _ _ t true _ (Kd.C_drewN HIY.out _) HLY.out (Kd.C_drewN HIz.out _) HL.out HSM.out).mono (fun e w' hp=>⟨hp.1,hp.2.out⟩))))
        go_wp2;go_roundw
        case rel=>exact⟨j+1,d,_,by omega,by go_num,rfl,AN,⟨Kd.N_below HNz.out (qh (Below.refl _ _) nq)⟩,⟨qh HBz.out nq⟩⟩
        case measure=>simp[intOf];omega
       |false =>
        rw[if_neg (fun hh=>by cases hh.2)]at h;by_cases hdl:d.length<100000000
        ·rw[if_pos hdl]at h
         have AN:=Qk h;clear h AH;go_quiet (first|(go_at_call 103;refine Calls.quiet_of ((qc.calls _ _ y _ _ t false _ (Kd.C_drewN HIY.out _) HLY.out (Kd.C_drewN HIz.out _) HL.out HSM.out).mono (fun e w' hp=>⟨hp.1,hp.2.out⟩))))
         go_wp2;clear hy HIY HLY HSM d1;have n0_:=Qk (qh HBz.out nq);have n1_:=Qk (Kd.N_below HNz.out (qh (Below.refl wz.heap.size wz) nq));have n2_:(wz.drewN nq).cell? (ad.add j)=some (.slice At t.length ct):=hxz;clear HBz HNz hxz HIz HRz;have HBz:=n0_;have HNz:=n1_;have hxz:=n2_;clear n0_ n1_ n2_;generalize wz.drewN nq=wy at HBz HNz hxz ⊢;have hxz1:wy.drew.cell? (ad.add j)=some (.slice At t.length ct):=hxz;have hxz2:(wy.alloc (.cells #[] 22)).drew.cell? (ad.add j)=some (.slice At t.length ct):=qG hxz _;have hxz3:(wy.alloc (.cells #[.slice At t.length ct] 22)).drew.cell? (ad.add j)=some (.slice At t.length ct):=qG hxz _;obtain⟨hcutt,hct1,hctC⟩:=HCT.out q (by have:=AQL.out;omega);obtain⟨A3,hcute,hce1,hceC⟩:=HCE.out q (by have:=AQL.out;omega);have HF1:=Qk (Kd.F_imp (Kd.F_bound (Kd.N_F HNz.out)) (fun W' hC=>hctC W' hC));have HF2:=Qk (Kd.F_imp (Kd.F_bound (Kd.N_F HNz.out)) (fun W' hC=>hceC W' hC));have hT1:(d.take q).length<=d.length:=by rw[List.length_take];omega
         have hT2:(d.drop q).length<=d.length:=by rw[List.length_drop];omega
         clear hctC hceC;generalize d.take q=T1 at hcutt hct1 HF1 hT1 AN;generalize d.drop q=T2 at hcute hce1 HF2 hT2 AN;have HFy:=Qk (Kd.F_below HFT.out HBz.out);have hwy:=HBz.out.size;have hsz:∀ o:Obj,(wy.alloc o).heap.size=wy.heap.size+1:=fun o=>qm wy o
         have hlt1:t.length<=ct:=HL.out;have E0:=Qk (qn (Kd.slice 5 (Kd.int .u8)) (W:=wy) wy.heap.size 22 (xs:=[]) (inner:=[]) (ok:=(fun k_=>P0_ k_\/w.heap.size<=k_)) (okp:=fun _=>False) (Reps.none _ _) (fun _ hk=>hk.elim) (.inr hwy) (Nat.le_refl _) (by simp));have ECA0:=qn (Kd.slice 5 (Kd.int .u8)) (W:=wy.alloc (.cells #[.slice At t.length ct] 22)) wy.heap.size 22 (xs:=[]) (inner:=[]) (ok:=(fun k_=>P0_ k_\/w.heap.size<=k_)) (okp:=fun _=>False) (Reps.none _ _) (fun _ hk=>hk.elim) (.inr (by rw[hsz];omega)) (by rw[hsz];omega) (by simp);rw[hsz]at ECA0;have ECA:=Qk ECA0;have LCA:=Qk (Kd.N_drew (Kd.N_alloc (qn (Kd.slice 5 (Kd.int .u8)) (W:=wy) wy.heap.size 22 (xs:=[t]) (inner:=[.slice At t.length ct]) (ok:=(fun k_=>k_=wy.heap.size\/P0_ k_/\k_<w.heap.size)) (okp:=fun k_=>P0_ k_/\k_<w.heap.size) (Reps.one (Kd.FK_slice_mk HL.out HFy.out) (Reps.none _ _)) (fun _ hk=>.inr hk) (.inl rfl) (Nat.le_refl _) (by simp)) (.cells #[] 22)));have LAC0:=qn (Kd.slice 5 (Kd.int .u8)) (W:=wy.alloc (.cells #[] 22)) wy.heap.size 22 (xs:=[t]) (inner:=[.slice At t.length ct]) (ok:=(fun k_=>k_=wy.heap.size+1\/P0_ k_/\k_<w.heap.size)) (okp:=fun k_=>P0_ k_/\k_<w.heap.size) (Reps.one (Kd.FK_slice_mk HL.out (Kd.F_alloc HFy.out _)) (Reps.none _ _)) (fun _ hk=>.inr hk) (.inl (hsz _)) (by rw[hsz];omega) (by simp);rw[hsz]at LAC0;have LAC:=Qk (Kd.N_drew LAC0);clear ECA0 LAC0;go_region_held3 (fun w'=>w'.cell? (ad.add j)=some (.slice At t.length ct)) (first|go_keep|exact zF HB3.out hxz|exact zF HB2.out hxz|exact ZE (zF HB1.out hxz) _|exact zF HB1.out hxz|exact hxz1|exact hxz2|exact hxz3|exact Qi hxz _ _) (first
          |(refine Kd.N_append_rows_step (Kd.slice 5 (Kd.int .u8)) (w0:=wy) wy.heap.size (by rfl) (.tmp 44) (.tmp 47) 60 22 (.slice none 0 0) 24 rfl Tryz.underlying60 qw rfl (by decide) (by omega) (.slice (some ⟨wy.heap.size,0,none⟩) 0 0) [] T1 _ T1.length cd (fun k_=>P0_ k_\/w.heap.size<=k_) (fun k_=>(P0_ k_\/w.heap.size<=k_)/\k_<wy.heap.size) rfl rfl (Kd.N_drew E0.out) (Kd.F_below HF1.out (zC (za (Below.refl wy.heap.size wy) _))) (fun k_ hk=>⟨hk.1,fun e_=>by simp[Value.ownBlock]at e_ <;> omega⟩) (fun k_ hk=>.inr (Nat.le_trans hwy (Nat.le_trans (ze (zC (za (Below.refl wy.heap.size wy) _))) hk))) (zC (za (Below.refl wy.heap.size wy) _)) (ze (zC (za (Below.refl wy.heap.size wy) _))) (by simp only[List.length_nil];omega) ?_;intro v48 w6 ho hb hg hat;have HN1:=Qk ho;have HB1:=Qk hb;clear ho hb hg hat)
          |(refine Kd.N_append_rows_step (Kd.slice 5 (Kd.int .u8)) (w0:=wy) wy.heap.size (by rfl) (.tmp 44) (.tmp 47) 60 22 (.slice none 0 0) 24 rfl Tryz.underlying60 qw rfl (by decide) (by omega) (.slice (some ⟨wy.heap.size,0,none⟩) 0 0) [] T1 _ T1.length cd (fun k_=>P0_ k_\/w.heap.size<=k_) (fun k_=>(P0_ k_\/w.heap.size<=k_)/\k_<wy.heap.size) rfl rfl (Kd.N_drew (Kd.N_alloc E0.out _)) (Kd.F_below HF1.out (zC (za (za (Below.refl wy.heap.size wy) _) _))) (fun k_ hk=>⟨hk.1,fun e_=>by simp[Value.ownBlock]at e_ <;> omega⟩) (fun k_ hk=>.inr (Nat.le_trans hwy (Nat.le_trans (ze (zC (za (za (Below.refl wy.heap.size wy) _) _))) hk))) (zC (za (za (Below.refl wy.heap.size wy) _) _)) (ze (zC (za (za (Below.refl wy.heap.size wy) _) _))) (by simp only[List.length_nil];omega) ?_;intro v48 w6 ho hb hg hat;have HN1:=Qk ho;have HB1:=Qk hb;have LN:=Qk (Kd.N_grown LAC.out hg (fun k_ hk e_=>by rcases hk with h_|h_ <;> simp[Value.ownBlock]at e_ <;> omega));have HNL:=Qk (show some (wy.heap.size+1)≠v48.ownBlock from fun e_=>by rcases hat with h_|⟨b_,h_,hle_⟩;(rw[h_]at e_;simp[Value.ownBlock]at e_ <;> omega);(rw[h_]at e_;injection e_ with e_;have hle_:((wy.alloc (.cells #[] 22)).alloc (.cells #[.slice At t.length ct] 22)).heap.size<=b_:=hle_;rw[qm,qm]at hle_;omega));clear ho hb hg hat)
          |(refine Kd.N_append_rows_step (Kd.slice 5 (Kd.int .u8)) (w0:=wy) wy.heap.size (by rfl) (.tmp 44) (.tmp 47) 60 22 (.slice none 0 0) 24 rfl Tryz.underlying60 qw rfl (by decide) (by omega) (.slice (some ⟨wy.heap.size+1,0,none⟩) 0 0) [] T1 _ T1.length cd (fun k_=>P0_ k_\/w.heap.size<=k_) (fun k_=>(P0_ k_\/w.heap.size<=k_)/\k_<wy.heap.size) rfl rfl (Kd.N_drew ECA.out) (Kd.F_below HF1.out (zC (za (za (Below.refl wy.heap.size wy) _) _))) (fun k_ hk=>⟨hk.1,fun e_=>by simp[Value.ownBlock]at e_ <;> omega⟩) (fun k_ hk=>.inr (Nat.le_trans hwy (Nat.le_trans (ze (zC (za (za (Below.refl wy.heap.size wy) _) _))) hk))) (zC (za (za (Below.refl wy.heap.size wy) _) _)) (ze (zC (za (za (Below.refl wy.heap.size wy) _) _))) (by simp only[List.length_nil];omega) ?_;intro v48 w6 ho hb hg hat;have HN1:=Qk ho;have HB1:=Qk hb;have LN:=Qk (Kd.N_grown LCA.out hg (fun k_ hk e_=>by rcases hk with h_|h_ <;> simp[Value.ownBlock]at e_ <;> omega));have HNL:=Qk (show some (wy.heap.size)≠v48.ownBlock from fun e_=>by rcases hat with h_|⟨b_,h_,hle_⟩;(rw[h_]at e_;simp[Value.ownBlock]at e_ <;> omega);(rw[h_]at e_;injection e_ with e_;have hle_:((wy.alloc (.cells #[.slice At t.length ct] 22)).alloc (.cells #[] 22)).heap.size<=b_:=hle_;rw[qm,qm]at hle_;omega));clear ho hb hg hat)
          |(refine Kd.N_append_rows_step (Kd.slice 5 (Kd.int .u8)) (w0:=wy) wy.heap.size (by rfl) (.tmp 48) (.tmp 53) 60 22 (.slice none 0 0) 24 rfl Tryz.underlying60 qw rfl (by decide) (by omega) v48 ([]++T1) [t] (some ⟨w6.heap.size,0,none⟩) 1 1 (fun k_=>P0_ k_\/w.heap.size<=k_) (fun k_=>k_=w6.heap.size\/P0_ k_/\k_<w.heap.size) rfl rfl (Kd.N_alloc HN1.out _) (Kd.N_F (qn (Kd.slice 5 (Kd.int .u8)) (W:=w6) wy.heap.size 22 (xs:=[t]) (inner:=[.slice At t.length ct]) (ok:=(fun k_=>k_=w6.heap.size\/P0_ k_/\k_<w.heap.size)) (okp:=fun k_=>P0_ k_/\k_<w.heap.size) (Reps.one (Kd.FK_slice_mk HL.out (Kd.F_below HFy.out HB1.out)) (Reps.none _ _)) (fun _ hk=>.inr hk) (.inl rfl) HB1.out.size (by simp))) (fun k_ hk=>by rcases hk with h_|h_;(refine⟨.inr (by have:=HB1.out.size;omega),fun e_=>?_⟩;subst h_;have:=Kd.N_lt HN1.out _ e_.symm;omega);exact⟨.inl h_.1,fun e_=>by have:=Kd.N_base HN1.out k_ e_.symm;omega⟩) (fun k_ hk=>.inr (Nat.le_trans hwy (Nat.le_trans (ze (HB1.out.alloc HB1.out.size (.cells #[.slice At t.length ct] 22))) hk))) (HB1.out.alloc HB1.out.size (.cells #[.slice At t.length ct] 22)) (ze (HB1.out.alloc HB1.out.size (.cells #[.slice At t.length ct] 22))) (by simp only[List.nil_append];omega) ?_;intro v54 w7 ho hb hg hat;have HN2:=Qk ho;have HB2:=Qk hb;clear ho hb hg hat)
          |(refine Kd.N_append_rows_step (Kd.slice 5 (Kd.int .u8)) (w0:=wy) wy.heap.size (by rfl) (.tmp 48) (.tmp 53) 60 22 (.slice none 0 0) 24 rfl Tryz.underlying60 qw rfl (by decide) (by omega) v48 ([]++T1) [t] (some ⟨wy.heap.size+1,0,none⟩) 1 1 (fun k_=>P0_ k_\/w.heap.size<=k_) (fun k_=>k_=wy.heap.size+1\/P0_ k_/\k_<w.heap.size) rfl rfl (HN1.out) (Kd.N_F LN.out) (fun k_ hk=>by rcases hk with h_|h_;(refine⟨.inr (by have:=HB1.out.size;omega),fun e_=>?_⟩;subst h_;exact HNL.out e_);exact⟨.inl h_.1,fun e_=>by have:=Kd.N_base HN1.out k_ e_.symm;omega⟩) (fun k_ hk=>.inr (Nat.le_trans hwy (Nat.le_trans (ze HB1.out) hk))) HB1.out (ze HB1.out) (by simp only[List.nil_append];omega) ?_;intro v54 w7 ho hb hg hat;have HN2:=Qk ho;have HB2:=Qk hb;clear ho hb hg hat)
          |(refine Kd.N_append_rows_step (Kd.slice 5 (Kd.int .u8)) (w0:=wy) wy.heap.size (by rfl) (.tmp 48) (.tmp 53) 60 22 (.slice none 0 0) 24 rfl Tryz.underlying60 qw rfl (by decide) (by omega) v48 ([]++T1) [t] (some ⟨wy.heap.size,0,none⟩) 1 1 (fun k_=>P0_ k_\/w.heap.size<=k_) (fun k_=>k_=wy.heap.size\/P0_ k_/\k_<w.heap.size) rfl rfl (HN1.out) (Kd.N_F LN.out) (fun k_ hk=>by rcases hk with h_|h_;(refine⟨.inr (by have:=HB1.out.size;omega),fun e_=>?_⟩;subst h_;exact HNL.out e_);exact⟨.inl h_.1,fun e_=>by have:=Kd.N_base HN1.out k_ e_.symm;omega⟩) (fun k_ hk=>.inr (Nat.le_trans hwy (Nat.le_trans (ze HB1.out) hk))) HB1.out (ze HB1.out) (by simp only[List.nil_append];omega) ?_;intro v54 w7 ho hb hg hat;have HN2:=Qk ho;have HB2:=Qk hb;clear ho hb hg hat)
          |(refine Kd.N_append_rows_step (Kd.slice 5 (Kd.int .u8)) (w0:=wy) wy.heap.size (by rfl) (.tmp 54) (.tmp 57) 60 22 (.slice none 0 0) 24 rfl Tryz.underlying60 qw rfl (by decide) (by omega) v54 ([]++T1++[t]) T2 _ T2.length (cd-q) (fun k_=>P0_ k_\/w.heap.size<=k_) (fun k_=>(P0_ k_\/w.heap.size<=k_)/\k_<wy.heap.size) rfl rfl HN2.out (Kd.F_below HF2.out HB2.out) (fun k_ hk=>⟨hk.1,fun e_=>by have:=Kd.N_base HN2.out k_ e_.symm;omega⟩) (fun k_ hk=>.inr (Nat.le_trans hwy (Nat.le_trans (ze HB2.out) hk))) HB2.out (ze HB2.out) (by simp only[List.nil_append,List.length_append,List.length_cons,List.length_nil];omega) ?_;intro v58 w8 ho hb hg hat;have HN3:=Qk ho;have HB3:=Qk hb;clear ho hb hg hat))
         all_goals go_wp2
         all_goals go_roundw
         all_goals first
          |exact⟨j+1,_,_,by omega,by go_num,rfl,AN,⟨Kd.N_lower HN3.out hwy⟩,⟨zi HBz.out HB3.out⟩⟩
          |(simp[intOf];omega)
        ·rw[if_neg hdl]at h;cases h
      ·have d1:decide (q<d.length)=false:=Qn hQl
       have h:=AH.out;rw[if_neg (fun hh=>hQl hh.1)]at h;by_cases hdl:d.length<100000000
       ·rw[if_pos hdl]at h
        have AN:=Qk h;clear h AH;go_quiet (fail)
        go_wp2;clear d1;have n0_:=Qk (qh HBz.out nq);have n1_:=Qk (Kd.N_below HNz.out (qh (Below.refl wz.heap.size wz) nq));have n2_:(wz.drewN nq).cell? (ad.add j)=some (.slice At t.length ct):=hxz;clear HBz HNz hxz HIz HRz;have HBz:=n0_;have HNz:=n1_;have hxz:=n2_;clear n0_ n1_ n2_;generalize wz.drewN nq=wy at HBz HNz hxz ⊢;have hxz1:wy.drew.cell? (ad.add j)=some (.slice At t.length ct):=hxz;have hxz2:(wy.alloc (.cells #[] 22)).drew.cell? (ad.add j)=some (.slice At t.length ct):=qG hxz _;have hxz3:(wy.alloc (.cells #[.slice At t.length ct] 22)).drew.cell? (ad.add j)=some (.slice At t.length ct):=qG hxz _;obtain⟨hcutt,hct1,hctC⟩:=HCT.out q (by have:=AQL.out;omega);obtain⟨A3,hcute,hce1,hceC⟩:=HCE.out q (by have:=AQL.out;omega);have HF1:=Qk (Kd.F_imp (Kd.F_bound (Kd.N_F HNz.out)) (fun W' hC=>hctC W' hC));have HF2:=Qk (Kd.F_imp (Kd.F_bound (Kd.N_F HNz.out)) (fun W' hC=>hceC W' hC));have hT1:(d.take q).length<=d.length:=by rw[List.length_take];omega
        have hT2:(d.drop q).length<=d.length:=by rw[List.length_drop];omega
        clear hctC hceC;generalize d.take q=T1 at hcutt hct1 HF1 hT1 AN;generalize d.drop q=T2 at hcute hce1 HF2 hT2 AN;have HFy:=Qk (Kd.F_below HFT.out HBz.out);have hwy:=HBz.out.size;have hsz:∀ o:Obj,(wy.alloc o).heap.size=wy.heap.size+1:=fun o=>qm wy o
        have hlt1:t.length<=ct:=HL.out;have E0:=Qk (qn (Kd.slice 5 (Kd.int .u8)) (W:=wy) wy.heap.size 22 (xs:=[]) (inner:=[]) (ok:=(fun k_=>P0_ k_\/w.heap.size<=k_)) (okp:=fun _=>False) (Reps.none _ _) (fun _ hk=>hk.elim) (.inr hwy) (Nat.le_refl _) (by simp));have ECA0:=qn (Kd.slice 5 (Kd.int .u8)) (W:=wy.alloc (.cells #[.slice At t.length ct] 22)) wy.heap.size 22 (xs:=[]) (inner:=[]) (ok:=(fun k_=>P0_ k_\/w.heap.size<=k_)) (okp:=fun _=>False) (Reps.none _ _) (fun _ hk=>hk.elim) (.inr (by rw[hsz];omega)) (by rw[hsz];omega) (by simp);rw[hsz]at ECA0;have ECA:=Qk ECA0;have LCA:=Qk (Kd.N_drew (Kd.N_alloc (qn (Kd.slice 5 (Kd.int .u8)) (W:=wy) wy.heap.size 22 (xs:=[t]) (inner:=[.slice At t.length ct]) (ok:=(fun k_=>k_=wy.heap.size\/P0_ k_/\k_<w.heap.size)) (okp:=fun k_=>P0_ k_/\k_<w.heap.size) (Reps.one (Kd.FK_slice_mk HL.out HFy.out) (Reps.none _ _)) (fun _ hk=>.inr hk) (.inl rfl) (Nat.le_refl _) (by simp)) (.cells #[] 22)));have LAC0:=qn (Kd.slice 5 (Kd.int .u8)) (W:=wy.alloc (.cells #[] 22)) wy.heap.size 22 (xs:=[t]) (inner:=[.slice At t.length ct]) (ok:=(fun k_=>k_=wy.heap.size+1\/P0_ k_/\k_<w.heap.size)) (okp:=fun k_=>P0_ k_/\k_<w.heap.size) (Reps.one (Kd.FK_slice_mk HL.out (Kd.F_alloc HFy.out _)) (Reps.none _ _)) (fun _ hk=>.inr hk) (.inl (hsz _)) (by rw[hsz];omega) (by simp);rw[hsz]at LAC0;have LAC:=Qk (Kd.N_drew LAC0);clear ECA0 LAC0;go_region_held3 (fun w'=>w'.cell? (ad.add j)=some (.slice At t.length ct)) (first|go_keep|exact zF HB3.out hxz|exact zF HB2.out hxz|exact ZE (zF HB1.out hxz) _|exact zF HB1.out hxz|exact hxz1|exact hxz2|exact hxz3|exact Qi hxz _ _) (first
         |(refine Kd.N_append_rows_step (Kd.slice 5 (Kd.int .u8)) (w0:=wy) wy.heap.size (by rfl) (.tmp 44) (.tmp 47) 60 22 (.slice none 0 0) 24 rfl Tryz.underlying60 qw rfl (by decide) (by omega) (.slice (some ⟨wy.heap.size,0,none⟩) 0 0) [] T1 _ T1.length cd (fun k_=>P0_ k_\/w.heap.size<=k_) (fun k_=>(P0_ k_\/w.heap.size<=k_)/\k_<wy.heap.size) rfl rfl (Kd.N_drew E0.out) (Kd.F_below HF1.out (zC (za (Below.refl wy.heap.size wy) _))) (fun k_ hk=>⟨hk.1,fun e_=>by simp[Value.ownBlock]at e_ <;> omega⟩) (fun k_ hk=>.inr (Nat.le_trans hwy (Nat.le_trans (ze (zC (za (Below.refl wy.heap.size wy) _))) hk))) (zC (za (Below.refl wy.heap.size wy) _)) (ze (zC (za (Below.refl wy.heap.size wy) _))) (by simp only[List.length_nil];omega) ?_;intro v48 w6 ho hb hg hat;have HN1:=Qk ho;have HB1:=Qk hb;clear ho hb hg hat)
         |(refine Kd.N_append_rows_step (Kd.slice 5 (Kd.int .u8)) (w0:=wy) wy.heap.size (by rfl) (.tmp 44) (.tmp 47) 60 22 (.slice none 0 0) 24 rfl Tryz.underlying60 qw rfl (by decide) (by omega) (.slice (some ⟨wy.heap.size,0,none⟩) 0 0) [] T1 _ T1.length cd (fun k_=>P0_ k_\/w.heap.size<=k_) (fun k_=>(P0_ k_\/w.heap.size<=k_)/\k_<wy.heap.size) rfl rfl (Kd.N_drew (Kd.N_alloc E0.out _)) (Kd.F_below HF1.out (zC (za (za (Below.refl wy.heap.size wy) _) _))) (fun k_ hk=>⟨hk.1,fun e_=>by simp[Value.ownBlock]at e_ <;> omega⟩) (fun k_ hk=>.inr (Nat.le_trans hwy (Nat.le_trans (ze (zC (za (za (Below.refl wy.heap.size wy) _) _))) hk))) (zC (za (za (Below.refl wy.heap.size wy) _) _)) (ze (zC (za (za (Below.refl wy.heap.size wy) _) _))) (by simp only[List.length_nil];omega) ?_;intro v48 w6 ho hb hg hat;have HN1:=Qk ho;have HB1:=Qk hb;have LN:=Qk (Kd.N_grown LAC.out hg (fun k_ hk e_=>by rcases hk with h_|h_ <;> simp[Value.ownBlock]at e_ <;> omega));have HNL:=Qk (show some (wy.heap.size+1)≠v48.ownBlock from fun e_=>by rcases hat with h_|⟨b_,h_,hle_⟩;(rw[h_]at e_;simp[Value.ownBlock]at e_ <;> omega);(rw[h_]at e_;injection e_ with e_;have hle_:((wy.alloc (.cells #[] 22)).alloc (.cells #[.slice At t.length ct] 22)).heap.size<=b_:=hle_;rw[qm,qm]at hle_;omega));clear ho hb hg hat)
         |(refine Kd.N_append_rows_step (Kd.slice 5 (Kd.int .u8)) (w0:=wy) wy.heap.size (by rfl) (.tmp 44) (.tmp 47) 60 22 (.slice none 0 0) 24 rfl Tryz.underlying60 qw rfl (by decide) (by omega) (.slice (some ⟨wy.heap.size+1,0,none⟩) 0 0) [] T1 _ T1.length cd (fun k_=>P0_ k_\/w.heap.size<=k_) (fun k_=>(P0_ k_\/w.heap.size<=k_)/\k_<wy.heap.size) rfl rfl (Kd.N_drew ECA.out) (Kd.F_below HF1.out (zC (za (za (Below.refl wy.heap.size wy) _) _))) (fun k_ hk=>⟨hk.1,fun e_=>by simp[Value.ownBlock]at e_ <;> omega⟩) (fun k_ hk=>.inr (Nat.le_trans hwy (Nat.le_trans (ze (zC (za (za (Below.refl wy.heap.size wy) _) _))) hk))) (zC (za (za (Below.refl wy.heap.size wy) _) _)) (ze (zC (za (za (Below.refl wy.heap.size wy) _) _))) (by simp only[List.length_nil];omega) ?_;intro v48 w6 ho hb hg hat;have HN1:=Qk ho;have HB1:=Qk hb;have LN:=Qk (Kd.N_grown LCA.out hg (fun k_ hk e_=>by rcases hk with h_|h_ <;> simp[Value.ownBlock]at e_ <;> omega));have HNL:=Qk (show some (wy.heap.size)≠v48.ownBlock from fun e_=>by rcases hat with h_|⟨b_,h_,hle_⟩;(rw[h_]at e_;simp[Value.ownBlock]at e_ <;> omega);(rw[h_]at e_;injection e_ with e_;have hle_:((wy.alloc (.cells #[.slice At t.length ct] 22)).alloc (.cells #[] 22)).heap.size<=b_:=hle_;rw[qm,qm]at hle_;omega));clear ho hb hg hat)
         |(refine Kd.N_append_rows_step (Kd.slice 5 (Kd.int .u8)) (w0:=wy) wy.heap.size (by rfl) (.tmp 48) (.tmp 53) 60 22 (.slice none 0 0) 24 rfl Tryz.underlying60 qw rfl (by decide) (by omega) v48 ([]++T1) [t] (some ⟨w6.heap.size,0,none⟩) 1 1 (fun k_=>P0_ k_\/w.heap.size<=k_) (fun k_=>k_=w6.heap.size\/P0_ k_/\k_<w.heap.size) rfl rfl (Kd.N_alloc HN1.out _) (Kd.N_F (qn (Kd.slice 5 (Kd.int .u8)) (W:=w6) wy.heap.size 22 (xs:=[t]) (inner:=[.slice At t.length ct]) (ok:=(fun k_=>k_=w6.heap.size\/P0_ k_/\k_<w.heap.size)) (okp:=fun k_=>P0_ k_/\k_<w.heap.size) (Reps.one (Kd.FK_slice_mk HL.out (Kd.F_below HFy.out HB1.out)) (Reps.none _ _)) (fun _ hk=>.inr hk) (.inl rfl) HB1.out.size (by simp))) (fun k_ hk=>by rcases hk with h_|h_;(refine⟨.inr (by have:=HB1.out.size;omega),fun e_=>?_⟩;subst h_;have:=Kd.N_lt HN1.out _ e_.symm;omega);exact⟨.inl h_.1,fun e_=>by have:=Kd.N_base HN1.out k_ e_.symm;omega⟩) (fun k_ hk=>.inr (Nat.le_trans hwy (Nat.le_trans (ze (HB1.out.alloc HB1.out.size (.cells #[.slice At t.length ct] 22))) hk))) (HB1.out.alloc HB1.out.size (.cells #[.slice At t.length ct] 22)) (ze (HB1.out.alloc HB1.out.size (.cells #[.slice At t.length ct] 22))) (by simp only[List.nil_append];omega) ?_;intro v54 w7 ho hb hg hat;have HN2:=Qk ho;have HB2:=Qk hb;clear ho hb hg hat)
         |(refine Kd.N_append_rows_step (Kd.slice 5 (Kd.int .u8)) (w0:=wy) wy.heap.size (by rfl) (.tmp 48) (.tmp 53) 60 22 (.slice none 0 0) 24 rfl Tryz.underlying60 qw rfl (by decide) (by omega) v48 ([]++T1) [t] (some ⟨wy.heap.size+1,0,none⟩) 1 1 (fun k_=>P0_ k_\/w.heap.size<=k_) (fun k_=>k_=wy.heap.size+1\/P0_ k_/\k_<w.heap.size) rfl rfl (HN1.out) (Kd.N_F LN.out) (fun k_ hk=>by rcases hk with h_|h_;(refine⟨.inr (by have:=HB1.out.size;omega),fun e_=>?_⟩;subst h_;exact HNL.out e_);exact⟨.inl h_.1,fun e_=>by have:=Kd.N_base HN1.out k_ e_.symm;omega⟩) (fun k_ hk=>.inr (Nat.le_trans hwy (Nat.le_trans (ze HB1.out) hk))) HB1.out (ze HB1.out) (by simp only[List.nil_append];omega) ?_;intro v54 w7 ho hb hg hat;have HN2:=Qk ho;have HB2:=Qk hb;clear ho hb hg hat)
         |(refine Kd.N_append_rows_step (Kd.slice 5 (Kd.int .u8)) (w0:=wy) wy.heap.size (by rfl) (.tmp 48) (.tmp 53) 60 22 (.slice none 0 0) 24 rfl Tryz.underlying60 qw rfl (by decide) (by omega) v48 ([]++T1) [t] (some ⟨wy.heap.size,0,none⟩) 1 1 (fun k_=>P0_ k_\/w.heap.size<=k_) (fun k_=>k_=wy.heap.size\/P0_ k_/\k_<w.heap.size) rfl rfl (HN1.out) (Kd.N_F LN.out) (fun k_ hk=>by rcases hk with h_|h_;(refine⟨.inr (by have:=HB1.out.size;omega),fun e_=>?_⟩;subst h_;exact HNL.out e_);exact⟨.inl h_.1,fun e_=>by have:=Kd.N_base HN1.out k_ e_.symm;omega⟩) (fun k_ hk=>.inr (Nat.le_trans hwy (Nat.le_trans (ze HB1.out) hk))) HB1.out (ze HB1.out) (by simp only[List.nil_append];omega) ?_;intro v54 w7 ho hb hg hat;have HN2:=Qk ho;have HB2:=Qk hb;clear ho hb hg hat)
         |(refine Kd.N_append_rows_step (Kd.slice 5 (Kd.int .u8)) (w0:=wy) wy.heap.size (by rfl) (.tmp 54) (.tmp 57) 60 22 (.slice none 0 0) 24 rfl Tryz.underlying60 qw rfl (by decide) (by omega) v54 ([]++T1++[t]) T2 _ T2.length (cd-q) (fun k_=>P0_ k_\/w.heap.size<=k_) (fun k_=>(P0_ k_\/w.heap.size<=k_)/\k_<wy.heap.size) rfl rfl HN2.out (Kd.F_below HF2.out HB2.out) (fun k_ hk=>⟨hk.1,fun e_=>by have:=Kd.N_base HN2.out k_ e_.symm;omega⟩) (fun k_ hk=>.inr (Nat.le_trans hwy (Nat.le_trans (ze HB2.out) hk))) HB2.out (ze HB2.out) (by simp only[List.nil_append,List.length_append,List.length_cons,List.length_nil];omega) ?_;intro v58 w8 ho hb hg hat;have HN3:=Qk ho;have HB3:=Qk hb;clear ho hb hg hat))
        all_goals go_wp2
        all_goals go_roundw
        all_goals first
         |exact⟨j+1,_,_,by omega,by go_num,rfl,AN,⟨Kd.N_lower HN3.out hwy⟩,⟨zi HBz.out HB3.out⟩⟩
         |(simp[intOf];omega)
       ·rw[if_neg hdl]at h;cases h
    ·have hQ:=AQ.out
     rw[List.drop_eq_nil_of_le (by omega),Zu]at hQ;obtain rfl:=Qp hQ;have d1:decide (q<d.length)=false:=Qn hql;have HD:=Qk (Drawn0.step (Drawn0.refl wr) m1);clear hx hQ AQ;generalize wr.drewN m1=wv at HD ⊢;go_wp2;go_quiet (fail)
     go_wp2;have HD2:=Qk (Drawn0.step HD.out nq);clear HD d1 hql hq;generalize wv.drewN nq=wz at HD2 ⊢;obtain⟨mz,ez⟩:=HD2.out;have HBz:=Qk (show Below w.heap.size w wz by rw[ez];exact qh HB.out mz);have HNz:=Qk (show Kd.N (Kd.slice 5 (Kd.int .u8)) 22 wz w.heap.size (fun k_=>(P0_ k_\/w.heap.size<=k_)) _ d by rw[ez];exact Kd.N_below HN.out (qh (Below.refl _ _) mz));have hxz:wz.cell? (ad.add j)=some (.slice At t.length ct):=by rw[ez];exact HXK.out
     have HIz:=Qk (show Kd.C (Kd.int .u8) wz At t.length t by rw[ez];exact Kd.C_drewN HI.out mz);have HRz:=Qk (Kd.N_reads' HNz.out).2.2;clear HD2 ez HB HN HI HXK HRD;by_cases hQl:q<d.length
     ·obtain⟨ad3,Av,cv,eAd,hy,hly,hiy⟩:=at_L1 HRz.out (q:Int) (by omega) (by omega)
      cases eAd;have eB:qX d (q:Int)=d.getD q []:=rfl;have h:=AH.out;rw[← eB]at h;simp only[Int.toNat_natCast]at hy;generalize qX d (q:Int)=y at hy hly hiy h;have HIY:=Qk hiy;have HLY:=Qk hly;have d1:decide (q<d.length)=true:=Qm hQl;clear hiy hly eB;generalize hS:((strOfNums y).toList == (strOfNums t).toList)=S at h;have HSM:=Qk (show qc.f y t=some S from congrArg some hS);clear hS
      cases S with
      |true =>
       rw[if_pos ⟨hQl,rfl⟩]at h;have AN:=Qk h;clear h AH;go_quiet (first|(go_at_call 103;refine Calls.quiet_of ((qc.calls _ _ y _ _ t true _ (Kd.C_drewN HIY.out _) HLY.out (Kd.C_drewN HIz.out _) HL.out HSM.out).mono (fun e w' hp=>⟨hp.1,hp.2.out⟩))))
       go_wp2;go_roundw
       case rel=>exact⟨j+1,d,_,by omega,by go_num,rfl,AN,⟨Kd.N_below HNz.out (qh (Below.refl _ _) nq)⟩,⟨qh HBz.out nq⟩⟩
       case measure=>simp[intOf];omega
      |false =>
       rw[if_neg (fun hh=>by cases hh.2)]at h;by_cases hdl:d.length<100000000
       ·rw[if_pos hdl]at h
        have AN:=Qk h;clear h AH;go_quiet (first|(go_at_call 103;refine Calls.quiet_of ((qc.calls _ _ y _ _ t false _ (Kd.C_drewN HIY.out _) HLY.out (Kd.C_drewN HIz.out _) HL.out HSM.out).mono (fun e w' hp=>⟨hp.1,hp.2.out⟩))))
        go_wp2;clear hy HIY HLY HSM d1;have n0_:=Qk (qh HBz.out nq);have n1_:=Qk (Kd.N_below HNz.out (qh (Below.refl wz.heap.size wz) nq));have n2_:(wz.drewN nq).cell? (ad.add j)=some (.slice At t.length ct):=hxz;clear HBz HNz hxz HIz HRz;have HBz:=n0_;have HNz:=n1_;have hxz:=n2_;clear n0_ n1_ n2_;generalize wz.drewN nq=wy at HBz HNz hxz ⊢;have hxz1:wy.drew.cell? (ad.add j)=some (.slice At t.length ct):=hxz;have hxz2:(wy.alloc (.cells #[] 22)).drew.cell? (ad.add j)=some (.slice At t.length ct):=qG hxz _;have hxz3:(wy.alloc (.cells #[.slice At t.length ct] 22)).drew.cell? (ad.add j)=some (.slice At t.length ct):=qG hxz _;obtain⟨hcutt,hct1,hctC⟩:=HCT.out q (by have:=AQL.out;omega);obtain⟨A3,hcute,hce1,hceC⟩:=HCE.out q (by have:=AQL.out;omega);have HF1:=Qk (Kd.F_imp (Kd.F_bound (Kd.N_F HNz.out)) (fun W' hC=>hctC W' hC));have HF2:=Qk (Kd.F_imp (Kd.F_bound (Kd.N_F HNz.out)) (fun W' hC=>hceC W' hC));have hT1:(d.take q).length<=d.length:=by rw[List.length_take];omega
        have hT2:(d.drop q).length<=d.length:=by rw[List.length_drop];omega
        clear hctC hceC;generalize d.take q=T1 at hcutt hct1 HF1 hT1 AN;generalize d.drop q=T2 at hcute hce1 HF2 hT2 AN;have HFy:=Qk (Kd.F_below HFT.out HBz.out);have hwy:=HBz.out.size;have hsz:∀ o:Obj,(wy.alloc o).heap.size=wy.heap.size+1:=fun o=>qm wy o
        have hlt1:t.length<=ct:=HL.out;have E0:=Qk (qn (Kd.slice 5 (Kd.int .u8)) (W:=wy) wy.heap.size 22 (xs:=[]) (inner:=[]) (ok:=(fun k_=>P0_ k_\/w.heap.size<=k_)) (okp:=fun _=>False) (Reps.none _ _) (fun _ hk=>hk.elim) (.inr hwy) (Nat.le_refl _) (by simp));have ECA0:=qn (Kd.slice 5 (Kd.int .u8)) (W:=wy.alloc (.cells #[.slice At t.length ct] 22)) wy.heap.size 22 (xs:=[]) (inner:=[]) (ok:=(fun k_=>P0_ k_\/w.heap.size<=k_)) (okp:=fun _=>False) (Reps.none _ _) (fun _ hk=>hk.elim) (.inr (by rw[hsz];omega)) (by rw[hsz];omega) (by simp);rw[hsz]at ECA0;have ECA:=Qk ECA0;have LCA:=Qk (Kd.N_drew (Kd.N_alloc (qn (Kd.slice 5 (Kd.int .u8)) (W:=wy) wy.heap.size 22 (xs:=[t]) (inner:=[.slice At t.length ct]) (ok:=(fun k_=>k_=wy.heap.size\/P0_ k_/\k_<w.heap.size)) (okp:=fun k_=>P0_ k_/\k_<w.heap.size) (Reps.one (Kd.FK_slice_mk HL.out HFy.out) (Reps.none _ _)) (fun _ hk=>.inr hk) (.inl rfl) (Nat.le_refl _) (by simp)) (.cells #[] 22)));have LAC0:=qn (Kd.slice 5 (Kd.int .u8)) (W:=wy.alloc (.cells #[] 22)) wy.heap.size 22 (xs:=[t]) (inner:=[.slice At t.length ct]) (ok:=(fun k_=>k_=wy.heap.size+1\/P0_ k_/\k_<w.heap.size)) (okp:=fun k_=>P0_ k_/\k_<w.heap.size) (Reps.one (Kd.FK_slice_mk HL.out (Kd.F_alloc HFy.out _)) (Reps.none _ _)) (fun _ hk=>.inr hk) (.inl (hsz _)) (by rw[hsz];omega) (by simp);rw[hsz]at LAC0;have LAC:=Qk (Kd.N_drew LAC0);clear ECA0 LAC0;go_region_held3 (fun w'=>w'.cell? (ad.add j)=some (.slice At t.length ct)) (first|go_keep|exact zF HB3.out hxz|exact zF HB2.out hxz|exact ZE (zF HB1.out hxz) _|exact zF HB1.out hxz|exact hxz1|exact hxz2|exact hxz3|exact Qi hxz _ _) (first
         |(refine Kd.N_append_rows_step (Kd.slice 5 (Kd.int .u8)) (w0:=wy) wy.heap.size (by rfl) (.tmp 44) (.tmp 47) 60 22 (.slice none 0 0) 24 rfl Tryz.underlying60 qw rfl (by decide) (by omega) (.slice (some ⟨wy.heap.size,0,none⟩) 0 0) [] T1 _ T1.length cd (fun k_=>P0_ k_\/w.heap.size<=k_) (fun k_=>(P0_ k_\/w.heap.size<=k_)/\k_<wy.heap.size) rfl rfl (Kd.N_drew E0.out) (Kd.F_below HF1.out (zC (za (Below.refl wy.heap.size wy) _))) (fun k_ hk=>⟨hk.1,fun e_=>by simp[Value.ownBlock]at e_ <;> omega⟩) (fun k_ hk=>.inr (Nat.le_trans hwy (Nat.le_trans (ze (zC (za (Below.refl wy.heap.size wy) _))) hk))) (zC (za (Below.refl wy.heap.size wy) _)) (ze (zC (za (Below.refl wy.heap.size wy) _))) (by simp only[List.length_nil];omega) ?_;intro v48 w6 ho hb hg hat;have HN1:=Qk ho;have HB1:=Qk hb;clear ho hb hg hat)
         |(refine Kd.N_append_rows_step (Kd.slice 5 (Kd.int .u8)) (w0:=wy) wy.heap.size (by rfl) (.tmp 44) (.tmp 47) 60 22 (.slice none 0 0) 24 rfl Tryz.underlying60 qw rfl (by decide) (by omega) (.slice (some ⟨wy.heap.size,0,none⟩) 0 0) [] T1 _ T1.length cd (fun k_=>P0_ k_\/w.heap.size<=k_) (fun k_=>(P0_ k_\/w.heap.size<=k_)/\k_<wy.heap.size) rfl rfl (Kd.N_drew (Kd.N_alloc E0.out _)) (Kd.F_below HF1.out (zC (za (za (Below.refl wy.heap.size wy) _) _))) (fun k_ hk=>⟨hk.1,fun e_=>by simp[Value.ownBlock]at e_ <;> omega⟩) (fun k_ hk=>.inr (Nat.le_trans hwy (Nat.le_trans (ze (zC (za (za (Below.refl wy.heap.size wy) _) _))) hk))) (zC (za (za (Below.refl wy.heap.size wy) _) _)) (ze (zC (za (za (Below.refl wy.heap.size wy) _) _))) (by simp only[List.length_nil];omega) ?_;intro v48 w6 ho hb hg hat;have HN1:=Qk ho;have HB1:=Qk hb;have LN:=Qk (Kd.N_grown LAC.out hg (fun k_ hk e_=>by rcases hk with h_|h_ <;> simp[Value.ownBlock]at e_ <;> omega));have HNL:=Qk (show some (wy.heap.size+1)≠v48.ownBlock from fun e_=>by rcases hat with h_|⟨b_,h_,hle_⟩;(rw[h_]at e_;simp[Value.ownBlock]at e_ <;> omega);(rw[h_]at e_;injection e_ with e_;have hle_:((wy.alloc (.cells #[] 22)).alloc (.cells #[.slice At t.length ct] 22)).heap.size<=b_:=hle_;rw[qm,qm]at hle_;omega));clear ho hb hg hat)
         |(refine Kd.N_append_rows_step (Kd.slice 5 (Kd.int .u8)) (w0:=wy) wy.heap.size (by rfl) (.tmp 44) (.tmp 47) 60 22 (.slice none 0 0) 24 rfl Tryz.underlying60 qw rfl (by decide) (by omega) (.slice (some ⟨wy.heap.size+1,0,none⟩) 0 0) [] T1 _ T1.length cd (fun k_=>P0_ k_\/w.heap.size<=k_) (fun k_=>(P0_ k_\/w.heap.size<=k_)/\k_<wy.heap.size) rfl rfl (Kd.N_drew ECA.out) (Kd.F_below HF1.out (zC (za (za (Below.refl wy.heap.size wy) _) _))) (fun k_ hk=>⟨hk.1,fun e_=>by simp[Value.ownBlock]at e_ <;> omega⟩) (fun k_ hk=>.inr (Nat.le_trans hwy (Nat.le_trans (ze (zC (za (za (Below.refl wy.heap.size wy) _) _))) hk))) (zC (za (za (Below.refl wy.heap.size wy) _) _)) (ze (zC (za (za (Below.refl wy.heap.size wy) _) _))) (by simp only[List.length_nil];omega) ?_;intro v48 w6 ho hb hg hat;have HN1:=Qk ho;have HB1:=Qk hb;have LN:=Qk (Kd.N_grown LCA.out hg (fun k_ hk e_=>by rcases hk with h_|h_ <;> simp[Value.ownBlock]at e_ <;> omega));have HNL:=Qk (show some (wy.heap.size)≠v48.ownBlock from fun e_=>by rcases hat with h_|⟨b_,h_,hle_⟩;(rw[h_]at e_;simp[Value.ownBlock]at e_ <;> omega);(rw[h_]at e_;injection e_ with e_;have hle_:((wy.alloc (.cells #[.slice At t.length ct] 22)).alloc (.cells #[] 22)).heap.size<=b_:=hle_;rw[qm,qm]at hle_;omega));clear ho hb hg hat)
         |(refine Kd.N_append_rows_step (Kd.slice 5 (Kd.int .u8)) (w0:=wy) wy.heap.size (by rfl) (.tmp 48) (.tmp 53) 60 22 (.slice none 0 0) 24 rfl Tryz.underlying60 qw rfl (by decide) (by omega) v48 ([]++T1) [t] (some ⟨w6.heap.size,0,none⟩) 1 1 (fun k_=>P0_ k_\/w.heap.size<=k_) (fun k_=>k_=w6.heap.size\/P0_ k_/\k_<w.heap.size) rfl rfl (Kd.N_alloc HN1.out _) (Kd.N_F (qn (Kd.slice 5 (Kd.int .u8)) (W:=w6) wy.heap.size 22 (xs:=[t]) (inner:=[.slice At t.length ct]) (ok:=(fun k_=>k_=w6.heap.size\/P0_ k_/\k_<w.heap.size)) (okp:=fun k_=>P0_ k_/\k_<w.heap.size) (Reps.one (Kd.FK_slice_mk HL.out (Kd.F_below HFy.out HB1.out)) (Reps.none _ _)) (fun _ hk=>.inr hk) (.inl rfl) HB1.out.size (by simp))) (fun k_ hk=>by rcases hk with h_|h_;(refine⟨.inr (by have:=HB1.out.size;omega),fun e_=>?_⟩;subst h_;have:=Kd.N_lt HN1.out _ e_.symm;omega);exact⟨.inl h_.1,fun e_=>by have:=Kd.N_base HN1.out k_ e_.symm;omega⟩) (fun k_ hk=>.inr (Nat.le_trans hwy (Nat.le_trans (ze (HB1.out.alloc HB1.out.size (.cells #[.slice At t.length ct] 22))) hk))) (HB1.out.alloc HB1.out.size (.cells #[.slice At t.length ct] 22)) (ze (HB1.out.alloc HB1.out.size (.cells #[.slice At t.length ct] 22))) (by simp only[List.nil_append];omega) ?_;intro v54 w7 ho hb hg hat;have HN2:=Qk ho;have HB2:=Qk hb;clear ho hb hg hat)
         |(refine Kd.N_append_rows_step (Kd.slice 5 (Kd.int .u8)) (w0:=wy) wy.heap.size (by rfl) (.tmp 48) (.tmp 53) 60 22 (.slice none 0 0) 24 rfl Tryz.underlying60 qw rfl (by decide) (by omega) v48 ([]++T1) [t] (some ⟨wy.heap.size+1,0,none⟩) 1 1 (fun k_=>P0_ k_\/w.heap.size<=k_) (fun k_=>k_=wy.heap.size+1\/P0_ k_/\k_<w.heap.size) rfl rfl (HN1.out) (Kd.N_F LN.out) (fun k_ hk=>by rcases hk with h_|h_;(refine⟨.inr (by have:=HB1.out.size;omega),fun e_=>?_⟩;subst h_;exact HNL.out e_);exact⟨.inl h_.1,fun e_=>by have:=Kd.N_base HN1.out k_ e_.symm;omega⟩) (fun k_ hk=>.inr (Nat.le_trans hwy (Nat.le_trans (ze HB1.out) hk))) HB1.out (ze HB1.out) (by simp only[List.nil_append];omega) ?_;intro v54 w7 ho hb hg hat;have HN2:=Qk ho;have HB2:=Qk hb;clear ho hb hg hat)
         |(refine Kd.N_append_rows_step (Kd.slice 5 (Kd.int .u8)) (w0:=wy) wy.heap.size (by rfl) (.tmp 48) (.tmp 53) 60 22 (.slice none 0 0) 24 rfl Tryz.underlying60 qw rfl (by decide) (by omega) v48 ([]++T1) [t] (some ⟨wy.heap.size,0,none⟩) 1 1 (fun k_=>P0_ k_\/w.heap.size<=k_) (fun k_=>k_=wy.heap.size\/P0_ k_/\k_<w.heap.size) rfl rfl (HN1.out) (Kd.N_F LN.out) (fun k_ hk=>by rcases hk with h_|h_;(refine⟨.inr (by have:=HB1.out.size;omega),fun e_=>?_⟩;subst h_;exact HNL.out e_);exact⟨.inl h_.1,fun e_=>by have:=Kd.N_base HN1.out k_ e_.symm;omega⟩) (fun k_ hk=>.inr (Nat.le_trans hwy (Nat.le_trans (ze HB1.out) hk))) HB1.out (ze HB1.out) (by simp only[List.nil_append];omega) ?_;intro v54 w7 ho hb hg hat;have HN2:=Qk ho;have HB2:=Qk hb;clear ho hb hg hat)
         |(refine Kd.N_append_rows_step (Kd.slice 5 (Kd.int .u8)) (w0:=wy) wy.heap.size (by rfl) (.tmp 54) (.tmp 57) 60 22 (.slice none 0 0) 24 rfl Tryz.underlying60 qw rfl (by decide) (by omega) v54 ([]++T1++[t]) T2 _ T2.length (cd-q) (fun k_=>P0_ k_\/w.heap.size<=k_) (fun k_=>(P0_ k_\/w.heap.size<=k_)/\k_<wy.heap.size) rfl rfl HN2.out (Kd.F_below HF2.out HB2.out) (fun k_ hk=>⟨hk.1,fun e_=>by have:=Kd.N_base HN2.out k_ e_.symm;omega⟩) (fun k_ hk=>.inr (Nat.le_trans hwy (Nat.le_trans (ze HB2.out) hk))) HB2.out (ze HB2.out) (by simp only[List.nil_append,List.length_append,List.length_cons,List.length_nil];omega) ?_;intro v58 w8 ho hb hg hat;have HN3:=Qk ho;have HB3:=Qk hb;clear ho hb hg hat))
        all_goals go_wp2
        all_goals go_roundw
        all_goals first
         |exact⟨j+1,_,_,by omega,by go_num,rfl,AN,⟨Kd.N_lower HN3.out hwy⟩,⟨zi HBz.out HB3.out⟩⟩
         |(simp[intOf];omega)
       ·rw[if_neg hdl]at h;cases h
     ·have d1:decide (q<d.length)=false:=Qn hQl
      have h:=AH.out;rw[if_neg (fun hh=>hQl hh.1)]at h;by_cases hdl:d.length<100000000
      ·rw[if_pos hdl]at h
       have AN:=Qk h;clear h AH;go_quiet (fail)
       go_wp2;clear d1;have n0_:=Qk (qh HBz.out nq);have n1_:=Qk (Kd.N_below HNz.out (qh (Below.refl wz.heap.size wz) nq));have n2_:(wz.drewN nq).cell? (ad.add j)=some (.slice At t.length ct):=hxz;clear HBz HNz hxz HIz HRz;have HBz:=n0_;have HNz:=n1_;have hxz:=n2_;clear n0_ n1_ n2_;generalize wz.drewN nq=wy at HBz HNz hxz ⊢;have hxz1:wy.drew.cell? (ad.add j)=some (.slice At t.length ct):=hxz;have hxz2:(wy.alloc (.cells #[] 22)).drew.cell? (ad.add j)=some (.slice At t.length ct):=qG hxz _;have hxz3:(wy.alloc (.cells #[.slice At t.length ct] 22)).drew.cell? (ad.add j)=some (.slice At t.length ct):=qG hxz _;obtain⟨hcutt,hct1,hctC⟩:=HCT.out q (by have:=AQL.out;omega);obtain⟨A3,hcute,hce1,hceC⟩:=HCE.out q (by have:=AQL.out;omega);have HF1:=Qk (Kd.F_imp (Kd.F_bound (Kd.N_F HNz.out)) (fun W' hC=>hctC W' hC));have HF2:=Qk (Kd.F_imp (Kd.F_bound (Kd.N_F HNz.out)) (fun W' hC=>hceC W' hC));have hT1:(d.take q).length<=d.length:=by rw[List.length_take];omega
       have hT2:(d.drop q).length<=d.length:=by rw[List.length_drop];omega
       clear hctC hceC;generalize d.take q=T1 at hcutt hct1 HF1 hT1 AN;generalize d.drop q=T2 at hcute hce1 HF2 hT2 AN;have HFy:=Qk (Kd.F_below HFT.out HBz.out);have hwy:=HBz.out.size;have hsz:∀ o:Obj,(wy.alloc o).heap.size=wy.heap.size+1:=fun o=>qm wy o
       have hlt1:t.length<=ct:=HL.out;have E0:=Qk (qn (Kd.slice 5 (Kd.int .u8)) (W:=wy) wy.heap.size 22 (xs:=[]) (inner:=[]) (ok:=(fun k_=>P0_ k_\/w.heap.size<=k_)) (okp:=fun _=>False) (Reps.none _ _) (fun _ hk=>hk.elim) (.inr hwy) (Nat.le_refl _) (by simp));have ECA0:=qn (Kd.slice 5 (Kd.int .u8)) (W:=wy.alloc (.cells #[.slice At t.length ct] 22)) wy.heap.size 22 (xs:=[]) (inner:=[]) (ok:=(fun k_=>P0_ k_\/w.heap.size<=k_)) (okp:=fun _=>False) (Reps.none _ _) (fun _ hk=>hk.elim) (.inr (by rw[hsz];omega)) (by rw[hsz];omega) (by simp);rw[hsz]at ECA0;have ECA:=Qk ECA0;have LCA:=Qk (Kd.N_drew (Kd.N_alloc (qn (Kd.slice 5 (Kd.int .u8)) (W:=wy) wy.heap.size 22 (xs:=[t]) (inner:=[.slice At t.length ct]) (ok:=(fun k_=>k_=wy.heap.size\/P0_ k_/\k_<w.heap.size)) (okp:=fun k_=>P0_ k_/\k_<w.heap.size) (Reps.one (Kd.FK_slice_mk HL.out HFy.out) (Reps.none _ _)) (fun _ hk=>.inr hk) (.inl rfl) (Nat.le_refl _) (by simp)) (.cells #[] 22)));have LAC0:=qn (Kd.slice 5 (Kd.int .u8)) (W:=wy.alloc (.cells #[] 22)) wy.heap.size 22 (xs:=[t]) (inner:=[.slice At t.length ct]) (ok:=(fun k_=>k_=wy.heap.size+1\/P0_ k_/\k_<w.heap.size)) (okp:=fun k_=>P0_ k_/\k_<w.heap.size) (Reps.one (Kd.FK_slice_mk HL.out (Kd.F_alloc HFy.out _)) (Reps.none _ _)) (fun _ hk=>.inr hk) (.inl (hsz _)) (by rw[hsz];omega) (by simp);rw[hsz]at LAC0;have LAC:=Qk (Kd.N_drew LAC0);clear ECA0 LAC0;go_region_held3 (fun w'=>w'.cell? (ad.add j)=some (.slice At t.length ct)) (first|go_keep|exact zF HB3.out hxz|exact zF HB2.out hxz|exact ZE (zF HB1.out hxz) _|exact zF HB1.out hxz|exact hxz1|exact hxz2|exact hxz3|exact Qi hxz _ _) (first
        |(refine Kd.N_append_rows_step (Kd.slice 5 (Kd.int .u8)) (w0:=wy) wy.heap.size (by rfl) (.tmp 44) (.tmp 47) 60 22 (.slice none 0 0) 24 rfl Tryz.underlying60 qw rfl (by decide) (by omega) (.slice (some ⟨wy.heap.size,0,none⟩) 0 0) [] T1 _ T1.length cd (fun k_=>P0_ k_\/w.heap.size<=k_) (fun k_=>(P0_ k_\/w.heap.size<=k_)/\k_<wy.heap.size) rfl rfl (Kd.N_drew E0.out) (Kd.F_below HF1.out (zC (za (Below.refl wy.heap.size wy) _))) (fun k_ hk=>⟨hk.1,fun e_=>by simp[Value.ownBlock]at e_ <;> omega⟩) (fun k_ hk=>.inr (Nat.le_trans hwy (Nat.le_trans (ze (zC (za (Below.refl wy.heap.size wy) _))) hk))) (zC (za (Below.refl wy.heap.size wy) _)) (ze (zC (za (Below.refl wy.heap.size wy) _))) (by simp only[List.length_nil];omega) ?_;intro v48 w6 ho hb hg hat;have HN1:=Qk ho;have HB1:=Qk hb;clear ho hb hg hat)
        |(refine Kd.N_append_rows_step (Kd.slice 5 (Kd.int .u8)) (w0:=wy) wy.heap.size (by rfl) (.tmp 44) (.tmp 47) 60 22 (.slice none 0 0) 24 rfl Tryz.underlying60 qw rfl (by decide) (by omega) (.slice (some ⟨wy.heap.size,0,none⟩) 0 0) [] T1 _ T1.length cd (fun k_=>P0_ k_\/w.heap.size<=k_) (fun k_=>(P0_ k_\/w.heap.size<=k_)/\k_<wy.heap.size) rfl rfl (Kd.N_drew (Kd.N_alloc E0.out _)) (Kd.F_below HF1.out (zC (za (za (Below.refl wy.heap.size wy) _) _))) (fun k_ hk=>⟨hk.1,fun e_=>by simp[Value.ownBlock]at e_ <;> omega⟩) (fun k_ hk=>.inr (Nat.le_trans hwy (Nat.le_trans (ze (zC (za (za (Below.refl wy.heap.size wy) _) _))) hk))) (zC (za (za (Below.refl wy.heap.size wy) _) _)) (ze (zC (za (za (Below.refl wy.heap.size wy) _) _))) (by simp only[List.length_nil];omega) ?_;intro v48 w6 ho hb hg hat;have HN1:=Qk ho;have HB1:=Qk hb;have LN:=Qk (Kd.N_grown LAC.out hg (fun k_ hk e_=>by rcases hk with h_|h_ <;> simp[Value.ownBlock]at e_ <;> omega));have HNL:=Qk (show some (wy.heap.size+1)≠v48.ownBlock from fun e_=>by rcases hat with h_|⟨b_,h_,hle_⟩;(rw[h_]at e_;simp[Value.ownBlock]at e_ <;> omega);(rw[h_]at e_;injection e_ with e_;have hle_:((wy.alloc (.cells #[] 22)).alloc (.cells #[.slice At t.length ct] 22)).heap.size<=b_:=hle_;rw[qm,qm]at hle_;omega));clear ho hb hg hat)
        |(refine Kd.N_append_rows_step (Kd.slice 5 (Kd.int .u8)) (w0:=wy) wy.heap.size (by rfl) (.tmp 44) (.tmp 47) 60 22 (.slice none 0 0) 24 rfl Tryz.underlying60 qw rfl (by decide) (by omega) (.slice (some ⟨wy.heap.size+1,0,none⟩) 0 0) [] T1 _ T1.length cd (fun k_=>P0_ k_\/w.heap.size<=k_) (fun k_=>(P0_ k_\/w.heap.size<=k_)/\k_<wy.heap.size) rfl rfl (Kd.N_drew ECA.out) (Kd.F_below HF1.out (zC (za (za (Below.refl wy.heap.size wy) _) _))) (fun k_ hk=>⟨hk.1,fun e_=>by simp[Value.ownBlock]at e_ <;> omega⟩) (fun k_ hk=>.inr (Nat.le_trans hwy (Nat.le_trans (ze (zC (za (za (Below.refl wy.heap.size wy) _) _))) hk))) (zC (za (za (Below.refl wy.heap.size wy) _) _)) (ze (zC (za (za (Below.refl wy.heap.size wy) _) _))) (by simp only[List.length_nil];omega) ?_;intro v48 w6 ho hb hg hat;have HN1:=Qk ho;have HB1:=Qk hb;have LN:=Qk (Kd.N_grown LCA.out hg (fun k_ hk e_=>by rcases hk with h_|h_ <;> simp[Value.ownBlock]at e_ <;> omega));have HNL:=Qk (show some (wy.heap.size)≠v48.ownBlock from fun e_=>by rcases hat with h_|⟨b_,h_,hle_⟩;(rw[h_]at e_;simp[Value.ownBlock]at e_ <;> omega);(rw[h_]at e_;injection e_ with e_;have hle_:((wy.alloc (.cells #[.slice At t.length ct] 22)).alloc (.cells #[] 22)).heap.size<=b_:=hle_;rw[qm,qm]at hle_;omega));clear ho hb hg hat)
        |(refine Kd.N_append_rows_step (Kd.slice 5 (Kd.int .u8)) (w0:=wy) wy.heap.size (by rfl) (.tmp 48) (.tmp 53) 60 22 (.slice none 0 0) 24 rfl Tryz.underlying60 qw rfl (by decide) (by omega) v48 ([]++T1) [t] (some ⟨w6.heap.size,0,none⟩) 1 1 (fun k_=>P0_ k_\/w.heap.size<=k_) (fun k_=>k_=w6.heap.size\/P0_ k_/\k_<w.heap.size) rfl rfl (Kd.N_alloc HN1.out _) (Kd.N_F (qn (Kd.slice 5 (Kd.int .u8)) (W:=w6) wy.heap.size 22 (xs:=[t]) (inner:=[.slice At t.length ct]) (ok:=(fun k_=>k_=w6.heap.size\/P0_ k_/\k_<w.heap.size)) (okp:=fun k_=>P0_ k_/\k_<w.heap.size) (Reps.one (Kd.FK_slice_mk HL.out (Kd.F_below HFy.out HB1.out)) (Reps.none _ _)) (fun _ hk=>.inr hk) (.inl rfl) HB1.out.size (by simp))) (fun k_ hk=>by rcases hk with h_|h_;(refine⟨.inr (by have:=HB1.out.size;omega),fun e_=>?_⟩;subst h_;have:=Kd.N_lt HN1.out _ e_.symm;omega);exact⟨.inl h_.1,fun e_=>by have:=Kd.N_base HN1.out k_ e_.symm;omega⟩) (fun k_ hk=>.inr (Nat.le_trans hwy (Nat.le_trans (ze (HB1.out.alloc HB1.out.size (.cells #[.slice At t.length ct] 22))) hk))) (HB1.out.alloc HB1.out.size (.cells #[.slice At t.length ct] 22)) (ze (HB1.out.alloc HB1.out.size (.cells #[.slice At t.length ct] 22))) (by simp only[List.nil_append];omega) ?_;intro v54 w7 ho hb hg hat;have HN2:=Qk ho;have HB2:=Qk hb;clear ho hb hg hat)
        |(refine Kd.N_append_rows_step (Kd.slice 5 (Kd.int .u8)) (w0:=wy) wy.heap.size (by rfl) (.tmp 48) (.tmp 53) 60 22 (.slice none 0 0) 24 rfl Tryz.underlying60 qw rfl (by decide) (by omega) v48 ([]++T1) [t] (some ⟨wy.heap.size+1,0,none⟩) 1 1 (fun k_=>P0_ k_\/w.heap.size<=k_) (fun k_=>k_=wy.heap.size+1\/P0_ k_/\k_<w.heap.size) rfl rfl (HN1.out) (Kd.N_F LN.out) (fun k_ hk=>by rcases hk with h_|h_;(refine⟨.inr (by have:=HB1.out.size;omega),fun e_=>?_⟩;subst h_;exact HNL.out e_);exact⟨.inl h_.1,fun e_=>by have:=Kd.N_base HN1.out k_ e_.symm;omega⟩) (fun k_ hk=>.inr (Nat.le_trans hwy (Nat.le_trans (ze HB1.out) hk))) HB1.out (ze HB1.out) (by simp only[List.nil_append];omega) ?_;intro v54 w7 ho hb hg hat;have HN2:=Qk ho;have HB2:=Qk hb;clear ho hb hg hat)
        |(refine Kd.N_append_rows_step (Kd.slice 5 (Kd.int .u8)) (w0:=wy) wy.heap.size (by rfl) (.tmp 48) (.tmp 53) 60 22 (.slice none 0 0) 24 rfl Tryz.underlying60 qw rfl (by decide) (by omega) v48 ([]++T1) [t] (some ⟨wy.heap.size,0,none⟩) 1 1 (fun k_=>P0_ k_\/w.heap.size<=k_) (fun k_=>k_=wy.heap.size\/P0_ k_/\k_<w.heap.size) rfl rfl (HN1.out) (Kd.N_F LN.out) (fun k_ hk=>by rcases hk with h_|h_;(refine⟨.inr (by have:=HB1.out.size;omega),fun e_=>?_⟩;subst h_;exact HNL.out e_);exact⟨.inl h_.1,fun e_=>by have:=Kd.N_base HN1.out k_ e_.symm;omega⟩) (fun k_ hk=>.inr (Nat.le_trans hwy (Nat.le_trans (ze HB1.out) hk))) HB1.out (ze HB1.out) (by simp only[List.nil_append];omega) ?_;intro v54 w7 ho hb hg hat;have HN2:=Qk ho;have HB2:=Qk hb;clear ho hb hg hat)
        |(refine Kd.N_append_rows_step (Kd.slice 5 (Kd.int .u8)) (w0:=wy) wy.heap.size (by rfl) (.tmp 54) (.tmp 57) 60 22 (.slice none 0 0) 24 rfl Tryz.underlying60 qw rfl (by decide) (by omega) v54 ([]++T1++[t]) T2 _ T2.length (cd-q) (fun k_=>P0_ k_\/w.heap.size<=k_) (fun k_=>(P0_ k_\/w.heap.size<=k_)/\k_<wy.heap.size) rfl rfl HN2.out (Kd.F_below HF2.out HB2.out) (fun k_ hk=>⟨hk.1,fun e_=>by have:=Kd.N_base HN2.out k_ e_.symm;omega⟩) (fun k_ hk=>.inr (Nat.le_trans hwy (Nat.le_trans (ze HB2.out) hk))) HB2.out (ze HB2.out) (by simp only[List.nil_append,List.length_append,List.length_cons,List.length_nil];omega) ?_;intro v58 w8 ho hb hg hat;have HN3:=Qk ho;have HB3:=Qk hb;clear ho hb hg hat))
       all_goals go_wp2
       all_goals go_roundw
       all_goals first
        |exact⟨j+1,_,_,by omega,by go_num,rfl,AN,⟨Kd.N_lower HN3.out hwy⟩,⟨zi HBz.out HB3.out⟩⟩
        |(simp[intOf];omega)
      ·rw[if_neg hdl]at h;cases h
  ·obtain rfl:j=l0.length:=by omega
   have h:=H.out;rw[List.drop_length,zJ.l0]at h;obtain rfl:=Qp h;go_wp2;go_ret;exact⟨_,rfl,HN.out,HB.out⟩
def zE.l0:Nat->List (List Int)->List Int->Int->Option (Int×Bool)
 |0,_,_,_=>none
 |k+1,x0,x1,x6=>if x6<(x0.length:Int)then(if 0<=x6 then((qc.f (qX x0 x6) x1).bind fun t959=>(if t959=true then(some (x6,true))else(zE.l0 k x0 x1 (wrap64 (x6+1)))))else(none))else(some (0,false))
def zE.f(k:Nat)(l0:List (List Int))(l1:List Int):Option (Int×Bool):=zE.l0 k l0 l1 0
theorem zE.mono_l:∀ k,(∀ y0 y1 y2,LeO (zE.l0 k y0 y1 y2) (zE.l0 (k+1) y0 y1 y2))
 |0=>fun _ _ _ r h=>by simp[zE.l0]at h
 |k+1=>by
  have ih0:=zE.mono_l k
  ·intro y0 y1 y2;unfold zE.l0
   repeat' first
   |(with_reducible exact ih0 _ _ _)
   |(with_reducible exact LeO.refl _)
   |(with_reducible exact LeO.none _)
   |(with_reducible refine LeO.ite ?_ ?_)
   |(with_reducible refine LeO.bind ?_ (fun _=>?_))
   |exact ih0 _ _ _
   |exact LeO.none _
   |refine LeO.ite ?_ ?_
   |refine LeO.bind ?_ (fun _=>?_)
theorem zE.mono:∀ a0 a1 k,LeO (zE.f k a0 a1) (zE.f (k+1) a0 a1):=by
 intro a0 a1 k;have ih0:=zE.mono_l k;unfold zE.f
 repeat' first
  |(with_reducible exact ih0 _ _ _)
  |(with_reducible exact LeO.refl _)
  |(with_reducible exact LeO.none _)
  |(with_reducible refine LeO.ite ?_ ?_)
  |(with_reducible refine LeO.bind ?_ (fun _=>?_))
  |exact ih0 _ _ _
  |exact LeO.none _
  |refine LeO.ite ?_ ?_
  |refine LeO.bind ?_ (fun _=>?_)
theorem zE.calls(k:Nat)(A0:Option Addr)(c0:Nat)(l0:List (List Int))(A1:Option Addr)(c1:Nat)(l1:List Int)(r1:Int)(r2:Bool)(w:World)(hr0:Kd.C (Kd.slice 5 (Kd.int .u8)) w A0 l0.length l0)(hc0:l0.length<=c0)(hr1:Kd.C (Kd.int .u8) w A1 l1.length l1)(hc1:l1.length<=c1)(h:zE.f k l0 l1=some (r1,r2)) :
 Calls Tryz.prog 104 #[.slice A0 l0.length c0,.slice A1 l1.length c1] w fun e w'=>e=.returned (.tuple #[.int .i64 r1,.bool r2])/\Drawn0 w w':=by
 have HR0:=Qk hr0;have HC0:=Qk hc0;clear hr0 hc0;have HR1:=Qk hr1;have HC1:=Qk hc1;clear hr1 hc1;have H:(zE.l0 k l0 l1 0)=some (r1,r2):=h;clear h;have H':=Qk H;clear H;go_enter Tryz.func104,Tryz.ntmps104;go_wp2;go_loopg [6] k (fun kq v6 w'=>∃ (x6_1:Int),v6=.int .i64 x6_1/\Aside0 (zE.l0 kq l0 l1 x6_1=some (r1,r2))/\Aside0 (kq<=k)/\Drawn0 w w')
 case atStart=>exact⟨(0),rfl,H',⟨Nat.le_refl _⟩,by repeat(first|exact Drawn0.refl _|apply Drawn0.step)⟩
 case round =>
  clear H';obtain⟨x6_1,rfl,HA,HK1,⟨m1,rfl⟩⟩:=hrel
  cases gk with
  |zero=>exact absurd HA.out (by simp[zE.l0])
  |succ k1 =>
   have H:=HA.out;clear HA;simp only[zE.l0]at H;by_cases c3:x6_1<(l0.length:Int)
   ·rw[if_pos c3]at H;have c3b0:decide (x6_1<(l0.length:Int))=true:=Qm c3;clear c3;replace H:=ifSome H;obtain⟨c4,H⟩:=H;have c4b0:decide (0<=x6_1)=true:=Qm c4;clear c4;replace H:=Qo H;obtain⟨t959,A50,H⟩:=H;replace H:(if t959=true then(some (x6_1,true))else(zE.l0 k1 l0 l1 (wrap64 (x6_1+1))))=some (r1,r2):=H;have A5:=Qk A50;clear A50;by_cases c6:t959=true
    ·subst c6;have H1:(some (x6_1,true))=some (r1,r2):=by rw[if_pos rfl]at H;exact H
     clear H;have H:=H1;clear H1;simp only[Option.some.injEq,Prod.mk.injEq]at H;obtain⟨rfl,rfl⟩:=H;have p958:0<=(x6_1:Int):=Ql (by assumption);have q958:x6_1<(l0.length:Int):=Ql (by assumption);obtain⟨ad958,A958_0,c958_0,e958,hx958_0,hl958_0,hi958_0⟩:=at_L1 HR0.out x6_1 p958 q958
     cases e958;have HR958_0:=Qk hi958_0;have HC958_0:=Qk hl958_0;clear hi958_0 hl958_0;replace p958:=Qr p958;replace q958:=Qr q958;go_wp2_with (first|(go_at_call 103;(with_reducible refine(qc.calls _ _ (qX l0 x6_1) _ _ l1 true _ ?side1 ?side2 ?side3 ?side4 A5.out).mono ?_);(case side1=>exact HR958_0.out);(case side2=>exact HC958_0.out);(case side3=>exact HR1.out);(case side4=>exact HC1.out);rintro e w' ⟨rfl,⟨nd,rfl⟩⟩))
     go_ret2;exact⟨rfl,by repeat(first|exact Drawn0.refl _|apply Drawn0.step)⟩
    ·replace c6:=Bool.eq_false_iff.mpr c6;subst c6;have H1:(zE.l0 k1 l0 l1 (wrap64 (x6_1+1)))=some (r1,r2):=by rw[if_neg (show ¬ (false=true) by decide)]at H;exact H
     clear H;have H:=H1;clear H1;have H':=Qk H;clear H;have p958:0<=(x6_1:Int):=Ql (by assumption);have q958:x6_1<(l0.length:Int):=Ql (by assumption);obtain⟨ad958,A958_0,c958_0,e958,hx958_0,hl958_0,hi958_0⟩:=at_L1 HR0.out x6_1 p958 q958
     cases e958;have HR958_0:=Qk hi958_0;have HC958_0:=Qk hl958_0;clear hi958_0 hl958_0;replace p958:=Qr p958;replace q958:=Qr q958;go_wp2_with (first|(go_at_call 103;(with_reducible refine(qc.calls _ _ (qX l0 x6_1) _ _ l1 false _ ?side1 ?side2 ?side3 ?side4 A5.out).mono ?_);(case side1=>exact HR958_0.out);(case side2=>exact HC958_0.out);(case side3=>exact HR1.out);(case side4=>exact HC1.out);rintro e w' ⟨rfl,⟨nd,rfl⟩⟩))
     go_roundg k1
     case measure=>have:=HK1.out;omega
     case rel=>exact⟨(wrap64 (x6_1+1)),rfl,H',⟨by have:=HK1.out;omega⟩,by repeat(first|exact Drawn0.refl _|apply Drawn0.step)⟩
   ·rw[if_neg c3]at H;have c3b0:decide (x6_1<(l0.length:Int))=false:=Qn c3;clear c3;simp only[Option.some.injEq,Prod.mk.injEq]at H;obtain⟨rfl,rfl⟩:=H;go_wp2;go_ret2;exact⟨rfl,by repeat(first|exact Drawn0.refl _|apply Drawn0.step)⟩
def zx.l0:Nat->List (List Int)->List (List Int)->List Int->Int->Option (List Int×Bool)
 |0,_,_,_,_=>none
 |k+1,x0,x1,x6,x7=>if x7<(x1.length:Int)then(if 0<=x7 then((zE.f k x0 (qX x1 x7)).bind fun bt961=>(if bt961.2=true then(if x6.length<17592186044416 then(zx.l0 k x0 x1 (x6++[bt961.1]) (wrap64 (x7+1)))else(none))else(some (([]:List Int),false))))else(none))else(some (x6,true))
def zx.f(k:Nat)(l0:List (List Int))(l1:List (List Int)):Option (List Int×Bool):=zx.l0 k l0 l1 ([]:List Int) 0
theorem zx.mono_l:∀ k,(∀ y0 y1 y2 y3,LeO (zx.l0 k y0 y1 y2 y3) (zx.l0 (k+1) y0 y1 y2 y3))
 |0=>fun _ _ _ _ r h=>by simp[zx.l0]at h
 |k+1=>by
  have ih0:=zx.mono_l k
  ·intro y0 y1 y2 y3;unfold zx.l0
   repeat' first
   |(with_reducible exact ih0 _ _ _ _)
   |(with_reducible exact zE.mono _ _ _)
   |(with_reducible exact LeO.refl _)
   |(with_reducible exact LeO.none _)
   |(with_reducible refine LeO.ite ?_ ?_)
   |(with_reducible refine LeO.bind ?_ (fun _=>?_))
   |exact ih0 _ _ _ _
   |exact zE.mono _ _ _
   |exact LeO.none _
   |refine LeO.ite ?_ ?_
   |refine LeO.bind ?_ (fun _=>?_)
theorem zx.mono:∀ a0 a1 k,LeO (zx.f k a0 a1) (zx.f (k+1) a0 a1):=by
 intro a0 a1 k;have ih0:=zx.mono_l k;unfold zx.f
 repeat' first
  |(with_reducible exact ih0 _ _ _ _)
  |(with_reducible exact zE.mono _ _ _)
  |(with_reducible exact LeO.refl _)
  |(with_reducible exact LeO.none _)
  |(with_reducible refine LeO.ite ?_ ?_)
  |(with_reducible refine LeO.bind ?_ (fun _=>?_))
  |exact ih0 _ _ _ _
  |exact zE.mono _ _ _
  |exact LeO.none _
  |refine LeO.ite ?_ ?_
  |refine LeO.bind ?_ (fun _=>?_)
theorem zx.calls(k:Nat)(A0:Option Addr)(c0:Nat)(l0:List (List Int))(A1:Option Addr)(c1:Nat)(l1:List (List Int))(r1:List Int)(r2:Bool)(w:World)(hr0:Kd.C (Kd.slice 5 (Kd.int .u8)) w A0 l0.length l0)(hc0:l0.length<=c0)(hr1:Kd.C (Kd.slice 5 (Kd.int .u8)) w A1 l1.length l1)(hc1:l1.length<=c1)(h:zx.f k l0 l1=some (r1,r2)) :
 Calls Tryz.prog 57 #[.slice A0 l0.length c0,.slice A1 l1.length c1] w fun e w'=>∃ v0_:Value,e=.returned (.tuple #[v0_,.bool r2])/\Kd.R (Kd.int .i64) 3 w' w.heap.size (fun _=>True) v0_ r1/\Below w.heap.size w w':=by
 have HR0:=Qk hr0;have HC0:=Qk hc0;clear hr0 hc0;have HR1:=Qk hr1;have HC1:=Qk hc1;clear hr1 hc1;have HB:=Qk (Below.refl w.heap.size w);have H:(zx.l0 k l0 l1 ([]:List Int) 0)=some (r1,r2):=h;clear h;have H':=Qk H;clear H;go_enter Tryz.func57,Tryz.ntmps57;go_wp2;go_loopg [6,7] k (fun kq v6 v7 w'=>∃ (x6_1:List Int) (x7_1:Int),v7=.int .i64 x7_1/\Aside0 (zx.l0 kq l0 l1 x6_1 x7_1=some (r1,r2))/\Aside0 (kq<=k)/\Aside0 (Kd.R (Kd.int .i64) 3 w' w.heap.size (fun _=>True) v6 x6_1)/\Aside0 (Below w.heap.size w w'))
 case atStart=>exact⟨(([]:List Int)),(0),rfl,H',⟨Nat.le_refl _⟩,⟨by first|exact Kd.R_nil _ _ _ _ _|exact Kd.N_nil _ _ _ _ _|exact Kd.V_nil _ _ _ _ _|exact Kd.Q_nil _ _ _ _ _|exact Kd.S_nil _ _ _ _ _⟩,⟨HB.out⟩⟩
 case round =>
  clear H';obtain⟨x6_1,x7_1,rfl,HA,HK1,HO_6,HB⟩:=hrel
  cases gk with
  |zero=>exact absurd HA.out (by simp[zx.l0])
  |succ k1 =>
   have H:=HA.out;clear HA;simp only[zx.l0]at H;by_cases c3:x7_1<(l1.length:Int)
   ·rw[if_pos c3]at H;have c3b0:decide (x7_1<(l1.length:Int))=true:=Qm c3;clear c3;replace H:=ifSome H;obtain⟨c4,H⟩:=H;have c4b0:decide (0<=x7_1)=true:=Qm c4;clear c4;replace H:=Qo H;obtain⟨⟨t961,t962⟩,A50,H⟩:=H;replace H:(if t962=true then(if x6_1.length<17592186044416 then(zx.l0 k1 l0 l1 (x6_1++[t961]) (wrap64 (x7_1+1)))else(none))else(some (([]:List Int),false)))=some (r1,r2):=H;have A5:=Qk A50;clear A50;by_cases c6:t962=true
    ·subst c6;have H1:(if x6_1.length<17592186044416 then(zx.l0 k1 l0 l1 (x6_1++[t961]) (wrap64 (x7_1+1)))else(none))=some (r1,r2):=by rw[if_pos rfl]at H;exact H
     clear H;have H:=H1;clear H1;replace H:=ifSome H;obtain⟨c7,H⟩:=H;have LMc7:=Qk c7;clear c7;obtain⟨y963,hy963⟩:∃ y_:List Int,y_=(x6_1++[t961]):=⟨_,rfl⟩
     replace H:(zx.l0 k1 l0 l1 y963 (wrap64 (x7_1+1)))=some (r1,r2):=by first|(rw[hy963];with_reducible exact H)|(have H2_:=(Option.bind_some _ _).symm.trans H;rw[hy963];with_reducible exact H2_)|(have H2_:=(Option.bind_some _ _).symm.trans H;with_reducible exact H2_)|with_reducible exact H|(rw[hy963];exact H)|exact H
     have Ny963:=Qk hy963;clear hy963;have H':=Qk H;clear H;have p960:0<=(x7_1:Int):=Ql (by assumption);have q960:x7_1<(l1.length:Int):=Ql (by assumption);obtain⟨ad960,A960_0,c960_0,e960,hx960_0,hl960_0,hi960_0⟩:=at_L1 HR1.out x7_1 p960 q960
     cases e960;replace hx960_0:=(HB.out.cell (Qq w _ hx960_0)).trans hx960_0;have HR960_0:=Qk hi960_0;have HC960_0:=Qk hl960_0;clear hi960_0 hl960_0;replace p960:=Qr p960;replace q960:=Qr q960;go_wp2_with (first|(go_at_call 104;(with_reducible refine(zE.calls k1 _ _ l0 _ _ (qX l1 x7_1) t961 true _ ?side1 ?side2 ?side3 ?side4 A5.out).mono ?_);(case side1=>repeat(first|exact(Kd.C_below HR0.out HB.out)|(with_reducible refine Kd.C_alloc ?_ _)|(with_reducible refine Kd.C_drewN ?_ _)|(with_reducible refine Kd.C_drew ?_)));(case side2=>exact HC0.out);(case side3=>repeat(first|exact(Kd.C_below HR960_0.out HB.out)|(with_reducible refine Kd.C_alloc ?_ _)|(with_reducible refine Kd.C_drewN ?_ _)|(with_reducible refine Kd.C_drew ?_)));(case side4=>exact HC960_0.out);rintro e w' ⟨rfl,⟨nd,rfl⟩⟩)|((with_reducible refine zO (b:=.append) (xs:=#[.tmp 27,.tmp 29]) rfl ?_);at_builtin;refine Kd.R_append (Kd.int .i64) (w0:=w) w.heap.size rfl (.tmp 27) (.tmp 29) 25 3 (.int .i64 0) 8 rfl Tryz.underlying25 info3 rfl (by decide) (by omega) u6 x6_1 t961 [.int .i64 t961] (fun _=>True) (fun _=>False) rfl rfl ?aP (fun _ hk=>hk.elim) ?aF ?aO ?aB ?aS ?aL ?_;(case aP=>exact rfl);(case aB=>exact(by repeat(first|(with_reducible first|exact HB.out|apply za|apply zb|apply zg)|exact HB.out)));(case aF=>exact(fun _ _=>trivial));(case aO=>exact(by(with_reducible repeat(first|apply Kd.R_alloc|apply Kd.R_drewN|apply Kd.R_drew));exact HO_6.out));(case aS=>exact(ze (by repeat(first|(with_reducible first|exact HB.out|apply za|apply zb|apply zg)|exact HB.out))));(case aL=>have:=LMc7.out;omega);intro v964 w8 ho hb hg hat;rw[← Ny963.out]at ho;replace HB:=Qk (hb);have HO965:=Qk (ho);clear HO_6))
     go_roundg k1
     case measure=>have:=HK1.out;omega
     case rel=>exact⟨(y963),(wrap64 (x7_1+1)),rfl,H',⟨by have:=HK1.out;omega⟩,⟨HO965.out⟩,⟨HB.out⟩⟩
    ·replace c6:=Bool.eq_false_iff.mpr c6;subst c6;have H1:(some (([]:List Int),false))=some (r1,r2):=by rw[if_neg (show ¬ (false=true) by decide)]at H;exact H
     clear H;have H:=H1;clear H1;simp only[Option.some.injEq,Prod.mk.injEq]at H;obtain⟨rfl,rfl⟩:=H;have p960:0<=(x7_1:Int):=Ql (by assumption);have q960:x7_1<(l1.length:Int):=Ql (by assumption);obtain⟨ad960,A960_0,c960_0,e960,hx960_0,hl960_0,hi960_0⟩:=at_L1 HR1.out x7_1 p960 q960
     cases e960;replace hx960_0:=(HB.out.cell (Qq w _ hx960_0)).trans hx960_0;have HR960_0:=Qk hi960_0;have HC960_0:=Qk hl960_0;clear hi960_0 hl960_0;replace p960:=Qr p960;replace q960:=Qr q960;go_wp2_with (first|(go_at_call 104;(with_reducible refine(zE.calls k1 _ _ l0 _ _ (qX l1 x7_1) t961 false _ ?side1 ?side2 ?side3 ?side4 A5.out).mono ?_);(case side1=>repeat(first|exact(Kd.C_below HR0.out HB.out)|(with_reducible refine Kd.C_alloc ?_ _)|(with_reducible refine Kd.C_drewN ?_ _)|(with_reducible refine Kd.C_drew ?_)));(case side2=>exact HC0.out);(case side3=>repeat(first|exact(Kd.C_below HR960_0.out HB.out)|(with_reducible refine Kd.C_alloc ?_ _)|(with_reducible refine Kd.C_drewN ?_ _)|(with_reducible refine Kd.C_drew ?_)));(case side4=>exact HC960_0.out);rintro e w' ⟨rfl,⟨nd,rfl⟩⟩))
     go_ret2;exact⟨_,rfl,by first|exact Kd.R_nil _ _ _ _ _|exact Kd.N_nil _ _ _ _ _|exact Kd.V_nil _ _ _ _ _|exact Kd.Q_nil _ _ _ _ _|exact Kd.S_nil _ _ _ _ _,by repeat(first|(with_reducible first|exact HB.out|apply za|apply zb|apply zg)|exact HB.out)⟩
   ·rw[if_neg c3]at H;have c3b0:decide (x7_1<(l1.length:Int))=false:=Qn c3;clear c3;simp only[Option.some.injEq,Prod.mk.injEq]at H;obtain⟨rfl,rfl⟩:=H;go_wp2;go_ret2;exact⟨_,rfl,by(with_reducible repeat(first|apply Kd.R_alloc|apply Kd.R_drewN|apply Kd.R_drew));exact HO_6.out,HB.out⟩
def zY.f(k:Nat)(l0:List (List Int))(l1:List (List Int)):Option (List Int×List Int×Int):=(some (([]:List (List Int)):List (List Int))).bind fun y966=>(if y966.length+l0.length<5864062014805 then((some (y966++l0:List (List Int))).bind fun y969=>(if y969.length+l1.length<5864062014805 then((zJ.f k (y969++l1)).bind fun t975=>((zx.f k t975 l0).bind fun bt978=>((zx.f k t975 l1).bind fun bt982=>(some (bt978.1,bt982.1,(t975.length:Int))))))else(none)))else(none))
theorem zY.mono:∀ a0 a1 k,LeO (zY.f k a0 a1) (zY.f (k+1) a0 a1):=by
 intro a0 a1 k;unfold zY.f
 repeat' first
  |(with_reducible exact zx.mono _ _ _)
  |(with_reducible exact zJ.mono _ _)
  |(with_reducible exact LeO.refl _)
  |(with_reducible exact LeO.none _)
  |(with_reducible refine LeO.ite ?_ ?_)
  |(with_reducible refine LeO.bind ?_ (fun _=>?_))
  |exact zx.mono _ _ _
  |exact zJ.mono _ _
  |exact LeO.none _
  |refine LeO.ite ?_ ?_
  |refine LeO.bind ?_ (fun _=>?_)
theorem zY.calls(k:Nat)(P0_:Nat->Prop)(A0:Option Addr)(c0:Nat)(l0:List (List Int))(P1_:Nat->Prop)(A1:Option Addr)(c1:Nat)(l1:List (List Int))(r1:List Int)(r2:List Int)(r3:Int)(w:World)(hs0:Kd.V (Kd.slice 5 (Kd.int .u8)) 22 w w.heap.size (fun k_=>P0_ k_) (.slice A0 l0.length c0) l0)(hs1:Kd.V (Kd.slice 5 (Kd.int .u8)) 22 w w.heap.size (fun k_=>P1_ k_) (.slice A1 l1.length c1) l1)(h:zY.f k l0 l1=some (r1,r2,r3)) :
 Calls Tryz.prog 26 #[.slice A0 l0.length c0,.slice A1 l1.length c1] w fun e w'=>∃ v0_ v1_:Value,e=.returned (.tuple #[v0_,v1_,.int .i64 r3])/\Kd.R (Kd.int .i64) 3 w' w.heap.size (fun k_=>(w.heap.size<=k_)/\some k_≠(v1_:Value).ownBlock) v0_ r1/\Kd.R (Kd.int .i64) 3 w' w.heap.size (fun k_=>(w.heap.size<=k_)/\some k_≠(v0_:Value).ownBlock) v1_ r2/\Below w.heap.size w w':=by
 have HO0:=Qk (show Kd.V (Kd.slice 5 (Kd.int .u8)) 22 w w.heap.size (fun k_=>((P0_ k_\/P1_ k_)\/w.heap.size<=k_)) (.slice A0 l0.length c0) l0 from Kd.V_mono hs0 (fun k_ hk=>.inl (.inl hk)));have HO1:=Qk (show Kd.V (Kd.slice 5 (Kd.int .u8)) 22 w w.heap.size (fun k_=>((P0_ k_\/P1_ k_)\/w.heap.size<=k_)) (.slice A1 l1.length c1) l1 from Kd.V_mono hs1 (fun k_ hk=>.inl (.inr hk)));have HB:=Qk (Below.refl w.heap.size w);have H:((some (([]:List (List Int)):List (List Int))).bind fun y966=>(if y966.length+l0.length<5864062014805 then((some (y966++l0:List (List Int))).bind fun y969=>(if y969.length+l1.length<5864062014805 then((zJ.f k (y969++l1)).bind fun t975=>((zx.f k t975 l0).bind fun bt978=>((zx.f k t975 l1).bind fun bt982=>(some (bt978.1,bt982.1,(t975.length:Int))))))else(none)))else(none)))=some (r1,r2,r3):=h;clear h;obtain⟨y966,hy966⟩:∃ y_:List (List Int),y_=(([]:List (List Int))):=⟨_,rfl⟩
 replace H:(if y966.length+l0.length<5864062014805 then((some (y966++l0:List (List Int))).bind fun y969=>(if y969.length+l1.length<5864062014805 then((zJ.f k (y969++l1)).bind fun t975=>((zx.f k t975 l0).bind fun bt978=>((zx.f k t975 l1).bind fun bt982=>(some (bt978.1,bt982.1,(t975.length:Int))))))else(none)))else(none))=some (r1,r2,r3):=by first|(rw[hy966];with_reducible exact H)|(have H2_:=(Option.bind_some _ _).symm.trans H;rw[hy966];with_reducible exact H2_)|(have H2_:=(Option.bind_some _ _).symm.trans H;with_reducible exact H2_)|with_reducible exact H|(rw[hy966];exact H)|exact H
 have Ny966:=Qk hy966;clear hy966;replace H:=ifSome H;obtain⟨c3,H⟩:=H;have LMc3:=Qk c3;clear c3;obtain⟨y969,hy969⟩:∃ y_:List (List Int),y_=(y966++l0):=⟨_,rfl⟩
 replace H:(if y969.length+l1.length<5864062014805 then((zJ.f k (y969++l1)).bind fun t975=>((zx.f k t975 l0).bind fun bt978=>((zx.f k t975 l1).bind fun bt982=>(some (bt978.1,bt982.1,(t975.length:Int))))))else(none))=some (r1,r2,r3):=by first|(rw[hy969];with_reducible exact H)|(have H2_:=(Option.bind_some _ _).symm.trans H;rw[hy969];with_reducible exact H2_)|(have H2_:=(Option.bind_some _ _).symm.trans H;with_reducible exact H2_)|with_reducible exact H|(rw[hy969];exact H)|exact H
 have Ny969:=Qk hy969;clear hy969;replace H:=ifSome H;obtain⟨c4,H⟩:=H;have LMc4:=Qk c4;clear c4;obtain⟨y972,hy972⟩:∃ y_:List (List Int),y_=(y969++l1):=⟨_,rfl⟩
 replace H:((zJ.f k y972).bind fun t975=>((zx.f k t975 l0).bind fun bt978=>((zx.f k t975 l1).bind fun bt982=>(some (bt978.1,bt982.1,(t975.length:Int))))))=some (r1,r2,r3):=by first|(rw[hy972];with_reducible exact H)|(have H2_:=(Option.bind_some _ _).symm.trans H;rw[hy972];with_reducible exact H2_)|(have H2_:=(Option.bind_some _ _).symm.trans H;with_reducible exact H2_)|with_reducible exact H|(rw[hy972];exact H)|exact H
 have Ny972:=Qk hy972;clear hy972;replace H:=Qo H;obtain⟨t975,A50,H⟩:=H;replace H:((zx.f k t975 l0).bind fun bt978=>((zx.f k t975 l1).bind fun bt982=>(some (bt978.1,bt982.1,(t975.length:Int)))))=some (r1,r2,r3):=H;have A5:=Qk A50;clear A50;replace H:=Qo H;obtain⟨⟨t978,t979⟩,A60,H⟩:=H;replace H:((zx.f k t975 l1).bind fun bt982=>(some (t978,bt982.1,(t975.length:Int))))=some (r1,r2,r3):=H;have A6:=Qk A60;clear A60;replace H:=Qo H;obtain⟨⟨t982,t983⟩,A70,H⟩:=H;replace H:(some (t978,t982,(t975.length:Int)))=some (r1,r2,r3):=H;have A7:=Qk A70;clear A70;simp only[Option.some.injEq,Prod.mk.injEq]at H;obtain⟨rfl,rfl,rfl⟩:=H;go_enter Tryz.func26,Tryz.ntmps26;go_wp2_with (first|((with_reducible refine qf (N:=12) rfl ?_);refine Kd.N_lit (Kd.slice 5 (Kd.int .u8)) _ 22 ?hg (N':=12) ?hd (xs:=([]:List (List Int))) (inner:=[]) (ok:=(fun k_=>((P0_ k_\/P1_ k_)\/w.heap.size<=k_))) (okp:=(fun k_=>((P0_ k_\/P1_ k_)\/w.heap.size<=k_))) ?hr ?hp (fun _ hk=>hk) ((show ∀ k_,w.heap.size<=k_->(fun k_=>((P0_ k_\/P1_ k_)\/w.heap.size<=k_)) k_ from fun k_ hk=>(.inr (Nat.le_trans (ze HB.out) hk))) _ (Nat.le_refl _)) (Below.refl _ _) (Nat.le_refl _) (by simp) ?_;(case hd=>rfl);(case hg=>rfl);(case hr=>first|(go_simp;done)|(go_simp;rfl));(case hp=>exact(Reps.none _ _));intro v967 w8 ho9 hb hg_ hnew_;(first|rw[← Ny966.out]at ho9|(simp only[Int.reduceToNat]at ho9;rw[← Ny966.out]at ho9));have n0_:=Qk (Kd.V_elder' HO0.out (Kd.N_base ho9) hb);have n1_:=Qk (Kd.V_elder' HO1.out (Kd.N_base ho9) hb);have n2_:=Qk (Kd.N_lower ho9 (ze HB.out));have n3_:=Qk (zi HB.out hb);clear HO0;clear HO1;clear HB;have HO0:=n0_;have HO1:=n1_;have HO968:=n2_;have HB:=n3_;clear n0_ n1_ n2_ n3_)|((with_reducible refine zO (b:=.append) (xs:=#[.tmp 12,.tmp 13]) rfl ?_);at_builtin;refine Kd.N_append_rows (Kd.slice 5 (Kd.int .u8)) (w0:=w) w.heap.size rfl (.tmp 12) (.tmp 13) 60 22 (.slice none 0 0) 24 rfl Tryz.underlying60 info22 rfl (by decide) (by omega) v967 y966 l0 _ _ _ (fun k_=>((P0_ k_\/P1_ k_)\/w.heap.size<=k_)) (fun k_=>((fun k_=>((P0_ k_\/P1_ k_)\/w.heap.size<=k_))) k_/\some k_≠(v967:Value).ownBlock) rfl rfl ?aO ?aR (fun _ hk=>hk) ?aF ?aB ?aS ?aL ?_;(case aR=>exact(by skip;exact Kd.V_F (Kd.V_mono (ok':=(fun k_=>((fun k_=>((P0_ k_\/P1_ k_)\/w.heap.size<=k_))) k_/\some k_≠(v967:Value).ownBlock)) (HO0.out) (fun k_ hk=>⟨hk.1,hk.2⟩))));(case aB=>exact HB.out);(case aF=>exact(fun k_ hk=>(.inr (Nat.le_trans (ze HB.out) hk))));(case aO=>exact HO968.out);(case aS=>exact(ze HB.out));(case aL=>have:=LMc3.out;omega);intro v970 w10 ho hb hg hat;rw[← Ny969.out]at ho;have n0_:=Qk (Kd.V_afterv (ok:=(fun k_=>((P0_ k_\/P1_ k_)\/w.heap.size<=k_))) HO0.out hg hat);have n1_:=Qk (Kd.V_afterv (ok:=(fun k_=>((P0_ k_\/P1_ k_)\/w.heap.size<=k_))) HO1.out hg hat);have n2_:=Qk (hb);have n3_:=Qk (ho);clear HO0;clear HO1;clear HB;clear HO968;have HO0:=n0_;have HO1:=n1_;have HB:=n2_;have HO971:=n3_;clear n0_ n1_ n2_ n3_)|((with_reducible refine zO (b:=.append) (xs:=#[.tmp 14,.tmp 15]) rfl ?_);at_builtin;refine Kd.N_append_rows (Kd.slice 5 (Kd.int .u8)) (w0:=w) w.heap.size rfl (.tmp 14) (.tmp 15) 60 22 (.slice none 0 0) 24 rfl Tryz.underlying60 info22 rfl (by decide) (by omega) v970 y969 l1 _ _ _ (fun k_=>((P0_ k_\/P1_ k_)\/w.heap.size<=k_)) (fun k_=>((fun k_=>((P0_ k_\/P1_ k_)\/w.heap.size<=k_))) k_/\some k_≠(v970:Value).ownBlock) rfl rfl ?aO ?aR (fun _ hk=>hk) ?aF ?aB ?aS ?aL ?_;(case aR=>exact(by skip;exact Kd.V_F (Kd.V_mono (ok':=(fun k_=>((fun k_=>((P0_ k_\/P1_ k_)\/w.heap.size<=k_))) k_/\some k_≠(v970:Value).ownBlock)) (HO1.out) (fun k_ hk=>⟨hk.1,hk.2⟩))));(case aB=>exact HB.out);(case aF=>exact(fun k_ hk=>(.inr (Nat.le_trans (ze HB.out) hk))));(case aO=>exact HO971.out);(case aS=>exact(ze HB.out));(case aL=>have:=LMc4.out;omega);intro v973 w11 ho hb hg hat;rw[← Ny972.out]at ho;have n0_:=Qk (Kd.V_afterv (ok:=(fun k_=>((P0_ k_\/P1_ k_)\/w.heap.size<=k_))) HO0.out hg hat);have n1_:=Qk (Kd.V_afterv (ok:=(fun k_=>((P0_ k_\/P1_ k_)\/w.heap.size<=k_))) HO1.out hg hat);have n2_:=Qk (hb);have n3_:=Qk (ho);clear HO0;clear HO1;clear HB;clear HO971;have HO0:=n0_;have HO1:=n1_;have HB:=n2_;have HO974:=n3_;clear n0_ n1_ n2_ n3_;obtain⟨Ao12,co12,eo12⟩:=Kd.N_slice HO974.out;subst eo12)|(go_at_call 56;(with_reducible refine(zJ.calls k (fun k_=>((P0_ k_\/P1_ k_)\/w.heap.size<=k_)) _ _ y972 t975 _ ?side1 A5.out).mono ?_);(case side1=>exact Kd.N_V (HO974.out));rintro e w13 ⟨v976,rfl,ho0,hb⟩;have n0_:=Qk (Kd.V_elder' HO0.out (Kd.N_base ho0) hb);have n1_:=Qk (Kd.V_elder' HO1.out (Kd.N_base ho0) hb);have n2_:=Qk (Kd.N_elder' HO974.out (Kd.N_base ho0) hb);have n3_:=Qk (Kd.N_lower (Kd.N_mono (ok':=fun k_=>((P0_ k_\/P1_ k_)\/w.heap.size<=k_)) ho0 (fun k_ hk_=>Or.elim hk_ (fun hs_=>hs_) (fun hn_=>(.inr (Nat.le_trans (ze HB.out) hn_))))) (ze HB.out));have n4_:=Qk (zi HB.out hb);clear HO0;clear HO1;clear HO974;clear HB;have HO0:=n0_;have HO1:=n1_;have HO974:=n2_;have HO977:=n3_;have HB:=n4_;clear n0_ n1_ n2_ n3_ n4_;obtain⟨Ao14,co14,eo14⟩:=Kd.N_slice HO977.out;subst eo14)|(go_at_call 57;(with_reducible refine(zx.calls k _ _ t975 _ _ l0 t978 t979 _ ?side1 ?side2 ?side3 ?side4 A6.out).mono ?_);(case side1=>repeat(first|exact(Kd.N_reads' HO977.out).2.2|(with_reducible refine Kd.C_alloc ?_ _)|(with_reducible refine Kd.C_drewN ?_ _)|(with_reducible refine Kd.C_drew ?_)));(case side2=>exact(Kd.N_reads' HO977.out).2.1);(case side3=>repeat(first|exact(Kd.V_reads' HO0.out).2.2|(with_reducible refine Kd.C_alloc ?_ _)|(with_reducible refine Kd.C_drewN ?_ _)|(with_reducible refine Kd.C_drew ?_)));(case side4=>exact(Kd.V_reads' HO0.out).2.1);rintro e w15 ⟨v980,rfl,ho0,hb⟩;have n0_:=Qk (Kd.V_elder' HO0.out (Kd.R_base ho0) hb);have n1_:=Qk (Kd.V_elder' HO1.out (Kd.R_base ho0) hb);have n2_:=Qk (Kd.N_elder' HO974.out (Kd.R_base ho0) hb);have n3_:=Qk (Kd.N_elder' HO977.out (Kd.R_base ho0) hb);have n4_:=Qk (Kd.R_lower (Kd.R_newM (M:=fun k_=>(w.heap.size<=k_)) ho0 (ze HB.out) (fun k_ h_=>h_)) (ze HB.out));have n5_:=Qk (zi HB.out hb);clear HO0;clear HO1;clear HO974;clear HO977;clear HB;have HO0:=n0_;have HO1:=n1_;have HO974:=n2_;have HO977:=n3_;have HO981:=n4_;have HB:=n5_;clear n0_ n1_ n2_ n3_ n4_ n5_)|(go_at_call 57;(with_reducible refine(zx.calls k _ _ t975 _ _ l1 t982 t983 _ ?side1 ?side2 ?side3 ?side4 A7.out).mono ?_);(case side1=>repeat(first|exact(Kd.N_reads' HO977.out).2.2|(with_reducible refine Kd.C_alloc ?_ _)|(with_reducible refine Kd.C_drewN ?_ _)|(with_reducible refine Kd.C_drew ?_)));(case side2=>exact(Kd.N_reads' HO977.out).2.1);(case side3=>repeat(first|exact(Kd.V_reads' HO1.out).2.2|(with_reducible refine Kd.C_alloc ?_ _)|(with_reducible refine Kd.C_drewN ?_ _)|(with_reducible refine Kd.C_drew ?_)));(case side4=>exact(Kd.V_reads' HO1.out).2.1);rintro e w16 ⟨v984,rfl,ho0,hb⟩;have n0_:=Qk (Kd.V_elder' HO0.out (Kd.R_base ho0) hb);have n1_:=Qk (Kd.V_elder' HO1.out (Kd.R_base ho0) hb);have n2_:=Qk (Kd.N_elder' HO974.out (Kd.R_base ho0) hb);have n3_:=Qk (Kd.N_elder' HO977.out (Kd.R_base ho0) hb);have n4_:=Qk (Kd.R_elder' HO981.out (Kd.R_base ho0) hb);have n5_:=Qk (Kd.R_lower (Kd.R_new' (Kd.R_newM (M:=fun k_=>(w.heap.size<=k_)) ho0 (ze HB.out) (fun k_ h_=>h_)) (Kd.R_lt HO981.out)) (ze HB.out));have n6_:=Qk (zi HB.out hb);clear HO0;clear HO1;clear HO974;clear HO977;clear HO981;clear HB;have HO0:=n0_;have HO1:=n1_;have HO974:=n2_;have HO977:=n3_;have HO981:=n4_;have HO985:=n5_;have HB:=n6_;clear n0_ n1_ n2_ n3_ n4_ n5_ n6_))
 go_ret3
 exact⟨_,_,rfl,by(with_reducible repeat(first|apply Kd.R_alloc|apply Kd.R_drewN|apply Kd.R_drew));exact Kd.R_mono HO981.out (fun _ hk=>⟨hk.1.1,hk.2⟩),by(with_reducible repeat(first|apply Kd.R_alloc|apply Kd.R_drewN|apply Kd.R_drew));exact Kd.R_mono HO985.out (fun _ hk=>⟨hk.1.1,hk.2⟩),HB.out⟩
mutual
def zd.l0:Nat->List Int->List Int->List (List Int)->Int->Option ((List (List Int)))
 |0,_,_,_,_=>none
 |k+1,x0,x1,x5,x6=>if x6≥0 then(if 0<=(wrap64 ((x1.length:Int)+1))then(if (wrap64 ((x1.length:Int)+1):Int).toNat<=35184372088832 then(if 0<=x6 then(if x6<(x5.length:Int)then(zd.l1 k x0 x1 (x5.set (x6:Int).toNat (List.replicate (wrap64 ((x1.length:Int)+1):Int).toNat 0)) x6 (wrap64 ((x1.length:Int)-1)))else(none))else(none))else(none))else(none))else(some x5)
def zd.l1:Nat->List Int->List Int->List (List Int)->Int->Int->Option ((List (List Int)))
 |0,_,_,_,_,_=>none
 |k+1,x0,x1,x5,x6,x7=>if x6<(x0.length:Int)then(zd.j2 k x0 x1 x5 x6 x7 (decide (x7≥0)))else(zd.j2 k x0 x1 x5 x6 x7 false)
def zd.j2:Nat->List Int->List Int->List (List Int)->Int->Int->Bool->Option ((List (List Int)))
 |0,_,_,_,_,_,_=>none
 |k+1,x0,x1,x5,x6,x7,x35=>if x35=true then(if 0<=x6 then(if x6<(x0.length:Int)then(if 0<=x7 then(if x7<(x1.length:Int)then(if (rd x0 x6)=(rd x1 x7)then(if x6<(x5.length:Int)then(if 0<=(wrap64 (x6+1))then(if (wrap64 (x6+1))<(x5.length:Int)then(if 0<=(wrap64 (x7+1))then(if (wrap64 (x7+1))<((zD x5 (wrap64 (x6+1))).length:Int)then(if x7<((zD x5 x6).length:Int)then(zd.l1 k x0 x1 (x5.set (x6:Int).toNat ((zD x5 x6).set (x7:Int).toNat (wrap64 ((rd (zD x5 (wrap64 (x6+1))) (wrap64 (x7+1)))+1)))) x6 (wrap64 (x7-1)))else(none))else(none))else(none))else(none))else(none))else(none))else(if x6<(x5.length:Int)then(if 0<=(wrap64 (x6+1))then(if (wrap64 (x6+1))<(x5.length:Int)then(if x7<((zD x5 (wrap64 (x6+1))).length:Int)then(if 0<=(wrap64 (x7+1))then(if (wrap64 (x7+1))<((zD x5 x6).length:Int)then(if x7<((zD x5 x6).length:Int)then(zd.l1 k x0 x1 (x5.set (x6:Int).toNat ((zD x5 x6).set (x7:Int).toNat (mx (rd (zD x5 (wrap64 (x6+1))) x7) (rd (zD x5 x6) (wrap64 (x7+1)))))) x6 (wrap64 (x7-1)))else(none))else(none))else(none))else(none))else(none))else(none))else(none)))else(none))else(none))else(none))else(none))else(zd.l0 k x0 x1 x5 (wrap64 (x6-1)))
end
def zd.f(k:Nat)(l0:List Int)(l1:List Int):Option ((List (List Int))):=if 0<=(wrap64 ((l0.length:Int)+1))then(if (wrap64 ((l0.length:Int)+1):Int).toNat<=11728124029610 then(zd.l0 k l0 l1 (List.replicate (wrap64 ((l0.length:Int)+1):Int).toNat []) (l0.length:Int))else(none))else(none)
def zd.T9:Bool×List (List Nat×List Nat):=(true,[([],[]),([],[]),([0,1],[0,1]),([2],[2]),([],[]),([],[]),([4,5],[4,5]),([6],[6]),([3,7],[3,7])])
def zd.B9:List Nat:=[0,0,3,7,0,0,48,112,255]
theorem zd.tab9:rtab .any (opsOf Tryz.f60 9)=zd.T9:=by kernel_rfl
theorem zd.bits9:Zq zd.T9.2 zd.B9=true:=by kernel_rfl
def zd.T10:Bool×List (List Nat×List Nat):=(true,[([],[]),([],[]),([0,1],[0,1]),([2],[2]),([],[]),([],[]),([],[]),([6],[6]),([5,7],[5,7]),([8],[8]),([],[]),([10],[10]),([9,11],[9,11]),([12],[12]),([13],[13]),([3,4,0,1,2,3,4,5,6,7,8,9,10,11,12,13,14],[3,4]),([15,14,0,1,2,3,4,5,6,7,8,9,10,11,12,13,14],[14,15])])
def zd.B10:List Nat:=[0,0,3,7,0,0,0,64,224,480,0,1024,4064,8160,16352,32767,65535]
theorem zd.tab10:rtab .any (opsOf Tryz.f60 10)=zd.T10:=by kernel_rfl
theorem zd.bits10:Zq zd.T10.2 zd.B10=true:=by kernel_rfl
def zd.T11:Bool×List (List Nat×List Nat):=(true,[([],[]),([],[]),([0,1],[0,1]),([2],[2]),([],[]),([],[]),([],[]),([6],[6]),([5,7],[5,7]),([8],[8]),([],[]),([9,10],[9,10]),([11],[11]),([],[]),([],[]),([13,14],[13,14]),([15],[15]),([],[]),([17],[17]),([16,18],[16,18]),([19],[19]),([12,20],[12,20]),([3,4,0,1,2,3,4,5,6,7,8,9,10,11,12,13,14,15,16,17,18,19,20,21],[3,4]),([22,21,0,1,2,3,4,5,6,7,8,9,10,11,12,13,14,15,16,17,18,19,20,21],[21,22])])
def zd.B11:List Nat:=[0,0,3,7,0,0,0,64,224,480,0,2016,4064,0,0,24576,57344,0,131072,516096,1040384,2097120,4194303,8388607]
theorem zd.tab11:rtab .any (opsOf Tryz.f60 11)=zd.T11:=by kernel_rfl
theorem zd.bits11:Zq zd.T11.2 zd.B11=true:=by kernel_rfl
theorem zd.calls(k:Nat)(A0:Option Addr)(c0:Nat)(l0:List Int)(A1:Option Addr)(c1:Nat)(l1:List Int)(r:List (List Int))(w:World)(hr0:Kd.C (Kd.int .i64) w A0 l0.length l0)(hc0:l0.length<=c0)(hr1:Kd.C (Kd.int .i64) w A1 l1.length l1)(hc1:l1.length<=c1)(h:zd.f k l0 l1=some r) :
 Calls Tryz.prog 60 #[.slice A0 l0.length c0,.slice A1 l1.length c1] w fun e w'=>∃ v0_:Value,e=.returned (v0_)/\Kd.S (Kd.slice 3 (Kd.int .i64)) 25 w' w.heap.size (fun _=>True) v0_ r/\Below w.heap.size w w':=by
 have HR0:=Qk hr0;have HC0:=Qk hc0;clear hr0 hc0;have HR1:=Qk hr1;have HC1:=Qk hc1;clear hr1 hc1;have HB:=Qk (Below.refl w.heap.size w);have H:(if 0<=(wrap64 ((l0.length:Int)+1))then(if (wrap64 ((l0.length:Int)+1):Int).toNat<=11728124029610 then(zd.l0 k l0 l1 (List.replicate (wrap64 ((l0.length:Int)+1):Int).toNat []) (l0.length:Int))else(none))else(none))=some r:=h;clear h;obtain⟨ji3,hji3⟩:∃ j_:Int,(wrap64 ((l0.length:Int)+1))=j_:=⟨_,rfl⟩
 replace H:(if 0<=(ji3)then(if (ji3:Int).toNat<=11728124029610 then(zd.l0 k l0 l1 (List.replicate (ji3:Int).toNat []) (l0.length:Int))else(none))else(none))=some r:=by first|(rw[hji3]at H;exact H)|(simp only[hji3]at H ⊢;exact H)
 have hji3w:(IntKind.i64.wrap ((l0.length:Int)+1))=ji3:=(zp _).trans hji3;replace H:=ifSome H;obtain⟨c4,H⟩:=H;have c4b0:=Qr c4;have c4b1:decide (0<=(ji3))=true:=Qm c4;clear c4;replace H:=ifSome H;obtain⟨c5,H⟩:=H;have c5b0:=Qr c5;have c5b1:decide ((ji3:Int).toNat<=11728124029610)=true:=Qm c5;clear c5;obtain⟨y990,hy990⟩:∃ y_:List (List Int),y_=(List.replicate (ji3:Int).toNat []):=⟨_,rfl⟩
 replace H:(zd.l0 k l0 l1 y990 (l0.length:Int))=some r:=by first|(rw[hy990];with_reducible exact H)|(have H2_:=(Option.bind_some _ _).symm.trans H;rw[hy990];with_reducible exact H2_)|(have H2_:=(Option.bind_some _ _).symm.trans H;with_reducible exact H2_)|with_reducible exact H|(rw[hy990];exact H)|exact H
 have Ny990:=Qk hy990;clear hy990;have H':=Qk H;clear H;go_enter Tryz.func60,Tryz.ntmps60;go_wp2_with (first|((with_reducible refine qf (N:=11) rfl ?_);refine Kd.S_make (Kd.slice 3 (Kd.int .i64)) _ 25 rfl (N:=11) rfl 111 _ _ rfl ji3 rfl rfl Tryz.underlying111 (.slice none 0 0) 24 info25 rfl (by decide) (by omega) [] (ok:=fun _=>True) (okp:=fun _=>True) ⟨_,rfl,Kd.R_nil _ _ _ _ _⟩ (fun _ hk=>hk) trivial (Ql (by assumption)) (Nat.le_trans (Nat.mul_le_mul_right _ (Ql (by assumption):ji3.toNat<=11728124029610)) (by omega)) (Below.refl _ _) (Nat.le_refl _) ?_;intro v991 w6 ho7 hb hg_ hnew_;(first|rw[← Ny990.out]at ho7|(simp only[Int.reduceToNat]at ho7;rw[← Ny990.out]at ho7));have HO992:=Qk (Kd.S_lower ho7 (ze HB.out));replace HB:=Qk (zi HB.out hb)))
 go_loopg [6] k (fun kq v6 w'=>∃ (x5_1:List (List Int)) (x6_1:Int),v6=.int .i64 x6_1/\Aside0 (zd.l0 kq l0 l1 x5_1 x6_1=some r)/\Aside0 (kq<=k)/\Aside0 (Kd.S (Kd.slice 3 (Kd.int .i64)) 25 w' w.heap.size (fun _=>True) v991 x5_1)/\Aside0 (Below w.heap.size w w'))
 case atStart=>exact⟨(y990),((l0.length:Int)),rfl,H',⟨Nat.le_refl _⟩,⟨HO992.out⟩,⟨HB.out⟩⟩
 case round =>
  clear H';obtain⟨x5_1,x6_1,rfl,HA,HK1,HO_5,HB⟩:=hrel
  cases gk with
  |zero=>exact absurd HA.out (by simp[zd.l0])
  |succ k1 =>
   have H:=HA.out;clear HA;simp only[zd.l0]at H;by_cases c8:x6_1≥0
   ·rw[if_pos c8]at H;have c8b0:decide (0<=x6_1)=true:=Qm c8;clear c8;obtain⟨ji9,hji9⟩:∃ j_:Int,(wrap64 ((l1.length:Int)+1))=j_:=⟨_,rfl⟩
    replace H:(if 0<=(ji9)then(if (ji9:Int).toNat<=35184372088832 then(if 0<=x6_1 then(if x6_1<(x5_1.length:Int)then(zd.l1 k1 l0 l1 (x5_1.set (x6_1:Int).toNat (List.replicate (ji9:Int).toNat 0)) x6_1 (wrap64 ((l1.length:Int)-1)))else(none))else(none))else(none))else(none))=some r:=by first|(rw[hji9]at H;exact H)|(simp only[hji9]at H ⊢;exact H)
    have hji9w:(IntKind.i64.wrap ((l1.length:Int)+1))=ji9:=(zp _).trans hji9;replace H:=ifSome H;obtain⟨c10,H⟩:=H;have c10b0:=Qr c10;have c10b1:decide (0<=(ji9))=true:=Qm c10;clear c10;replace H:=ifSome H;obtain⟨c11,H⟩:=H;have c11b0:=Qr c11;have c11b1:decide ((ji9:Int).toNat<=35184372088832)=true:=Qm c11;clear c11;obtain⟨y993,hy993⟩:∃ y_:List Int,y_=(List.replicate (ji9:Int).toNat 0):=⟨_,rfl⟩
    replace H:(if 0<=x6_1 then(if x6_1<(x5_1.length:Int)then(zd.l1 k1 l0 l1 (x5_1.set (x6_1:Int).toNat y993) x6_1 (wrap64 ((l1.length:Int)-1)))else(none))else(none))=some r:=by first|(rw[hy993];with_reducible exact H)|(have H2_:=(Option.bind_some _ _).symm.trans H;rw[hy993];with_reducible exact H2_)|(have H2_:=(Option.bind_some _ _).symm.trans H;with_reducible exact H2_)|with_reducible exact H|(rw[hy993];exact H)|exact H
    have Ny993:=Qk hy993;clear hy993;replace H:=ifSome H;obtain⟨c12,H⟩:=H;have c12b0:decide (0<=x6_1)=true:=Qm c12;clear c12;replace H:=ifSome H;obtain⟨c13,H⟩:=H;have c13b0:decide (x6_1<(x5_1.length:Int))=true:=Qm c13;clear c13;obtain⟨y996,hy996⟩:∃ y_:List (List Int),y_=(x5_1.set (x6_1:Int).toNat y993):=⟨_,rfl⟩
    replace H:(zd.l1 k1 l0 l1 y996 x6_1 (wrap64 ((l1.length:Int)-1)))=some r:=by first|(rw[hy996];with_reducible exact H)|(have H2_:=(Option.bind_some _ _).symm.trans H;rw[hy996];with_reducible exact H2_)|(have H2_:=(Option.bind_some _ _).symm.trans H;with_reducible exact H2_)|with_reducible exact H|(rw[hy996];exact H)|exact H
    have Ny996:=Qk hy996;clear hy996;have H':=Qk H;clear H;go_wp2_with (first|((with_reducible refine qf (N:=23) rfl ?_);refine Kd.R_make (Kd.int .i64) _ 3 rfl (N:=23) rfl 25 _ _ rfl ji9 rfl rfl Tryz.underlying25 (.int .i64 0) 8 info3 rfl (by decide) (by omega) 0 (ok:=fun _=>True) (okp:=fun _=>True) rfl (fun _ hk=>hk) trivial (Ql (by first|(with_reducible assumption)|assumption)) (Nat.le_trans (Nat.mul_le_mul_right _ (Ql (by first|(with_reducible assumption)|assumption):ji9.toNat<=35184372088832)) (by omega)) (Below.refl _ _) (Nat.le_refl _) ?_;intro v994 w15 ho16 hb hg_ hnew_;(try clear hg_);(try clear hnew_);(first|rw[← Ny993.out]at ho16|(simp only[Int.reduceToNat]at ho16;rw[← Ny993.out]at ho16));replace HO_5:=Qk (Kd.S_elder' HO_5.out (Kd.R_base ho16) hb);have HO995:=Qk (Kd.R_lower ho16 (ze HB.out));replace HB:=Qk (zi HB.out hb);(try clear hb);(try clear ho16);have p14:0<=(x6_1:Int):=Ql (by first|(with_reducible assumption)|assumption);have q14:(x6_1:Int)<((x5_1.length:Int):Int):=Ql (by first|(with_reducible assumption)|assumption);obtain⟨go14,co14,eo14,gb14,gl14,cl14,HG14⟩:=Kd.S_form HO_5.out (by omega);(first|cases eo14|(injection eo14 with ea_ en_ ec_;(first|subst ea_|(injection ea_ with ea_;subst ea_));subst ec_;clear en_));have GB14:=Qk gb14;have GG14:=Qk HG14;clear gb14 gl14 HG14;obtain⟨_,ce14,hcl14,hM14,hcc14,hfr14,_,_⟩:=Kd.S_elem HO_5.out [] (x6_1:Int) p14 q14;obtain⟨ve14_0,rfl,ge14_0⟩:=hM14;have hx14_0:=hcc14 0 _ rfl;have hf14_0:=hfr14 0;(try simp only[show ((Kd.slice 3 (Kd.int .i64))).sz=1 from rfl,Nat.mul_one,Nat.add_zero]at hx14_0);(try simp only[show ((Kd.slice 3 (Kd.int .i64))).sz=1 from rfl,Nat.mul_one,Nat.add_zero]at hf14_0);(try clear hcl14);(try clear hcc14);(try clear hfr14);(try clear hM14);replace p14:=Qr p14;replace q14:=Qr q14;have n_:=Qk (Kd.S_mono (ok':=(fun k_=>some k_≠(v994:Value).ownBlock)) HO_5.out (fun k_ hk=>hk.2));clear HO_5;have HO_5:=n_;clear n_;have HX17:=Qk (show Kd.S (Kd.slice 3 (Kd.int .i64)) 25 w15 w.heap.size (fun k_=>((fun _=>True)) k_/\¬ ((fun k_=>some k_=(v994:Value).ownBlock)) k_) (.slice (some ⟨go14,0,none⟩) x5_1.length co14) x5_1 from(by(with_reducible repeat(first|apply Kd.S_alloc|apply Kd.S_drewN|apply Kd.S_drew));exact Kd.S_mono HO_5.out (fun k_ hk=>⟨trivial,fun e_=>hk e_⟩)));obtain⟨oki17,ce17,hcl17,hM17,hcc17,hfr17,hoki17,hH17⟩:=Kd.S_elem HX17.out [] (x6_1:Int) (Ql (by first|(with_reducible assumption)|assumption)) (by have h_:(x6_1:Int)<((x5_1.length:Int):Int):=Ql (by first|(with_reducible assumption)|assumption);first|exact h_|(have e_:=(Kd.S_reads' HO_5.out).1;omega)|simpa using h_);obtain⟨ve17_0,rfl,ge17_0⟩:=hM17;have HP17:=Kd.S_seg hH17 (Ql (by first|(with_reducible assumption)|assumption)) (by have h_:(x6_1:Int)<((x5_1.length:Int):Int):=Ql (by first|(with_reducible assumption)|assumption);first|exact h_|(have e_:=(Kd.S_reads' HO_5.out).1;omega)|simpa using h_) (seg:=[v994]) (j:=0) (show 1<=1 from by decide) (x':=y993) (Kd.M_row (Kd.R_mono (Kd.R_tight rfl (Kd.R_mono (ok':=fun k_=>((fun _=>True)) k_/\k_≠go14) (Kd.R_apart' (HO995.out) (Kd.S_typed HO_5.out) (by decide)) (fun k_ hk=>⟨trivial,fun e_=>(hk.2) (by rw[e_];rfl)⟩))) (fun _ h_=>Or.inr (h_)))) (fun _ hk=>hk) (fun k_ hk_=>((Kd.R_mono (ok':=fun k_=>((fun _=>True)) k_/\k_≠go14) (Kd.R_apart' (HO995.out) (Kd.S_typed HO_5.out) (by decide)) (fun k_ hk=>⟨trivial,fun e_=>(hk.2) (by rw[e_];rfl)⟩))).1 k_ hk_.symm);have hx17_0:=hcc17 0 _ rfl;(try simp only[show ((Kd.slice 3 (Kd.int .i64))).sz=1 from rfl,Nat.mul_one,Nat.add_zero]at hx17_0);have hf17_0:=hfr17 0;(try simp only[show ((Kd.slice 3 (Kd.int .i64))).sz=1 from rfl,Nat.mul_one,Nat.add_zero]at hf17_0);(try clear hcl17);(try clear hcc17);(try clear hfr17);(try clear hM17);(try clear hoki17);(try clear hH17);(try simp only[show ((Kd.slice 3 (Kd.int .i64))).sz=1 from rfl,Nat.mul_one,Nat.add_zero]at HP17))|((with_reducible refine gate_store (t:=25) (p:=24) rfl ?_);refine store_event (t:=25) (p:=24) (v:=?vo_w18) (w1:=(w15.setCell ⟨go14,(x6_1:Int).toNat,none⟩ (v994))) ?hg ?ho ?hn ?hr ?_;(case ho=>rfl);(case hg=>rfl);(case hn=>rfl);(case hr=>first|(go_simp;done)|(go_simp;rfl)|(obtain⟨A_,c_,e_⟩:=Kd.R_slice HO995.out;subst e_;go_simp;first|done|rfl));intro w18 hw;have hg:w15.grownBy w18 (some go14):=(by rw[hw];exact HP17.2);have hp_:Kd.S (Kd.slice 3 (Kd.int .i64)) 25 w18 w.heap.size (fun _=>True) (.slice (some ⟨go14,0,none⟩) x5_1.length co14) y996:=(by rw[hw,Ny996.out];exact HP17.1);clear HP17;replace HO_5:=Qk (hp_);replace HB:=Qk ((by rw[hw];exact zr (HB.out) GB14.out:Below w.heap.size w w18));clear HO995;(try clear hg);(try clear hw);(try clear hp_)))
    go_loopg [7] k1 (fun kq v7 w'=>∃ (x5_2:List (List Int)) (x7_2:Int),v7=.int .i64 x7_2/\Aside0 (zd.l1 kq l0 l1 x5_2 x6_1 x7_2=some r)/\Aside0 (kq<=k1)/\Aside0 (Kd.S (Kd.slice 3 (Kd.int .i64)) 25 w' w.heap.size (fun _=>True) (.slice (some ⟨go14,0,none⟩) x5_1.length co14) x5_2)/\Aside0 (Below w.heap.size w w'))
    case atStart=>exact⟨(y996),(wrap64 ((l1.length:Int)-1)),(by first|rfl|(simp;done)|(simp[*];done)),H',⟨Nat.le_refl _⟩,⟨HO_5.out⟩,⟨HB.out⟩⟩
    case round =>
     clear H';obtain⟨x5_2,x7_2,rfl,HA,HK2,HO_5,HB⟩:=hrel;have hl5_2:=(Kd.S_reads' HO_5.out).1;rw[hl5_2]at HO_5;(try simp only[hl5_2])
     cases gk with
     |zero=>exact absurd HA.out (by simp[zd.l1])
     |succ k2 =>
      have H:=HA.out;clear HA;simp only[zd.l1]at H;have HC19:=Qk H;clear H;go_upto_region 7 with(fail)
      go_cut [35] (fun v35 wc=>∃ (kq:Nat) (x35_18:Bool),v35=.bool x35_18/\Aside0 (zd.j2 kq l0 l1 x5_2 x6_1 x7_2 x35_18=some r)/\Aside0 (kq<=k2)/\Aside0 (Kd.S (Kd.slice 3 (Kd.int .i64)) 25 wc w.heap.size (fun _=>True) (.slice (some ⟨go14,0,none⟩) x5_2.length co14) x5_2)/\Aside0 (Below w.heap.size w wc))
      case first =>
       have H:=HC19.out;clear HC19;by_cases c20:x6_1<(l0.length:Int)
       ·rw[if_pos c20]at H;have c20b0:decide (x6_1<(l0.length:Int))=true:=Qm c20;try(have c20b0zhl5_2:=c20b0;rw[hl5_2]at c20b0zhl5_2)
        clear c20;(first|rw[c20b0]|(simp only[zp,zw];rw[c20b0])|skip);have H':=Qk H;clear H;go_wp2;go_meet
        case rel=>exact⟨_,(decide (x7_2≥0)),rfl,H',⟨by have:=HK1.out;have:=HK2.out;first|omega|exact Nat.le_refl _⟩,⟨by(try simp only[hl5_2]);(with_reducible repeat(first|apply Kd.S_alloc|apply Kd.S_drewN|apply Kd.S_drew));exact HO_5.out⟩,⟨HB.out⟩⟩
       ·rw[if_neg c20]at H;have c20b0:decide (x6_1<(l0.length:Int))=false:=Qn c20;try(have c20b0zhl5_2:=c20b0;rw[hl5_2]at c20b0zhl5_2)
        clear c20;(first|rw[c20b0]|(simp only[zp,zw];rw[c20b0])|skip);have H':=Qk H;clear H;go_wp2;go_meet
        case rel=>exact⟨_,(false),rfl,H',⟨by have:=HK1.out;have:=HK2.out;first|omega|exact Nat.le_refl _⟩,⟨by(try simp only[hl5_2]);(with_reducible repeat(first|apply Kd.S_alloc|apply Kd.S_drewN|apply Kd.S_drew));exact HO_5.out⟩,⟨HB.out⟩⟩
      case rest =>
       clear HC19;obtain⟨kq,x35_18,rfl,HA,HJ18,HO_5,HB⟩:=hcut
       cases kq with
       |zero=>exact absurd HA.out (by simp[zd.j2])
       |succ kj18 =>
        have H:=HA.out;clear HA;simp only[zd.j2]at H;by_cases c21:x35_18=true
        ·subst c21;have H1:(if 0<=x6_1 then(if x6_1<(l0.length:Int)then(if 0<=x7_2 then(if x7_2<(l1.length:Int)then(if (rd l0 x6_1)=(rd l1 x7_2)then(if x6_1<(x5_2.length:Int)then(if 0<=(wrap64 (x6_1+1))then(if (wrap64 (x6_1+1))<(x5_2.length:Int)then(if 0<=(wrap64 (x7_2+1))then(if (wrap64 (x7_2+1))<((zD x5_2 (wrap64 (x6_1+1))).length:Int)then(if x7_2<((zD x5_2 x6_1).length:Int)then(zd.l1 kj18 l0 l1 (x5_2.set (x6_1:Int).toNat ((zD x5_2 x6_1).set (x7_2:Int).toNat (wrap64 ((rd (zD x5_2 (wrap64 (x6_1+1))) (wrap64 (x7_2+1)))+1)))) x6_1 (wrap64 (x7_2-1)))else(none))else(none))else(none))else(none))else(none))else(none))else(if x6_1<(x5_2.length:Int)then(if 0<=(wrap64 (x6_1+1))then(if (wrap64 (x6_1+1))<(x5_2.length:Int)then(if x7_2<((zD x5_2 (wrap64 (x6_1+1))).length:Int)then(if 0<=(wrap64 (x7_2+1))then(if (wrap64 (x7_2+1))<((zD x5_2 x6_1).length:Int)then(if x7_2<((zD x5_2 x6_1).length:Int)then(zd.l1 kj18 l0 l1 (x5_2.set (x6_1:Int).toNat ((zD x5_2 x6_1).set (x7_2:Int).toNat (mx (rd (zD x5_2 (wrap64 (x6_1+1))) x7_2) (rd (zD x5_2 x6_1) (wrap64 (x7_2+1)))))) x6_1 (wrap64 (x7_2-1)))else(none))else(none))else(none))else(none))else(none))else(none))else(none)))else(none))else(none))else(none))else(none))=some r:=by rw[if_pos rfl]at H;exact H
         clear H;have H:=H1;clear H1;replace H:=ifSome H;obtain⟨c22,H⟩:=H;have c22b0:decide (0<=x6_1)=true:=Qm c22;clear c22;replace H:=ifSome H;obtain⟨c23,H⟩:=H;have c23b0:decide (x6_1<(l0.length:Int))=true:=Qm c23;try(have c23b0zhl5_2:=c23b0;rw[hl5_2]at c23b0zhl5_2)
         clear c23;replace H:=ifSome H;obtain⟨c24,H⟩:=H;have c24b0:decide (0<=x7_2)=true:=Qm c24;clear c24;replace H:=ifSome H;obtain⟨c25,H⟩:=H;have c25b0:decide (x7_2<(l1.length:Int))=true:=Qm c25;try(have c25b0zhl5_2:=c25b0;rw[hl5_2]at c25b0zhl5_2)
         clear c25;by_cases c26:(rd l0 x6_1)=(rd l1 x7_2)
         ·rw[if_pos c26]at H;have c26b0:((rd l0 x6_1) == (rd l1 x7_2))=true:=beq_iff_eq.mpr c26;have c26b1:((rd l0 x6_1) != (rd l1 x7_2))=false:=bne_eq_false_iff_eq.mpr c26;clear c26;replace H:=ifSome H;obtain⟨c27,H⟩:=H;have c27b0:decide (x6_1<(x5_2.length:Int))=true:=Qm c27;try(have c27b0zhl5_2:=c27b0;rw[hl5_2]at c27b0zhl5_2)
          clear c27;obtain⟨ji28,hji28⟩:∃ j_:Int,(wrap64 (x6_1+1))=j_:=⟨_,rfl⟩
          replace H:(if 0<=(ji28)then(if (ji28)<(x5_2.length:Int)then(if 0<=(wrap64 (x7_2+1))then(if (wrap64 (x7_2+1))<((zD x5_2 (ji28)).length:Int)then(if x7_2<((zD x5_2 x6_1).length:Int)then(zd.l1 kj18 l0 l1 (x5_2.set (x6_1:Int).toNat ((zD x5_2 x6_1).set (x7_2:Int).toNat (wrap64 ((rd (zD x5_2 (ji28)) (wrap64 (x7_2+1)))+1)))) x6_1 (wrap64 (x7_2-1)))else(none))else(none))else(none))else(none))else(none))=some r:=by first|(rw[hji28]at H;exact H)|(simp only[hji28]at H ⊢;exact H)
          have hji28w:(IntKind.i64.wrap (x6_1+1))=ji28:=(zp _).trans hji28;replace H:=ifSome H;obtain⟨c29,H⟩:=H;have c29b0:decide (0<=(ji28))=true:=Qm c29;clear c29;replace H:=ifSome H;obtain⟨c30,H⟩:=H;have c30b0:decide ((ji28)<(x5_2.length:Int))=true:=Qm c30;try(have c30b0zhl5_2:=c30b0;rw[hl5_2]at c30b0zhl5_2)
          clear c30;obtain⟨ji31,hji31⟩:∃ j_:Int,(wrap64 (x7_2+1))=j_:=⟨_,rfl⟩
          replace H:(if 0<=(ji31)then(if (ji31)<((zD x5_2 (ji28)).length:Int)then(if x7_2<((zD x5_2 x6_1).length:Int)then(zd.l1 kj18 l0 l1 (x5_2.set (x6_1:Int).toNat ((zD x5_2 x6_1).set (x7_2:Int).toNat (wrap64 ((rd (zD x5_2 (ji28)) (ji31))+1)))) x6_1 (wrap64 (x7_2-1)))else(none))else(none))else(none))=some r:=by first|(rw[hji31]at H;exact H)|(simp only[hji31]at H ⊢;exact H)
          have hji31w:(IntKind.i64.wrap (x7_2+1))=ji31:=(zp _).trans hji31;replace H:=ifSome H;obtain⟨c32,H⟩:=H;have c32b0:decide (0<=(ji31))=true:=Qm c32;clear c32;replace H:=ifSome H;obtain⟨c33,H⟩:=H;have c33b0:decide ((ji31)<((zD x5_2 (ji28)).length:Int))=true:=Qm c33;try(have c33b0zhl5_2:=c33b0;rw[hl5_2]at c33b0zhl5_2)
          clear c33;replace H:=ifSome H;obtain⟨c34,H⟩:=H;have c34b0:decide (x7_2<((zD x5_2 x6_1).length:Int))=true:=Qm c34;try(have c34b0zhl5_2:=c34b0;rw[hl5_2]at c34b0zhl5_2)
          clear c34;obtain⟨y1002,hy1002⟩:∃ y_:List Int,y_=((zD x5_2 x6_1).set (x7_2:Int).toNat (wrap64 ((rd (zD x5_2 (ji28)) (ji31))+1))):=⟨_,rfl⟩
          replace H:(zd.l1 kj18 l0 l1 (x5_2.set (x6_1:Int).toNat y1002) x6_1 (wrap64 (x7_2-1)))=some r:=by first|(rw[hy1002];with_reducible exact H)|(have H2_:=(Option.bind_some _ _).symm.trans H;rw[hy1002];with_reducible exact H2_)|(have H2_:=(Option.bind_some _ _).symm.trans H;with_reducible exact H2_)|with_reducible exact H|(rw[hy1002];exact H)|exact H
          have Ny1002:=Qk hy1002;clear hy1002;obtain⟨y1004,hy1004⟩:∃ y_:List (List Int),y_=(x5_2.set (x6_1:Int).toNat y1002):=⟨_,rfl⟩
          replace H:(zd.l1 kj18 l0 l1 y1004 x6_1 (wrap64 (x7_2-1)))=some r:=by first|(rw[hy1004];with_reducible exact H)|(have H2_:=(Option.bind_some _ _).symm.trans H;rw[hy1004];with_reducible exact H2_)|(have H2_:=(Option.bind_some _ _).symm.trans H;with_reducible exact H2_)|with_reducible exact H|(rw[hy1004];exact H)|exact H
          have Ny1004:=Qk hy1004;clear hy1004;have H':=Qk H;clear H;try go_wp2
          have n0_:=Qk (Kd.S_drew HO_5.out);have n1_:=Qk (zg HB.out);clear HO_5;clear HB;have HO_5:=n0_;have HB:=n1_;clear n0_ n1_;have p997:0<=(x6_1:Int):=Ql (by assumption);have q997:x6_1<(l0.length:Int):=Ql (by assumption);obtain⟨ad997,e997,hx997_0⟩:=Kd.at_int HR0.out x6_1 p997 q997;have hw997_0:=hx997_0
          cases e997;replace hx997_0:=(HB.out.cell (Qq w _ hx997_0)).trans hx997_0;replace p997:=Qr p997;replace q997:=Qr q997;have p998:0<=(x7_2:Int):=Ql (by assumption);have q998:x7_2<(l1.length:Int):=Ql (by assumption);obtain⟨ad998,e998,hx998_0⟩:=Kd.at_int HR1.out x7_2 p998 q998;have hw998_0:=hx998_0
          cases e998;replace hx998_0:=(HB.out.cell (Qq w _ hx998_0)).trans hx998_0;replace p998:=Qr p998;replace q998:=Qr q998;refine ZG (n:=9) (S:=fun w'=>w'.cell? (ad997.add (x6_1).toNat)=some (.int .i64 (rd l0 x6_1))/\w'.cell? (ad998.add (x7_2).toNat)=some (.int .i64 (rd l1 x7_2))) (ds:=[]) #[N,N,N,N,N,N,N,N,N] (by kernel_rfl) rfl rfl ⟨((HB.out.cell (Qq w _ hw997_0)).trans hw997_0),((HB.out.cell (Qq w _ hw998_0)).trans hw998_0)⟩ (fun hHeld=>?_);refine qR zd.tab9 zd.bits9 (fun HT_ HW_=>?_);generalize wc.drew=w36 at HO_5 HB hx997_0 hx998_0 hHeld ⊢;refine zG (i:=0) (N:=some 38) (v:=?_) (a':=?_) #[Y,N,N,N,N,N,N,N,N] rfl rfl (zu HT_.out (by kernel_rfl)) (fun _ _ _ h=>h) (Or.inl ⟨by rfl,?_⟩) ?_ ?_;rotate_left
          ·intro w';go_simp;with_reducible rfl
          rotate_left
          ·simp only[Act.put,sA,sB,sC,zp,zw];rfl
          refine zG (i:=1) (N:=some 39) (v:=?_) (a':=?_) #[Y,Y,N,N,N,N,N,N,N] rfl rfl (zu HT_.out (by kernel_rfl)) (fun _ _ _ h=>h) (Or.inl ⟨by rfl,?_⟩) ?_ ?_;rotate_left
          ·intro w';go_simp;with_reducible rfl
          rotate_left
          ·simp only[Act.put,sA,sB,sC,zp,zw];rfl
          refine zG (i:=2) (N:=some 40) (v:=?_) (a':=?_) #[Y,Y,Y,N,N,N,N,N,N] rfl rfl (zu HT_.out (by kernel_rfl)) (fun _ _ _ h=>h) (Or.inl ⟨by rfl,?_⟩) ?_ ?_;rotate_left
          ·intro w';go_simp;with_reducible rfl
          rotate_left
          ·simp only[Act.put,sA,sB,sC,zp,zw];rfl
          refine zG (i:=4) (N:=some 42) (v:=?_) (a':=?_) #[Y,Y,Y,N,Y,N,N,N,N] rfl rfl (zu HT_.out (by kernel_rfl)) (fun _ _ _ h=>h) (Or.inl ⟨by rfl,?_⟩) ?_ ?_;rotate_left
          ·intro w';go_simp;with_reducible rfl
          rotate_left
          ·simp only[Act.put,sA,sB,sC,zp,zw];rfl
          refine zG (i:=5) (N:=some 43) (v:=?_) (a':=?_) #[Y,Y,Y,N,Y,Y,N,N,N] rfl rfl (zu HT_.out (by kernel_rfl)) (fun _ _ _ h=>h) (Or.inl ⟨by rfl,?_⟩) ?_ ?_;rotate_left
          ·intro w';go_simp;with_reducible rfl
          rotate_left
          ·simp only[Act.put,sA,sB,sC,zp,zw];rfl
          refine zG (i:=6) (N:=some 44) (v:=?_) (a':=?_) #[Y,Y,Y,N,Y,Y,Y,N,N] rfl rfl (zu HT_.out (by kernel_rfl)) (fun _ _ _ h=>h) (Or.inl ⟨by rfl,?_⟩) ?_ ?_;rotate_left
          ·intro w';go_simp;with_reducible rfl
          rotate_left
          ·simp only[Act.put,sA,sB,sC,zp,zw];rfl
          refine take_ (i:=3) (N:=some 41) (v:=?_) (a':=?_) #[Y,Y,Y,Y,Y,Y,Y,N,N] rfl rfl (qe HT_.out HW_.out (by kernel_rfl)) (fun _ _ _ h=>h) (Or.inl ⟨by rfl,?_⟩) hHeld ?_ ?_;rotate_left
          ·rintro w' ⟨s0,s1⟩;go_simp;with_reducible rfl
          rotate_left
          ·simp only[Act.put,sA,sB,sC,zp,zw];rfl
          refine take_ (i:=7) (N:=some 45) (v:=?_) (a':=?_) #[Y,Y,Y,Y,Y,Y,Y,Y,N] rfl rfl (qe HT_.out HW_.out (by kernel_rfl)) (fun _ _ _ h=>h) (Or.inl ⟨by rfl,?_⟩) hHeld ?_ ?_;rotate_left
          ·rintro w' ⟨s0,s1⟩;go_simp;with_reducible rfl
          rotate_left
          ·simp only[Act.put,sA,sB,sC,zp,zw];rfl
          refine zG (i:=8) (N:=some 46) (v:=?_) (a':=?_) #[Y,Y,Y,Y,Y,Y,Y,Y,Y] rfl rfl (zu HT_.out (by kernel_rfl)) (fun _ _ _ h=>h) (Or.inl ⟨by rfl,?_⟩) ?_ ?_;rotate_left
          ·intro w';go_simp;with_reducible rfl
          rotate_left
          ·simp only[Act.put,sA,sB,sC,zp,zw];rfl
          refine done_ (Zr HT_.out (by kernel_rfl)) ?_;try go_wp2
          have n0_:=Qk (Kd.S_drew HO_5.out);have n1_:=Qk (zg HB.out);clear HO_5;clear HB;have HO_5:=n0_;have HB:=n1_;clear n0_ n1_;have p999:0<=(x6_1:Int):=Ql (by assumption);have q999:x6_1<(x5_2.length:Int):=Ql (by assumption);try(obtain⟨Ap999,cp999,ep999⟩:=Kd.S_slice HO_5.out;subst ep999)
          obtain⟨ad999,A999_0,c999_0,e999,hx999_0,hl999_0,hi999_0⟩:=Qj (Kd.S_reads' HO_5.out).2.2 x6_1 p999 q999;obtain rfl:(⟨go14,0,none⟩:Addr)=ad999:=(by injection e999);obtain⟨ce999,hce999,hMe999,hcc999⟩:=Kd.S_get HO_5.out [] x6_1 p999 (by first|exact q999|exact Ql (by assumption)|(have e_:=(Kd.S_reads' HO_5.out).1;omega));obtain⟨ve999_0,rfl,ge999_0⟩:=hMe999;have hv999_0:=hcc999 0 _ rfl;rw[Nat.add_zero,show ((Kd.slice 3 (Kd.int .i64))).sz=1 from rfl,Nat.mul_one]at hv999_0
          replace hv999_0:=Qp (hv999_0.symm.trans hx999_0);rw[hv999_0]at ge999_0;have HL999_0:=Qk (show Kd.R (Kd.int .i64) 3 _ _ _ _ (zD x5_2 x6_1)from ge999_0);clear hv999_0 ge999_0;have HX999_0:=Qk hx999_0;clear hcc999 hce999;(first|simp only[qy]at hx999_0|simp only[add_at]at hx999_0|simp only[Addr.add,Nat.zero_add]at hx999_0|skip);have HR999_0:=Qk hi999_0;have HC999_0:=Qk hl999_0;clear hi999_0 hl999_0;replace p999:=Qr p999;replace q999:=Qr q999;have p1000:0<=((ji28):Int):=Ql (by assumption);have q1000:(ji28)<(x5_2.length:Int):=Ql (by assumption);try(obtain⟨Ap1000,cp1000,ep1000⟩:=Kd.S_slice HO_5.out;subst ep1000)
          obtain⟨ad1000,A1000_0,c1000_0,e1000,hx1000_0,hl1000_0,hi1000_0⟩:=Qj (Kd.S_reads' HO_5.out).2.2 (ji28) p1000 q1000;obtain rfl:(⟨go14,0,none⟩:Addr)=ad1000:=(by injection e1000);obtain⟨ce1000,hce1000,hMe1000,hcc1000⟩:=Kd.S_get HO_5.out [] (ji28) p1000 (by first|exact q1000|exact Ql (by assumption)|(have e_:=(Kd.S_reads' HO_5.out).1;omega));obtain⟨ve1000_0,rfl,ge1000_0⟩:=hMe1000;have hv1000_0:=hcc1000 0 _ rfl;rw[Nat.add_zero,show ((Kd.slice 3 (Kd.int .i64))).sz=1 from rfl,Nat.mul_one]at hv1000_0
          replace hv1000_0:=Qp (hv1000_0.symm.trans hx1000_0);rw[hv1000_0]at ge1000_0;have HL1000_0:=Qk (show Kd.R (Kd.int .i64) 3 _ _ _ _ (zD x5_2 (ji28))from ge1000_0);clear hv1000_0 ge1000_0;have HX1000_0:=Qk hx1000_0;clear hcc1000 hce1000;(first|simp only[qy]at hx1000_0|simp only[add_at]at hx1000_0|simp only[Addr.add,Nat.zero_add]at hx1000_0|skip);have HR1000_0:=Qk hi1000_0;have HC1000_0:=Qk hl1000_0;clear hi1000_0 hl1000_0;replace p1000:=Qr p1000;replace q1000:=Qr q1000;have p1001:0<=((ji31):Int):=Ql (by assumption);have q1001:(ji31)<((zD x5_2 (ji28)).length:Int):=Ql (by assumption);obtain⟨ad1001,e1001,hx1001_0⟩:=Kd.at_int (by repeat(first|(with_reducible exact HR1000_0.out)|(with_reducible refine Kd.C_alloc ?_ _)|(with_reducible refine Kd.C_drewN ?_ _)|(with_reducible refine Kd.C_drew ?_)|exact HR1000_0.out)) (ji31) p1001 q1001
          cases e1001;replace p1001:=Qr p1001;replace q1001:=Qr q1001;have p35:0<=(x7_2:Int):=Ql (by assumption);have q35:(x7_2:Int)<(((zD x5_2 x6_1).length:Int):Int):=Ql (by assumption);obtain⟨go35,co35,eo35,gb35,gl35,cl35,HG35⟩:=Kd.R_form HL999_0.out (by omega);(first|cases eo35|(injection eo35 with ea_ en_ ec_;(first|subst ea_|(injection ea_ with ea_;subst ea_));subst ec_;clear en_));have GB35:=Qk gb35;have GG35:=Qk HG35;clear gb35 gl35 HG35;obtain⟨hx35_0,hf35_0⟩:=Kd.R_celln 0 HL999_0.out (x7_2:Int) p35 q35;replace p35:=Qr p35;replace q35:=Qr q35;have hq38:(x6_1:Int)<(x5_2.length:Int):=(by have h_:(x6_1:Int)<((x5_2.length:Int):Int):=Ql (by assumption);first|exact h_|(have e_:=(Kd.S_reads' HO_5.out).1;omega)|simpa only[List.length_set,List.length_set]using h_);obtain⟨oki38,ce38,hcl38,hM38,hcc38,hok38,hbk38⟩:=Kd.S_borrow HO_5.out [] (x6_1:Int) (Ql (by assumption)) hq38;obtain⟨ve38_0,rfl,ge38_0⟩:=hM38;have hv38:=hcc38 0 _ rfl;rw[Nat.add_zero,show ((Kd.slice 3 (Kd.int .i64))).sz=1 from rfl,Nat.mul_one]at hv38
          replace hv38:=Qp (hv38.symm.trans HX999_0.out);subst hv38;clear hcc38 hcl38;replace ge38_0:=(show Kd.R (Kd.int .i64) 3 _ _ _ _ (zD x5_2 x6_1)from ge38_0);have HP38:=Kd.R_putg ge38_0 (x7_2:Int) (wrap64 ((rd (zD x5_2 (ji28)) (ji31))+1));rw[← Ny1002.out]at HP38;have HS38:=hbk38 HP38.2 (fun k_ e_=>by injection e_ with e_;subst e_;exact ge38_0.1 _ rfl) (x':=y1002) (Kd.M_row HP38.1);rw[← Ny1004.out]at HS38;have HQ38:=Qk HS38;clear HP38 HS38 hbk38 hok38;refine ZG (n:=17) (S:=fun w'=>w'.cell? ⟨go14,(x6_1).toNat,none⟩=some (.slice (some ⟨go35,0,none⟩) (zD x5_2 x6_1).length c999_0)/\w'.cell? ⟨go14,((ji28)).toNat,none⟩=some (.slice (some ad1001) (zD x5_2 (ji28)).length c1000_0)/\w'.cell? (ad1001.add ((ji31)).toNat)=some (.int .i64 (rd (zD x5_2 (ji28)) (ji31)))) (ds:=[16]) #[N,N,N,N,N,N,N,N,N,N,N,N,N,N,N,N,N] (by kernel_rfl) rfl rfl ⟨hx999_0,hx1000_0,hx1001_0⟩ (fun hHeld=>?_);refine qR zd.tab10 zd.bits10 (fun HT_ HW_=>?_);generalize w36.drew=w37 at HO_5 HB GG35 HL1000_0 HL999_0 HQ38 HR1000_0 HR999_0 HX1000_0 HX999_0 hf35_0 hx1000_0 hx1001_0 hx35_0 hx999_0 hHeld ⊢;refine zG (i:=0) (N:=some 47) (v:=?_) (a':=?_) #[Y,N,N,N,N,N,N,N,N,N,N,N,N,N,N,N,N] rfl rfl (zu HT_.out (by kernel_rfl)) (fun _ _ _ h=>h) (Or.inl ⟨by rfl,?_⟩) ?_ ?_;rotate_left
          ·intro w';go_simp;with_reducible rfl
          rotate_left
          ·simp only[Act.put,sA,sB,sC,zp,zw];rfl
          refine zG (i:=1) (N:=some 48) (v:=?_) (a':=?_) #[Y,Y,N,N,N,N,N,N,N,N,N,N,N,N,N,N,N] rfl rfl (zu HT_.out (by kernel_rfl)) (fun _ _ _ h=>h) (Or.inl ⟨by rfl,?_⟩) ?_ ?_;rotate_left
          ·intro w';go_simp;with_reducible rfl
          rotate_left
          ·simp only[Act.put,sA,sB,sC,zp,zw];rfl
          refine zG (i:=2) (N:=some 49) (v:=?_) (a':=?_) #[Y,Y,Y,N,N,N,N,N,N,N,N,N,N,N,N,N,N] rfl rfl (zu HT_.out (by kernel_rfl)) (fun _ _ _ h=>h) (Or.inl ⟨by rfl,?_⟩) ?_ ?_;rotate_left
          ·intro w';go_simp;with_reducible rfl
          rotate_left
          ·simp only[Act.put,sA,sB,sC,zp,zw];rfl
          refine zG (i:=4) (N:=some 51) (v:=?_) (a':=?_) #[Y,Y,Y,N,Y,N,N,N,N,N,N,N,N,N,N,N,N] rfl rfl (zu HT_.out (by kernel_rfl)) (fun _ _ _ h=>h) (Or.inl ⟨by rfl,?_⟩) ?_ ?_;rotate_left
          ·intro w';go_simp;with_reducible rfl
          rotate_left
          ·simp only[Act.put,sA,sB,sC,zp,zw];rfl
          refine zG (i:=5) (N:=some 52) (v:=?_) (a':=?_) #[Y,Y,Y,N,Y,Y,N,N,N,N,N,N,N,N,N,N,N] rfl rfl (zu HT_.out (by kernel_rfl)) (fun _ _ _ h=>h) (Or.inl ⟨by rfl,?_⟩) ?_ ?_;rotate_left
          ·intro w';go_simp;with_reducible rfl
          rotate_left
          ·simp only[Act.put,sA,sB,sC,zp,zw];rfl
          refine zG (i:=6) (N:=some 53) (v:=?_) (a':=?_) #[Y,Y,Y,N,Y,Y,Y,N,N,N,N,N,N,N,N,N,N] rfl rfl (zu HT_.out (by kernel_rfl)) (fun _ _ _ h=>h) (Or.inl ⟨by rfl,?_⟩) ?_ ?_;rotate_left
          ·intro w';go_simp;with_reducible rfl
          rotate_left
          ·simp only[Act.put,sA,sB,sC,zp,zw];rfl
          refine zG (i:=7) (N:=some 54) (v:=?_) (a':=?_) #[Y,Y,Y,N,Y,Y,Y,Y,N,N,N,N,N,N,N,N,N] rfl rfl (zu HT_.out (by kernel_rfl)) (fun _ _ _ h=>h) (Or.inl ⟨by rfl,?_⟩) ?_ ?_;rotate_left
          ·intro w';go_simp;with_reducible rfl
          rotate_left
          ·simp only[Act.put,sA,sB,sC,zp,zw];rfl
          refine zG (i:=8) (N:=some 55) (v:=?_) (a':=?_) #[Y,Y,Y,N,Y,Y,Y,Y,Y,N,N,N,N,N,N,N,N] rfl rfl (zu HT_.out (by kernel_rfl)) (fun _ _ _ h=>h) (Or.inl ⟨by rfl,?_⟩) ?_ ?_;rotate_left
          ·intro w';go_simp;with_reducible rfl
          rotate_left
          ·simp only[Act.put,sA,sB,sC,zp,zw];rfl
          refine zG (i:=10) (N:=some 57) (v:=?_) (a':=?_) #[Y,Y,Y,N,Y,Y,Y,Y,Y,N,Y,N,N,N,N,N,N] rfl rfl (zu HT_.out (by kernel_rfl)) (fun _ _ _ h=>h) (Or.inl ⟨by rfl,?_⟩) ?_ ?_;rotate_left
          ·intro w';go_simp;with_reducible rfl
          rotate_left
          ·simp only[Act.put,sA,sB,sC,zp,zw];rfl
          refine zG (i:=11) (N:=some 58) (v:=?_) (a':=?_) #[Y,Y,Y,N,Y,Y,Y,Y,Y,N,Y,Y,N,N,N,N,N] rfl rfl (zu HT_.out (by kernel_rfl)) (fun _ _ _ h=>h) (Or.inl ⟨by rfl,?_⟩) ?_ ?_;rotate_left
          ·intro w';go_simp;with_reducible rfl
          rotate_left
          ·simp only[Act.put,sA,sB,sC,zp,zw];rfl
          refine take_ (i:=3) (N:=some 50) (v:=?_) (a':=?_) #[Y,Y,Y,Y,Y,Y,Y,Y,Y,N,Y,Y,N,N,N,N,N] rfl rfl (qe HT_.out HW_.out (by kernel_rfl)) (fun _ _ _ h=>h) (Or.inl ⟨by rfl,?_⟩) hHeld ?_ ?_;rotate_left
          ·rintro w' ⟨s0,s1,s2⟩;go_simp;with_reducible rfl
          rotate_left
          ·simp only[Act.put,sA,sB,sC,zp,zw];rfl
          refine take_ (i:=9) (N:=some 56) (v:=?_) (a':=?_) #[Y,Y,Y,Y,Y,Y,Y,Y,Y,Y,Y,Y,N,N,N,N,N] rfl rfl (qe HT_.out HW_.out (by kernel_rfl)) (fun _ _ _ h=>h) (Or.inl ⟨by rfl,?_⟩) hHeld ?_ ?_;rotate_left
          ·rintro w' ⟨s0,s1,s2⟩;go_simp;with_reducible rfl
          rotate_left
          ·simp only[Act.put,sA,sB,sC,zp,zw];rfl
          refine zG (i:=12) (N:=some 59) (v:=?_) (a':=?_) #[Y,Y,Y,Y,Y,Y,Y,Y,Y,Y,Y,Y,Y,N,N,N,N] rfl rfl (zu HT_.out (by kernel_rfl)) (fun _ _ _ h=>h) (Or.inl ⟨by rfl,?_⟩) ?_ ?_;rotate_left
          ·intro w';go_simp;with_reducible rfl
          rotate_left
          ·simp only[Act.put,sA,sB,sC,zp,zw];rfl
          refine take_ (i:=13) (N:=some 60) (v:=?_) (a':=?_) #[Y,Y,Y,Y,Y,Y,Y,Y,Y,Y,Y,Y,Y,Y,N,N,N] rfl rfl (qe HT_.out HW_.out (by kernel_rfl)) (fun _ _ _ h=>h) (Or.inl ⟨by rfl,?_⟩) hHeld ?_ ?_;rotate_left
          ·rintro w' ⟨s0,s1,s2⟩;go_simp;with_reducible rfl
          rotate_left
          ·simp only[Act.put,sA,sB,sC,zp,zw];rfl
          refine zG (i:=14) (N:=some 61) (v:=?_) (a':=?_) #[Y,Y,Y,Y,Y,Y,Y,Y,Y,Y,Y,Y,Y,Y,Y,N,N] rfl rfl (zu HT_.out (by kernel_rfl)) (fun _ _ _ h=>h) (Or.inl ⟨by rfl,?_⟩) ?_ ?_;rotate_left
          ·intro w';go_simp;with_reducible rfl
          rotate_left
          ·simp only[Act.put,sA,sB,sC,zp,zw];rfl
          refine zG (i:=15) (N:=some 62) (v:=?_) (a':=?_) #[Y,Y,Y,Y,Y,Y,Y,Y,Y,Y,Y,Y,Y,Y,Y,Y,N] rfl rfl (zu HT_.out (by kernel_rfl)) (fun _ _ _ h=>h) (Or.inl ⟨by rfl,?_⟩) ?_ ?_;rotate_left
          ·intro w';go_simp;with_reducible rfl
          rotate_left
          ·simp only[Act.put,sA,sB,sC,zp,zw];rfl
          refine last_ (i:=16) (N:=none) #[Y,Y,Y,Y,Y,Y,Y,Y,Y,Y,Y,Y,Y,Y,Y,Y,Y] rfl rfl (one_of HT_.out (by kernel_rfl)) (by decide) (fun K hK=>?_);refine skip_ (w1:=?_) (by rfl) rfl ?_ ?_;rotate_left
          ·go_simp;rfl
          refine hK.out _ _ ?_;clear hK K;refine done_ (Zr HT_.out (by kernel_rfl)) ?_;try go_wp2
          (try simp only[← hl5_2]);go_roundg kj18
          case measure=>have:=HK1.out;have:=HK2.out;have:=HJ18.out;omega
          case rel=>exact⟨(y1004),(wrap64 (x7_2-1)),rfl,H',⟨by have:=HK1.out;have:=HK2.out;have:=HJ18.out;omega⟩,⟨by(try simp only[hl5_2]);(with_reducible repeat(first|apply Kd.S_alloc|apply Kd.S_drewN|apply Kd.S_drew));exact HQ38.out⟩,⟨by repeat(first|(with_reducible first|exact HB.out|apply za|apply zb|apply zg|refine zr ?_ GB35.out)|exact HB.out)⟩⟩
         ·rw[if_neg c26]at H;have c26b0:((rd l0 x6_1) == (rd l1 x7_2))=false:=beq_eq_false_iff_ne.mpr c26;have c26b1:((rd l0 x6_1) != (rd l1 x7_2))=true:=bne_iff_ne.mpr c26;replace H:=ifSome H;obtain⟨c40,H⟩:=H;have c40b0:decide (x6_1<(x5_2.length:Int))=true:=Qm c40;try(have c40b0zhl5_2:=c40b0;rw[hl5_2]at c40b0zhl5_2)
          clear c40;obtain⟨ji41,hji41⟩:∃ j_:Int,(wrap64 (x6_1+1))=j_:=⟨_,rfl⟩
          replace H:(if 0<=(ji41)then(if (ji41)<(x5_2.length:Int)then(if x7_2<((zD x5_2 (ji41)).length:Int)then(if 0<=(wrap64 (x7_2+1))then(if (wrap64 (x7_2+1))<((zD x5_2 x6_1).length:Int)then(if x7_2<((zD x5_2 x6_1).length:Int)then(zd.l1 kj18 l0 l1 (x5_2.set (x6_1:Int).toNat ((zD x5_2 x6_1).set (x7_2:Int).toNat (mx (rd (zD x5_2 (ji41)) x7_2) (rd (zD x5_2 x6_1) (wrap64 (x7_2+1)))))) x6_1 (wrap64 (x7_2-1)))else(none))else(none))else(none))else(none))else(none))else(none))=some r:=by first|(rw[hji41]at H;exact H)|(simp only[hji41]at H ⊢;exact H)
          have hji41w:(IntKind.i64.wrap (x6_1+1))=ji41:=(zp _).trans hji41;replace H:=ifSome H;obtain⟨c42,H⟩:=H;have c42b0:decide (0<=(ji41))=true:=Qm c42;clear c42;replace H:=ifSome H;obtain⟨c43,H⟩:=H;have c43b0:decide ((ji41)<(x5_2.length:Int))=true:=Qm c43;try(have c43b0zhl5_2:=c43b0;rw[hl5_2]at c43b0zhl5_2)
          clear c43;replace H:=ifSome H;obtain⟨c44,H⟩:=H;have c44b0:decide (x7_2<((zD x5_2 (ji41)).length:Int))=true:=Qm c44;try(have c44b0zhl5_2:=c44b0;rw[hl5_2]at c44b0zhl5_2)
          clear c44;obtain⟨ji45,hji45⟩:∃ j_:Int,(wrap64 (x7_2+1))=j_:=⟨_,rfl⟩
          replace H:(if 0<=(ji45)then(if (ji45)<((zD x5_2 x6_1).length:Int)then(if x7_2<((zD x5_2 x6_1).length:Int)then(zd.l1 kj18 l0 l1 (x5_2.set (x6_1:Int).toNat ((zD x5_2 x6_1).set (x7_2:Int).toNat (mx (rd (zD x5_2 (ji41)) x7_2) (rd (zD x5_2 x6_1) (ji45))))) x6_1 (wrap64 (x7_2-1)))else(none))else(none))else(none))=some r:=by first|(rw[hji45]at H;exact H)|(simp only[hji45]at H ⊢;exact H)
          have hji45w:(IntKind.i64.wrap (x7_2+1))=ji45:=(zp _).trans hji45;replace H:=ifSome H;obtain⟨c46,H⟩:=H;have c46b0:decide (0<=(ji45))=true:=Qm c46;clear c46;replace H:=ifSome H;obtain⟨c47,H⟩:=H;have c47b0:decide ((ji45)<((zD x5_2 x6_1).length:Int))=true:=Qm c47;try(have c47b0zhl5_2:=c47b0;rw[hl5_2]at c47b0zhl5_2)
          clear c47;obtain⟨ji48,hji48⟩:∃ j_:Int,(mx (rd (zD x5_2 (ji41)) x7_2) (rd (zD x5_2 x6_1) (ji45)))=j_:=⟨_,rfl⟩
          replace H:(if x7_2<((zD x5_2 x6_1).length:Int)then(zd.l1 kj18 l0 l1 (x5_2.set (x6_1:Int).toNat ((zD x5_2 x6_1).set (x7_2:Int).toNat (ji48))) x6_1 (wrap64 (x7_2-1)))else(none))=some r:=by first|(rw[hji48]at H;exact H)|(simp only[hji48]at H ⊢;exact H)
          have hji48_:(if (rd (zD x5_2 (ji41)) x7_2)<(rd (zD x5_2 x6_1) (ji45))then(rd (zD x5_2 x6_1) (ji45))else(rd (zD x5_2 (ji41)) x7_2))=ji48:=hji48;replace H:=ifSome H;obtain⟨c49,H⟩:=H;have c49b0:decide (x7_2<((zD x5_2 x6_1).length:Int))=true:=Qm c49;try(have c49b0zhl5_2:=c49b0;rw[hl5_2]at c49b0zhl5_2)
          clear c49;obtain⟨y1010,hy1010⟩:∃ y_:List Int,y_=((zD x5_2 x6_1).set (x7_2:Int).toNat (ji48)):=⟨_,rfl⟩
          replace H:(zd.l1 kj18 l0 l1 (x5_2.set (x6_1:Int).toNat y1010) x6_1 (wrap64 (x7_2-1)))=some r:=by first|(rw[hy1010];with_reducible exact H)|(have H2_:=(Option.bind_some _ _).symm.trans H;rw[hy1010];with_reducible exact H2_)|(have H2_:=(Option.bind_some _ _).symm.trans H;with_reducible exact H2_)|with_reducible exact H|(rw[hy1010];exact H)|exact H
          have Ny1010:=Qk hy1010;clear hy1010;obtain⟨y1012,hy1012⟩:∃ y_:List (List Int),y_=(x5_2.set (x6_1:Int).toNat y1010):=⟨_,rfl⟩
          replace H:(zd.l1 kj18 l0 l1 y1012 x6_1 (wrap64 (x7_2-1)))=some r:=by first|(rw[hy1012];with_reducible exact H)|(have H2_:=(Option.bind_some _ _).symm.trans H;rw[hy1012];with_reducible exact H2_)|(have H2_:=(Option.bind_some _ _).symm.trans H;with_reducible exact H2_)|with_reducible exact H|(rw[hy1012];exact H)|exact H
          have Ny1012:=Qk hy1012;clear hy1012;have H':=Qk H;clear H;try go_wp2
          have n0_:=Qk (Kd.S_drew HO_5.out);have n1_:=Qk (zg HB.out);clear HO_5;clear HB;have HO_5:=n0_;have HB:=n1_;clear n0_ n1_;have p997:0<=(x6_1:Int):=Ql (by assumption);have q997:x6_1<(l0.length:Int):=Ql (by assumption);obtain⟨ad997,e997,hx997_0⟩:=Kd.at_int HR0.out x6_1 p997 q997;have hw997_0:=hx997_0
          cases e997;replace hx997_0:=(HB.out.cell (Qq w _ hx997_0)).trans hx997_0;replace p997:=Qr p997;replace q997:=Qr q997;have p998:0<=(x7_2:Int):=Ql (by assumption);have q998:x7_2<(l1.length:Int):=Ql (by assumption);obtain⟨ad998,e998,hx998_0⟩:=Kd.at_int HR1.out x7_2 p998 q998;have hw998_0:=hx998_0
          cases e998;replace hx998_0:=(HB.out.cell (Qq w _ hx998_0)).trans hx998_0;replace p998:=Qr p998;replace q998:=Qr q998;refine ZG (n:=9) (S:=fun w'=>w'.cell? (ad997.add (x6_1).toNat)=some (.int .i64 (rd l0 x6_1))/\w'.cell? (ad998.add (x7_2).toNat)=some (.int .i64 (rd l1 x7_2))) (ds:=[]) #[N,N,N,N,N,N,N,N,N] (by kernel_rfl) rfl rfl ⟨((HB.out.cell (Qq w _ hw997_0)).trans hw997_0),((HB.out.cell (Qq w _ hw998_0)).trans hw998_0)⟩ (fun hHeld=>?_);refine qR zd.tab9 zd.bits9 (fun HT_ HW_=>?_);generalize wc.drew=w51 at HO_5 HB hx997_0 hx998_0 hHeld ⊢;refine zG (i:=0) (N:=some 38) (v:=?_) (a':=?_) #[Y,N,N,N,N,N,N,N,N] rfl rfl (zu HT_.out (by kernel_rfl)) (fun _ _ _ h=>h) (Or.inl ⟨by rfl,?_⟩) ?_ ?_;rotate_left
          ·intro w';go_simp;with_reducible rfl
          rotate_left
          ·simp only[Act.put,sA,sB,sC,zp,zw];rfl
          refine zG (i:=1) (N:=some 39) (v:=?_) (a':=?_) #[Y,Y,N,N,N,N,N,N,N] rfl rfl (zu HT_.out (by kernel_rfl)) (fun _ _ _ h=>h) (Or.inl ⟨by rfl,?_⟩) ?_ ?_;rotate_left
          ·intro w';go_simp;with_reducible rfl
          rotate_left
          ·simp only[Act.put,sA,sB,sC,zp,zw];rfl
          refine zG (i:=2) (N:=some 40) (v:=?_) (a':=?_) #[Y,Y,Y,N,N,N,N,N,N] rfl rfl (zu HT_.out (by kernel_rfl)) (fun _ _ _ h=>h) (Or.inl ⟨by rfl,?_⟩) ?_ ?_;rotate_left
          ·intro w';go_simp;with_reducible rfl
          rotate_left
          ·simp only[Act.put,sA,sB,sC,zp,zw];rfl
          refine zG (i:=4) (N:=some 42) (v:=?_) (a':=?_) #[Y,Y,Y,N,Y,N,N,N,N] rfl rfl (zu HT_.out (by kernel_rfl)) (fun _ _ _ h=>h) (Or.inl ⟨by rfl,?_⟩) ?_ ?_;rotate_left
          ·intro w';go_simp;with_reducible rfl
          rotate_left
          ·simp only[Act.put,sA,sB,sC,zp,zw];rfl
          refine zG (i:=5) (N:=some 43) (v:=?_) (a':=?_) #[Y,Y,Y,N,Y,Y,N,N,N] rfl rfl (zu HT_.out (by kernel_rfl)) (fun _ _ _ h=>h) (Or.inl ⟨by rfl,?_⟩) ?_ ?_;rotate_left
          ·intro w';go_simp;with_reducible rfl
          rotate_left
          ·simp only[Act.put,sA,sB,sC,zp,zw];rfl
          refine zG (i:=6) (N:=some 44) (v:=?_) (a':=?_) #[Y,Y,Y,N,Y,Y,Y,N,N] rfl rfl (zu HT_.out (by kernel_rfl)) (fun _ _ _ h=>h) (Or.inl ⟨by rfl,?_⟩) ?_ ?_;rotate_left
          ·intro w';go_simp;with_reducible rfl
          rotate_left
          ·simp only[Act.put,sA,sB,sC,zp,zw];rfl
          refine take_ (i:=3) (N:=some 41) (v:=?_) (a':=?_) #[Y,Y,Y,Y,Y,Y,Y,N,N] rfl rfl (qe HT_.out HW_.out (by kernel_rfl)) (fun _ _ _ h=>h) (Or.inl ⟨by rfl,?_⟩) hHeld ?_ ?_;rotate_left
          ·rintro w' ⟨s0,s1⟩;go_simp;with_reducible rfl
          rotate_left
          ·simp only[Act.put,sA,sB,sC,zp,zw];rfl
          refine take_ (i:=7) (N:=some 45) (v:=?_) (a':=?_) #[Y,Y,Y,Y,Y,Y,Y,Y,N] rfl rfl (qe HT_.out HW_.out (by kernel_rfl)) (fun _ _ _ h=>h) (Or.inl ⟨by rfl,?_⟩) hHeld ?_ ?_;rotate_left
          ·rintro w' ⟨s0,s1⟩;go_simp;with_reducible rfl
          rotate_left
          ·simp only[Act.put,sA,sB,sC,zp,zw];rfl
          refine zG (i:=8) (N:=some 46) (v:=?_) (a':=?_) #[Y,Y,Y,Y,Y,Y,Y,Y,Y] rfl rfl (zu HT_.out (by kernel_rfl)) (fun _ _ _ h=>h) (Or.inl ⟨by rfl,?_⟩) ?_ ?_;rotate_left
          ·intro w';go_simp;with_reducible rfl
          rotate_left
          ·simp only[Act.put,sA,sB,sC,zp,zw];rfl
          refine done_ (Zr HT_.out (by kernel_rfl)) ?_;try go_wp2
          have n0_:=Qk (Kd.S_drew HO_5.out);have n1_:=Qk (zg HB.out);clear HO_5;clear HB;have HO_5:=n0_;have HB:=n1_;clear n0_ n1_;have p1005:0<=(x6_1:Int):=Ql (by assumption);have q1005:x6_1<(x5_2.length:Int):=Ql (by assumption);try(obtain⟨Ap1005,cp1005,ep1005⟩:=Kd.S_slice HO_5.out;subst ep1005)
          obtain⟨ad1005,A1005_0,c1005_0,e1005,hx1005_0,hl1005_0,hi1005_0⟩:=Qj (Kd.S_reads' HO_5.out).2.2 x6_1 p1005 q1005;obtain rfl:(⟨go14,0,none⟩:Addr)=ad1005:=(by injection e1005);obtain⟨ce1005,hce1005,hMe1005,hcc1005⟩:=Kd.S_get HO_5.out [] x6_1 p1005 (by first|exact q1005|exact Ql (by assumption)|(have e_:=(Kd.S_reads' HO_5.out).1;omega));obtain⟨ve1005_0,rfl,ge1005_0⟩:=hMe1005;have hv1005_0:=hcc1005 0 _ rfl;rw[Nat.add_zero,show ((Kd.slice 3 (Kd.int .i64))).sz=1 from rfl,Nat.mul_one]at hv1005_0
          replace hv1005_0:=Qp (hv1005_0.symm.trans hx1005_0);rw[hv1005_0]at ge1005_0;have HL1005_0:=Qk (show Kd.R (Kd.int .i64) 3 _ _ _ _ (zD x5_2 x6_1)from ge1005_0);clear hv1005_0 ge1005_0;have HX1005_0:=Qk hx1005_0;clear hcc1005 hce1005;(first|simp only[qy]at hx1005_0|simp only[add_at]at hx1005_0|simp only[Addr.add,Nat.zero_add]at hx1005_0|skip);have HR1005_0:=Qk hi1005_0;have HC1005_0:=Qk hl1005_0;clear hi1005_0 hl1005_0;replace p1005:=Qr p1005;replace q1005:=Qr q1005;have p1006:0<=((ji41):Int):=Ql (by assumption);have q1006:(ji41)<(x5_2.length:Int):=Ql (by assumption);try(obtain⟨Ap1006,cp1006,ep1006⟩:=Kd.S_slice HO_5.out;subst ep1006)
          obtain⟨ad1006,A1006_0,c1006_0,e1006,hx1006_0,hl1006_0,hi1006_0⟩:=Qj (Kd.S_reads' HO_5.out).2.2 (ji41) p1006 q1006;obtain rfl:(⟨go14,0,none⟩:Addr)=ad1006:=(by injection e1006);obtain⟨ce1006,hce1006,hMe1006,hcc1006⟩:=Kd.S_get HO_5.out [] (ji41) p1006 (by first|exact q1006|exact Ql (by assumption)|(have e_:=(Kd.S_reads' HO_5.out).1;omega));obtain⟨ve1006_0,rfl,ge1006_0⟩:=hMe1006;have hv1006_0:=hcc1006 0 _ rfl;rw[Nat.add_zero,show ((Kd.slice 3 (Kd.int .i64))).sz=1 from rfl,Nat.mul_one]at hv1006_0
          replace hv1006_0:=Qp (hv1006_0.symm.trans hx1006_0);rw[hv1006_0]at ge1006_0;have HL1006_0:=Qk (show Kd.R (Kd.int .i64) 3 _ _ _ _ (zD x5_2 (ji41))from ge1006_0);clear hv1006_0 ge1006_0;have HX1006_0:=Qk hx1006_0;clear hcc1006 hce1006;(first|simp only[qy]at hx1006_0|simp only[add_at]at hx1006_0|simp only[Addr.add,Nat.zero_add]at hx1006_0|skip);have HR1006_0:=Qk hi1006_0;have HC1006_0:=Qk hl1006_0;clear hi1006_0 hl1006_0;replace p1006:=Qr p1006;replace q1006:=Qr q1006;have p1007:0<=(x7_2:Int):=Ql (by assumption);have q1007:x7_2<((zD x5_2 (ji41)).length:Int):=Ql (by assumption);obtain⟨ad1007,e1007,hx1007_0⟩:=Kd.at_int (by repeat(first|(with_reducible exact HR1006_0.out)|(with_reducible refine Kd.C_alloc ?_ _)|(with_reducible refine Kd.C_drewN ?_ _)|(with_reducible refine Kd.C_drew ?_)|exact HR1006_0.out)) x7_2 p1007 q1007
          cases e1007;replace p1007:=Qr p1007;replace q1007:=Qr q1007;have p1008:0<=(x6_1:Int):=Ql (by assumption);have q1008:x6_1<(x5_2.length:Int):=Ql (by assumption);try(obtain⟨Ap1008,cp1008,ep1008⟩:=Kd.S_slice HO_5.out;subst ep1008)
          obtain⟨ad1008,A1008_0,c1008_0,e1008,hx1008_0,hl1008_0,hi1008_0⟩:=Qj (Kd.S_reads' HO_5.out).2.2 x6_1 p1008 q1008;obtain rfl:(⟨go14,0,none⟩:Addr)=ad1008:=(by injection e1008);obtain⟨ce1008,hce1008,hMe1008,hcc1008⟩:=Kd.S_get HO_5.out [] x6_1 p1008 (by first|exact q1008|exact Ql (by assumption)|(have e_:=(Kd.S_reads' HO_5.out).1;omega));obtain⟨ve1008_0,rfl,ge1008_0⟩:=hMe1008;have hv1008_0:=hcc1008 0 _ rfl;rw[Nat.add_zero,show ((Kd.slice 3 (Kd.int .i64))).sz=1 from rfl,Nat.mul_one]at hv1008_0
          replace hv1008_0:=Qp (hv1008_0.symm.trans hx1008_0);rw[hv1008_0]at ge1008_0;have HL1008_0:=Qk (show Kd.R (Kd.int .i64) 3 _ _ _ _ (zD x5_2 x6_1)from ge1008_0);clear hv1008_0 ge1008_0;have HX1008_0:=Qk hx1008_0;clear hcc1008 hce1008;(first|simp only[qy]at hx1008_0|simp only[add_at]at hx1008_0|simp only[Addr.add,Nat.zero_add]at hx1008_0|skip);have HR1008_0:=Qk hi1008_0;have HC1008_0:=Qk hl1008_0;clear hi1008_0 hl1008_0;replace p1008:=Qr p1008;replace q1008:=Qr q1008;have ea_:=Qp (hx1005_0.symm.trans hx1008_0);injection ea_ with ea_ en_ ec_
          subst ea_;subst ec_;clear en_;have p1009:0<=((ji45):Int):=Ql (by assumption);have q1009:(ji45)<((zD x5_2 x6_1).length:Int):=Ql (by assumption);obtain⟨ad1009,e1009,hx1009_0⟩:=Kd.at_int (by repeat(first|(with_reducible exact HR1008_0.out)|(with_reducible refine Kd.C_alloc ?_ _)|(with_reducible refine Kd.C_drewN ?_ _)|(with_reducible refine Kd.C_drew ?_)|exact HR1008_0.out)) (ji45) p1009 q1009
          cases e1009;replace p1009:=Qr p1009;replace q1009:=Qr q1009;have p50:0<=(x7_2:Int):=Ql (by assumption);have q50:(x7_2:Int)<(((zD x5_2 x6_1).length:Int):Int):=Ql (by assumption);obtain⟨go50,co50,eo50,gb50,gl50,cl50,HG50⟩:=Kd.R_form HL1005_0.out (by omega);(first|cases eo50|(injection eo50 with ea_ en_ ec_;(first|subst ea_|(injection ea_ with ea_;subst ea_));subst ec_;clear en_));have GB50:=Qk gb50;have GG50:=Qk HG50;clear gb50 gl50 HG50;(first|simp only[qy]at hx1009_0|skip);obtain⟨hx50_0,hf50_0⟩:=Kd.R_celln 0 HL1005_0.out (x7_2:Int) p50 q50;replace p50:=Qr p50;replace q50:=Qr q50;have hq53:(x6_1:Int)<(x5_2.length:Int):=(by have h_:(x6_1:Int)<((x5_2.length:Int):Int):=Ql (by assumption);first|exact h_|(have e_:=(Kd.S_reads' HO_5.out).1;omega)|simpa only[List.length_set,List.length_set]using h_);obtain⟨oki53,ce53,hcl53,hM53,hcc53,hok53,hbk53⟩:=Kd.S_borrow HO_5.out [] (x6_1:Int) (Ql (by assumption)) hq53;obtain⟨ve53_0,rfl,ge53_0⟩:=hM53;have hv53:=hcc53 0 _ rfl;rw[Nat.add_zero,show ((Kd.slice 3 (Kd.int .i64))).sz=1 from rfl,Nat.mul_one]at hv53
          replace hv53:=Qp (hv53.symm.trans HX1005_0.out);subst hv53;clear hcc53 hcl53;replace ge53_0:=(show Kd.R (Kd.int .i64) 3 _ _ _ _ (zD x5_2 x6_1)from ge53_0);have HP53:=Kd.R_putg ge53_0 (x7_2:Int) ji48;rw[← Ny1010.out]at HP53;have HS53:=hbk53 HP53.2 (fun k_ e_=>by injection e_ with e_;subst e_;exact ge53_0.1 _ rfl) (x':=y1010) (Kd.M_row HP53.1);rw[← Ny1012.out]at HS53;have HQ53:=Qk HS53;clear HP53 HS53 hbk53 hok53;refine ZG (n:=24) (S:=fun w'=>w'.cell? ⟨go14,(x6_1).toNat,none⟩=some (.slice (some ⟨go50,0,none⟩) (zD x5_2 x6_1).length c1005_0)/\w'.cell? ⟨go14,((ji41)).toNat,none⟩=some (.slice (some ad1007) (zD x5_2 (ji41)).length c1006_0)/\w'.cell? (ad1007.add (x7_2).toNat)=some (.int .i64 (rd (zD x5_2 (ji41)) x7_2))/\w'.cell? ⟨go14,(x6_1).toNat,none⟩=some (.slice (some ⟨go50,0,none⟩) (zD x5_2 x6_1).length c1005_0)/\w'.cell? ⟨go50,((ji45)).toNat,none⟩=some (.int .i64 (rd (zD x5_2 x6_1) (ji45)))) (ds:=[23]) #[N,N,N,N,N,N,N,N,N,N,N,N,N,N,N,N,N,N,N,N,N,N,N,N] (by kernel_rfl) rfl rfl ⟨hx1005_0,hx1006_0,hx1007_0,hx1008_0,hx1009_0⟩ (fun hHeld=>?_);refine qR zd.tab11 zd.bits11 (fun HT_ HW_=>?_);generalize w51.drew=w52 at HO_5 HB GG50 HL1005_0 HL1006_0 HL1008_0 HQ53 HR1005_0 HR1006_0 HR1008_0 HX1005_0 HX1006_0 HX1008_0 hf50_0 hx1005_0 hx1006_0 hx1007_0 hx1008_0 hx1009_0 hx50_0 hHeld ⊢;refine zG (i:=0) (N:=some 63) (v:=?_) (a':=?_) #[Y,N,N,N,N,N,N,N,N,N,N,N,N,N,N,N,N,N,N,N,N,N,N,N] rfl rfl (zu HT_.out (by kernel_rfl)) (fun _ _ _ h=>h) (Or.inl ⟨by rfl,?_⟩) ?_ ?_;rotate_left
          ·intro w';go_simp;with_reducible rfl
          rotate_left
          ·simp only[Act.put,sA,sB,sC,zp,zw];rfl
          refine zG (i:=1) (N:=some 64) (v:=?_) (a':=?_) #[Y,Y,N,N,N,N,N,N,N,N,N,N,N,N,N,N,N,N,N,N,N,N,N,N] rfl rfl (zu HT_.out (by kernel_rfl)) (fun _ _ _ h=>h) (Or.inl ⟨by rfl,?_⟩) ?_ ?_;rotate_left
          ·intro w';go_simp;with_reducible rfl
          rotate_left
          ·simp only[Act.put,sA,sB,sC,zp,zw];rfl
          refine zG (i:=2) (N:=some 65) (v:=?_) (a':=?_) #[Y,Y,Y,N,N,N,N,N,N,N,N,N,N,N,N,N,N,N,N,N,N,N,N,N] rfl rfl (zu HT_.out (by kernel_rfl)) (fun _ _ _ h=>h) (Or.inl ⟨by rfl,?_⟩) ?_ ?_;rotate_left
          ·intro w';go_simp;with_reducible rfl
          rotate_left
          ·simp only[Act.put,sA,sB,sC,zp,zw];rfl
          refine zG (i:=4) (N:=some 67) (v:=?_) (a':=?_) #[Y,Y,Y,N,Y,N,N,N,N,N,N,N,N,N,N,N,N,N,N,N,N,N,N,N] rfl rfl (zu HT_.out (by kernel_rfl)) (fun _ _ _ h=>h) (Or.inl ⟨by rfl,?_⟩) ?_ ?_;rotate_left
          ·intro w';go_simp;with_reducible rfl
          rotate_left
          ·simp only[Act.put,sA,sB,sC,zp,zw];rfl
          refine zG (i:=5) (N:=some 68) (v:=?_) (a':=?_) #[Y,Y,Y,N,Y,Y,N,N,N,N,N,N,N,N,N,N,N,N,N,N,N,N,N,N] rfl rfl (zu HT_.out (by kernel_rfl)) (fun _ _ _ h=>h) (Or.inl ⟨by rfl,?_⟩) ?_ ?_;rotate_left
          ·intro w';go_simp;with_reducible rfl
          rotate_left
          ·simp only[Act.put,sA,sB,sC,zp,zw];rfl
          refine zG (i:=6) (N:=some 69) (v:=?_) (a':=?_) #[Y,Y,Y,N,Y,Y,Y,N,N,N,N,N,N,N,N,N,N,N,N,N,N,N,N,N] rfl rfl (zu HT_.out (by kernel_rfl)) (fun _ _ _ h=>h) (Or.inl ⟨by rfl,?_⟩) ?_ ?_;rotate_left
          ·intro w';go_simp;with_reducible rfl
          rotate_left
          ·simp only[Act.put,sA,sB,sC,zp,zw];rfl
          refine zG (i:=7) (N:=some 70) (v:=?_) (a':=?_) #[Y,Y,Y,N,Y,Y,Y,Y,N,N,N,N,N,N,N,N,N,N,N,N,N,N,N,N] rfl rfl (zu HT_.out (by kernel_rfl)) (fun _ _ _ h=>h) (Or.inl ⟨by rfl,?_⟩) ?_ ?_;rotate_left
          ·intro w';go_simp;with_reducible rfl
          rotate_left
          ·simp only[Act.put,sA,sB,sC,zp,zw];rfl
          refine zG (i:=8) (N:=some 71) (v:=?_) (a':=?_) #[Y,Y,Y,N,Y,Y,Y,Y,Y,N,N,N,N,N,N,N,N,N,N,N,N,N,N,N] rfl rfl (zu HT_.out (by kernel_rfl)) (fun _ _ _ h=>h) (Or.inl ⟨by rfl,?_⟩) ?_ ?_;rotate_left
          ·intro w';go_simp;with_reducible rfl
          rotate_left
          ·simp only[Act.put,sA,sB,sC,zp,zw];rfl
          refine zG (i:=10) (N:=some 73) (v:=?_) (a':=?_) #[Y,Y,Y,N,Y,Y,Y,Y,Y,N,Y,N,N,N,N,N,N,N,N,N,N,N,N,N] rfl rfl (zu HT_.out (by kernel_rfl)) (fun _ _ _ h=>h) (Or.inl ⟨by rfl,?_⟩) ?_ ?_;rotate_left
          ·intro w';go_simp;with_reducible rfl
          rotate_left
          ·simp only[Act.put,sA,sB,sC,zp,zw];rfl
          refine zG (i:=13) (N:=some 76) (v:=?_) (a':=?_) #[Y,Y,Y,N,Y,Y,Y,Y,Y,N,Y,N,N,Y,N,N,N,N,N,N,N,N,N,N] rfl rfl (zu HT_.out (by kernel_rfl)) (fun _ _ _ h=>h) (Or.inl ⟨by rfl,?_⟩) ?_ ?_;rotate_left
          ·intro w';go_simp;with_reducible rfl
          rotate_left
          ·simp only[Act.put,sA,sB,sC,zp,zw];rfl
          refine zG (i:=14) (N:=some 77) (v:=?_) (a':=?_) #[Y,Y,Y,N,Y,Y,Y,Y,Y,N,Y,N,N,Y,Y,N,N,N,N,N,N,N,N,N] rfl rfl (zu HT_.out (by kernel_rfl)) (fun _ _ _ h=>h) (Or.inl ⟨by rfl,?_⟩) ?_ ?_;rotate_left
          ·intro w';go_simp;with_reducible rfl
          rotate_left
          ·simp only[Act.put,sA,sB,sC,zp,zw];rfl
          refine zG (i:=15) (N:=some 78) (v:=?_) (a':=?_) #[Y,Y,Y,N,Y,Y,Y,Y,Y,N,Y,N,N,Y,Y,Y,N,N,N,N,N,N,N,N] rfl rfl (zu HT_.out (by kernel_rfl)) (fun _ _ _ h=>h) (Or.inl ⟨by rfl,?_⟩) ?_ ?_;rotate_left
          ·intro w';go_simp;with_reducible rfl
          rotate_left
          ·simp only[Act.put,sA,sB,sC,zp,zw];rfl
          refine zG (i:=17) (N:=some 80) (v:=?_) (a':=?_) #[Y,Y,Y,N,Y,Y,Y,Y,Y,N,Y,N,N,Y,Y,Y,N,Y,N,N,N,N,N,N] rfl rfl (zu HT_.out (by kernel_rfl)) (fun _ _ _ h=>h) (Or.inl ⟨by rfl,?_⟩) ?_ ?_;rotate_left
          ·intro w';go_simp;with_reducible rfl
          rotate_left
          ·simp only[Act.put,sA,sB,sC,zp,zw];rfl
          refine zG (i:=18) (N:=some 81) (v:=?_) (a':=?_) #[Y,Y,Y,N,Y,Y,Y,Y,Y,N,Y,N,N,Y,Y,Y,N,Y,Y,N,N,N,N,N] rfl rfl (zu HT_.out (by kernel_rfl)) (fun _ _ _ h=>h) (Or.inl ⟨by rfl,?_⟩) ?_ ?_;rotate_left
          ·intro w';go_simp;with_reducible rfl
          rotate_left
          ·simp only[Act.put,sA,sB,sC,zp,zw];rfl
          refine take_ (i:=3) (N:=some 66) (v:=?_) (a':=?_) #[Y,Y,Y,Y,Y,Y,Y,Y,Y,N,Y,N,N,Y,Y,Y,N,Y,Y,N,N,N,N,N] rfl rfl (qe HT_.out HW_.out (by kernel_rfl)) (fun _ _ _ h=>h) (Or.inl ⟨by rfl,?_⟩) hHeld ?_ ?_;rotate_left
          ·rintro w' ⟨s0,s1,s2,s3,s4⟩;go_simp;with_reducible rfl
          rotate_left
          ·simp only[Act.put,sA,sB,sC,zp,zw];rfl
          refine take_ (i:=9) (N:=some 72) (v:=?_) (a':=?_) #[Y,Y,Y,Y,Y,Y,Y,Y,Y,Y,Y,N,N,Y,Y,Y,N,Y,Y,N,N,N,N,N] rfl rfl (qe HT_.out HW_.out (by kernel_rfl)) (fun _ _ _ h=>h) (Or.inl ⟨by rfl,?_⟩) hHeld ?_ ?_;rotate_left
          ·rintro w' ⟨s0,s1,s2,s3,s4⟩;go_simp;with_reducible rfl
          rotate_left
          ·simp only[Act.put,sA,sB,sC,zp,zw];rfl
          refine zG (i:=11) (N:=some 74) (v:=?_) (a':=?_) #[Y,Y,Y,Y,Y,Y,Y,Y,Y,Y,Y,Y,N,Y,Y,Y,N,Y,Y,N,N,N,N,N] rfl rfl (zu HT_.out (by kernel_rfl)) (fun _ _ _ h=>h) (Or.inl ⟨by rfl,?_⟩) ?_ ?_;rotate_left
          ·intro w';go_simp;with_reducible rfl
          rotate_left
          ·simp only[Act.put,sA,sB,sC,zp,zw];rfl
          refine take_ (i:=12) (N:=some 75) (v:=?_) (a':=?_) #[Y,Y,Y,Y,Y,Y,Y,Y,Y,Y,Y,Y,Y,Y,Y,Y,N,Y,Y,N,N,N,N,N] rfl rfl (qe HT_.out HW_.out (by kernel_rfl)) (fun _ _ _ h=>h) (Or.inl ⟨by rfl,?_⟩) hHeld ?_ ?_;rotate_left
          ·rintro w' ⟨s0,s1,s2,s3,s4⟩;go_simp;with_reducible rfl
          rotate_left
          ·simp only[Act.put,sA,sB,sC,zp,zw];rfl
          refine take_ (i:=16) (N:=some 79) (v:=?_) (a':=?_) #[Y,Y,Y,Y,Y,Y,Y,Y,Y,Y,Y,Y,Y,Y,Y,Y,Y,Y,Y,N,N,N,N,N] rfl rfl (qe HT_.out HW_.out (by kernel_rfl)) (fun _ _ _ h=>h) (Or.inl ⟨by rfl,?_⟩) hHeld ?_ ?_;rotate_left
          ·rintro w' ⟨s0,s1,s2,s3,s4⟩;go_simp;with_reducible rfl
          rotate_left
          ·simp only[Act.put,sA,sB,sC,zp,zw];rfl
          refine zG (i:=19) (N:=some 82) (v:=?_) (a':=?_) #[Y,Y,Y,Y,Y,Y,Y,Y,Y,Y,Y,Y,Y,Y,Y,Y,Y,Y,Y,Y,N,N,N,N] rfl rfl (zu HT_.out (by kernel_rfl)) (fun _ _ _ h=>h) (Or.inl ⟨by rfl,?_⟩) ?_ ?_;rotate_left
          ·intro w';go_simp;with_reducible rfl
          rotate_left
          ·simp only[Act.put,sA,sB,sC,zp,zw];rfl
          refine take_ (i:=20) (N:=some 83) (v:=?_) (a':=?_) #[Y,Y,Y,Y,Y,Y,Y,Y,Y,Y,Y,Y,Y,Y,Y,Y,Y,Y,Y,Y,Y,N,N,N] rfl rfl (qe HT_.out HW_.out (by kernel_rfl)) (fun _ _ _ h=>h) (Or.inl ⟨by rfl,?_⟩) hHeld ?_ ?_;rotate_left
          ·rintro w' ⟨s0,s1,s2,s3,s4⟩;go_simp;with_reducible rfl
          rotate_left
          ·simp only[Act.put,sA,sB,sC,zp,zw];rfl
          refine zG (i:=21) (N:=some 84) (v:=?_) (a':=?_) #[Y,Y,Y,Y,Y,Y,Y,Y,Y,Y,Y,Y,Y,Y,Y,Y,Y,Y,Y,Y,Y,Y,N,N] rfl rfl (zu HT_.out (by kernel_rfl)) (fun _ _ _ h=>h) (Or.inl ⟨by rfl,?_⟩) ?_ ?_;rotate_left
          ·intro w';go_simp;with_reducible rfl
          rotate_left
          ·simp only[Act.put,sA,sB,sC,zp,zw];rfl
          refine zG (i:=22) (N:=some 85) (v:=?_) (a':=?_) #[Y,Y,Y,Y,Y,Y,Y,Y,Y,Y,Y,Y,Y,Y,Y,Y,Y,Y,Y,Y,Y,Y,Y,N] rfl rfl (zu HT_.out (by kernel_rfl)) (fun _ _ _ h=>h) (Or.inl ⟨by rfl,?_⟩) ?_ ?_;rotate_left
          ·intro w';go_simp;with_reducible rfl
          rotate_left
          ·simp only[Act.put,sA,sB,sC,zp,zw];rfl
          refine last_ (i:=23) (N:=none) #[Y,Y,Y,Y,Y,Y,Y,Y,Y,Y,Y,Y,Y,Y,Y,Y,Y,Y,Y,Y,Y,Y,Y,Y] rfl rfl (one_of HT_.out (by kernel_rfl)) (by decide) (fun K hK=>?_);refine skip_ (w1:=?_) (by rfl) rfl ?_ ?_;rotate_left
          ·go_simp;rfl
          refine hK.out _ _ ?_;clear hK K;refine done_ (Zr HT_.out (by kernel_rfl)) ?_;try go_wp2
          (try simp only[← hl5_2]);go_roundg kj18
          case measure=>have:=HK1.out;have:=HK2.out;have:=HJ18.out;omega
          case rel=>exact⟨(y1012),(wrap64 (x7_2-1)),rfl,H',⟨by have:=HK1.out;have:=HK2.out;have:=HJ18.out;omega⟩,⟨by(try simp only[hl5_2]);(with_reducible repeat(first|apply Kd.S_alloc|apply Kd.S_drewN|apply Kd.S_drew));exact HQ53.out⟩,⟨by repeat(first|(with_reducible first|exact HB.out|apply za|apply zb|apply zg|refine zr ?_ GB50.out)|exact HB.out)⟩⟩
        ·replace c21:=Bool.eq_false_iff.mpr c21;subst c21;have H1:(zd.l0 kj18 l0 l1 x5_2 (wrap64 (x6_1-1)))=some r:=by rw[if_neg (show ¬ (false=true) by decide)]at H;exact H
         clear H;have H:=H1;clear H1;have H':=Qk H;clear H;go_wp2;(try simp only[← hl5_2]);go_roundg kj18
         case measure=>have:=HK1.out;have:=HK2.out;have:=HJ18.out;omega
         case rel=>exact⟨(x5_2),(wrap64 (x6_1-1)),rfl,H',⟨by have:=HK1.out;have:=HK2.out;have:=HJ18.out;omega⟩,⟨by(try simp only[hl5_2]);(with_reducible repeat(first|apply Kd.S_alloc|apply Kd.S_drewN|apply Kd.S_drew));exact HO_5.out⟩,⟨HB.out⟩⟩
   ·rw[if_neg c8]at H;have c8b0:decide (0<=x6_1)=false:=Qn c8;clear c8;obtain rfl:=Qp H;go_wp2;go_ret;exact⟨_,by first|rfl|(simp[zR,zQ] <;> rfl)|(simp only[← hji3];first|rfl|(simp[zR,zQ] <;> rfl))|(simp[*,zR,zQ] <;> rfl),by(with_reducible repeat(first|apply Kd.S_alloc|apply Kd.S_drewN|apply Kd.S_drew));exact HO_5.out,HB.out⟩
def qS.f(k:Nat)(l0:List Int)(l1:List Int):Option (Int):=(zd.f k l0 l1).bind fun t1013=>(if 0<(t1013.length:Int)then(if 0<((zD t1013 0).length:Int)then(some (rd (zD t1013 0) 0))else(none))else(none))
theorem qS.calls(k:Nat)(A0:Option Addr)(c0:Nat)(l0:List Int)(A1:Option Addr)(c1:Nat)(l1:List Int)(r:Int)(w:World)(hr0:Kd.C (Kd.int .i64) w A0 l0.length l0)(hc0:l0.length<=c0)(hr1:Kd.C (Kd.int .i64) w A1 l1.length l1)(hc1:l1.length<=c1)(h:qS.f k l0 l1=some r) :
 Calls Tryz.prog 58 #[.slice A0 l0.length c0,.slice A1 l1.length c1] w fun e w'=>e=.returned (.int .i64 r)/\Below w.heap.size w w':=by
 have HR0:=Qk hr0;have HC0:=Qk hc0;clear hr0 hc0;have HR1:=Qk hr1;have HC1:=Qk hc1;clear hr1 hc1;have HB:=Qk (Below.refl w.heap.size w);have H:((zd.f k l0 l1).bind fun t1013=>(if 0<(t1013.length:Int)then(if 0<((zD t1013 0).length:Int)then(some (rd (zD t1013 0) 0))else(none))else(none)))=some r:=h;clear h;replace H:=Qo H;obtain⟨t1013,A30,H⟩:=H;replace H:(if 0<(t1013.length:Int)then(if 0<((zD t1013 0).length:Int)then(some (rd (zD t1013 0) 0))else(none))else(none))=some r:=H;have A3:=Qk A30;clear A30;replace H:=ifSome H;obtain⟨c4,H⟩:=H;have c4b0:decide (0<(t1013.length:Int))=true:=Qm c4;have c4b1:decide (0<t1013.length)=true:=Qm (by omega);clear c4;replace H:=ifSome H;obtain⟨c5,H⟩:=H;have c5b0:decide (0<((zD t1013 0).length:Int))=true:=Qm c5;have c5b1:decide (0<(zD t1013 0).length)=true:=Qm (by omega);clear c5;obtain rfl:=Qp H;go_enter Tryz.func58,Tryz.ntmps58;go_wp2_with (first|(go_at_call 60;(with_reducible refine(zd.calls k _ _ l0 _ _ l1 t1013 _ ?side1 ?side2 ?side3 ?side4 A3.out).mono ?_);(case side1=>exact HR0.out);(case side2=>exact HC0.out);(case side3=>exact HR1.out);(case side4=>exact HC1.out);rintro e w6 ⟨v1014,rfl,ho0,hb⟩;have HO1015:=Qk (Kd.S_lower ho0 (ze HB.out));replace HB:=Qk (zi HB.out hb);obtain⟨Ao7,co7,eo7⟩:=Kd.S_slice HO1015.out;subst eo7;have p1016:0<=(0:Int):=(by omega);have q1016:0<(t1013.length:Int):=Ql (by assumption);obtain⟨ad1016,A1016_0,c1016_0,e1016,hx1016_0,hl1016_0,hi1016_0⟩:=Qj (Kd.S_reads' HO1015.out).2.2 0 p1016 q1016;cases e1016;obtain⟨ce1016,hce1016,hMe1016,hcc1016⟩:=Kd.S_get HO1015.out [] 0 p1016 (by first|exact q1016|exact Ql (by assumption)|(have e_:=(Kd.S_reads' HO1015.out).1;omega));obtain⟨ve1016_0,rfl,ge1016_0⟩:=hMe1016;have hv1016_0:=hcc1016 0 _ rfl;rw[Nat.add_zero,show ((Kd.slice 3 (Kd.int .i64))).sz=1 from rfl,Nat.mul_one]at hv1016_0;replace hv1016_0:=Qp (hv1016_0.symm.trans hx1016_0);rw[hv1016_0]at ge1016_0;have HL1016_0:=Qk (show Kd.R (Kd.int .i64) 3 _ _ _ _ (zD t1013 0)from ge1016_0);clear hv1016_0 ge1016_0;have qi1016:(0<t1013.length)=True:=Qr (by omega);(try rw[show ((0:Int)).toNat=0 from rfl]at hx1016_0);(try rw[Addr.add_zero']at hx1016_0);have HR1016_0:=Qk hi1016_0;have HC1016_0:=Qk hl1016_0;replace p1016:=Qr p1016;replace q1016:=Qr q1016;have p1017:0<=(0:Int):=(by omega);have q1017:0<((zD t1013 0).length:Int):=Ql (by assumption);obtain⟨ad1017,e1017,hx1017_0⟩:=Kd.at_int (by repeat(first|(with_reducible exact HR1016_0.out)|(with_reducible refine Kd.C_alloc ?_ _)|(with_reducible refine Kd.C_drewN ?_ _)|(with_reducible refine Kd.C_drew ?_)|exact HR1016_0.out)) 0 p1017 q1017;cases e1017;have qi1017:(0<(zD t1013 0).length)=True:=Qr (by omega);(try rw[show ((0:Int)).toNat=0 from rfl]at hx1017_0);(try rw[Addr.add_zero']at hx1017_0);replace p1017:=Qr p1017;replace q1017:=Qr q1017))
 go_ret;exact⟨rfl,HB.out⟩
def z6.f(k:Nat)(l0:List Int)(l1:List Int):Option (Int):=(qS.f k l0 l1).bind fun t1018=>(some (wrap64 ((wrap64 ((l0.length:Int)+(l1.length:Int)))-(wrap64 (2*t1018)))))
theorem z6.calls(k:Nat)(A0:Option Addr)(c0:Nat)(l0:List Int)(A1:Option Addr)(c1:Nat)(l1:List Int)(r:Int)(w:World)(hr0:Kd.C (Kd.int .i64) w A0 l0.length l0)(hc0:l0.length<=c0)(hr1:Kd.C (Kd.int .i64) w A1 l1.length l1)(hc1:l1.length<=c1)(h:z6.f k l0 l1=some r) :
 Calls Tryz.prog 28 #[.slice A0 l0.length c0,.slice A1 l1.length c1] w fun e w'=>e=.returned (.int .i64 r)/\Below w.heap.size w w':=by
 have HR0:=Qk hr0;have HC0:=Qk hc0;clear hr0 hc0;have HR1:=Qk hr1;have HC1:=Qk hc1;clear hr1 hc1;have HB:=Qk (Below.refl w.heap.size w);have H:((qS.f k l0 l1).bind fun t1018=>(some (wrap64 ((wrap64 ((l0.length:Int)+(l1.length:Int)))-(wrap64 (2*t1018))))))=some r:=h;clear h;replace H:=Qo H;obtain⟨t1018,A30,H⟩:=H;replace H:(some (wrap64 ((wrap64 ((l0.length:Int)+(l1.length:Int)))-(wrap64 (2*t1018)))))=some r:=H;have A3:=Qk A30;clear A30;obtain rfl:=Qp H;go_enter Tryz.func28,Tryz.ntmps28;go_wp2_with (first|(go_at_call 58;(with_reducible refine(qS.calls k _ _ l0 _ _ l1 t1018 _ ?side1 ?side2 ?side3 ?side4 A3.out).mono ?_);(case side1=>exact HR0.out);(case side2=>exact HC0.out);(case side3=>exact HR1.out);(case side4=>exact HC1.out);rintro e w4 ⟨rfl,hb⟩;replace HB:=Qk (zi HB.out hb)))
 go_ret;exact⟨rfl,HB.out⟩
def digN:List Int->Nat->Nat×Nat
 |c::r,n=>if 48<=c/\c<=57 then let q:=digN r (10*n+(c-48).toNat);(q.1+1,q.2)else(0,n)
 |[],n=>(0,n)
def numN(b:List Int)(at_:Nat):Option (Nat×Nat) :=
 let q:=digN (b.drop at_) 0
 if q.1=0\/(1<q.1/\b.getD at_ 0=48)\/1048576<q.2 then none else some (q.2,at_+q.1)
def qQ(b:List Int)(at_:Nat)(c:Int):Option Nat:=if at_<b.length/\b.getD at_ 0=c then some (at_+1)else none
def ZX(b:List Int)(at_:Nat):Option (Nat×Nat×Nat×Nat):=do
 let (x,i) ← numN b at_
 let i ← qQ b i 32
 let (y,j) ← numN b i
 let j ← qQ b j 32
 let (z,k) ← numN b j
 let k ← qQ b k 10
 pure (x,y,z,k)
def isTok(m:Bool)(t:List Int):Bool:=if m=true then decide (t≠[]/\(10:Int)∉t.dropLast)else decide (t.length=1)
def tokN(m:Bool)(b:List Int)(at_:Nat):Option (List Int×Nat):=do
 let (n,i) ← numN b at_
 let i ← qQ b i 58
 if b.length<i+n then none
 else
  let t:=(b.drop i).take n
  let k ← qQ b (i+n) 10
  if isTok m t then pure (t,k)else none
def q9(m:Bool)(b:List Int):Nat->Nat->Option (List (List Int)×Nat)
 |0,at_=>some ([],at_)
 |n+1,at_=>do
  let (t,k) ← tokN m b at_
  let (l,q) ← q9 m b n k
  pure (t::l,q)
def hunksN(m:Bool)(b:List Int):Nat->Nat->Nat->Option (List (Nat×List (List Int)×List (List Int))×Nat)
 |0,_,_=>none
 |f+1,at_,end_=>match qQ b at_ 64 with
  |none=>some ([],at_)
  |some i=>do
   let (x,y,z,k) ← ZX b i
   if x<end_\/y+z=0 then none
   else
    let (o,k) ← q9 m b y k
    let (w,k) ← q9 m b z k
    let (r,q) ← hunksN m b f k (x+y+1)
    pure ((x,o,w)::r,q)
def Qf(m:Bool):List Int:=[116,97,116,116,105,110,103,32,49,32]++(if m=true then[108,105,110,101,115]else[98,121,116,101,115])++[10]
def modeN(b:List Int):Option Bool:=if b.take 16=Qf false then some false else if b.take 16=Qf true then some true else none
def decN(b:List Int):Option (Bool×List (Nat×List (List Int)×List (List Int))) :=
 (modeN b).bind fun m=>(hunksN m b b.length 16 0).bind fun q=>if b.drop q.2=[46,10]then some (m,q.1)else none
theorem digN_le:∀ (l:List Int) (n:Nat),n<=(digN l n).2
 |[],n=>Nat.le_refl _
 |c::r,n=>by
  unfold digN;split
  ·have:=digN_le r (10*n+(c-48).toNat)
   simp only;omega
  ·exact Nat.le_refl _
theorem digN_len:∀ (l:List Int) (n:Nat),(digN l n).1<=l.length
 |[],n=>Nat.le_refl _
 |c::r,n=>by
  unfold digN;split
  ·have:=digN_len r (10*n+(c-48).toNat)
   simp only[List.length_cons];omega
  ·exact Nat.zero_le _
theorem digN_step(b:List Int)(i n:Nat)(h:i<b.length)(h1:48<=b.getD i 0)(h2:b.getD i 0<=57):digN (b.drop i) n=((digN (b.drop (i+1)) (10*n+(b.getD i 0-48).toNat)).1+1,(digN (b.drop (i+1)) (10*n+(b.getD i 0-48).toNat)).2):=by
 rw[List.drop_eq_getElem_cons h];have e:b[i]=b.getD i 0:=by simp[List.getD_eq_getElem?_getD,h]
 rw[e];conv=>lhs;unfold digN
 rw[if_pos ⟨h1,h2⟩]
theorem digN_stop(b:List Int)(i n:Nat)(h:¬ (i<b.length/\48<=b.getD i 0/\b.getD i 0<=57)):digN (b.drop i) n=(0,n):=by
 by_cases hi:i<b.length
 ·rw[List.drop_eq_getElem_cons hi]
  have e:b[i]=b.getD i 0:=by simp[List.getD_eq_getElem?_getD,hi]
  rw[e];unfold digN;rw[if_neg (fun h'=>h ⟨hi,h'⟩)]
 ·rw[List.drop_eq_nil_of_le (by omega)]
  rfl
theorem numN_is{b:List Int}{i n k:Nat}(h:numN b i=some (n,k)):n<=1048576/\i<k/\k<=b.length:=by
 unfold numN at h;simp only at h;split at h
 ·cases h
 ·rename_i hc
  obtain⟨h0,h2⟩:=not_or.1 hc;obtain⟨_,h3⟩:=not_or.1 h2;simp only[Option.some.injEq,Prod.mk.injEq]at h;have:=digN_len (b.drop i) 0;rw[List.length_drop]at this;omega
theorem Zv{b:List Int}{i k:Nat}{c:Int}(h:qQ b i c=some k):k=i+1/\i<b.length:=by
 unfold qQ at h;split at h
 ·rename_i hc
  simp only[Option.some.injEq]at h;omega
 ·cases h
theorem lineN_is{b:List Int}{i x y z k:Nat}(h:ZX b i=some (x,y,z,k)):x<=1048576/\y<=1048576/\z<=1048576/\i<k/\k<=b.length:=by
 simp only[ZX,Option.bind_eq_bind,Option.bind_eq_some_iff,Prod.exists,Option.pure_def,Option.some.injEq,Prod.mk.injEq]at h;obtain⟨x',i1,h1,i2,h2,y',j1,h3,j2,h4,z',k1,h5,k2,h6,rfl,rfl,rfl,rfl⟩:=h;have:=numN_is h1;have:=Zv h2;have:=numN_is h3;have:=Zv h4;have:=numN_is h5;have:=Zv h6;omega
theorem isTok_ne{m:Bool}{t:List Int}(h:isTok m t=true):t≠[]:=by
 unfold isTok at h;split at h
 ·exact(Ql h).1
 ·have:=Ql h
  intro e;rw[e]at this;cases this
theorem tokN_is{m:Bool}{b t:List Int}{i k:Nat}(h:tokN m b i=some (t,k)):t≠[]/\t.length<=b.length/\i+3<k/\k<=b.length:=by
 simp only[tokN,Option.bind_eq_bind,Option.bind_eq_some_iff,Prod.exists]at h;obtain⟨n,i1,h1,i2,h2,h3⟩:=h;split at h3
 ·cases h3
 ·simp only[Option.bind_eq_some_iff]at h3
  obtain⟨k',h4,h5⟩:=h3;split at h5
  ·rename_i hc ht
   simp only[Option.pure_def,Option.some.injEq,Prod.mk.injEq]at h5;obtain⟨rfl,rfl⟩:=h5;have:=numN_is h1;have:=Zv h2;have:=Zv h4;have hne:=isTok_ne ht;have hl:=List.length_pos_iff.2 hne;refine⟨hne,?_,?_,?_⟩
   ·rw[List.length_take,List.length_drop];omega
   ·rw[List.length_take,List.length_drop]at hl;omega
   ·omega
  ·cases h5
theorem toksN_is{m:Bool}{b:List Int}:∀ {n i:Nat} {l:List (List Int)} {k:Nat},q9 m b n i=some (l,k)->i<=b.length->l.length=n/\(∀ t,t∈l->t≠[]/\t.length<=b.length)/\i+n<=k/\k<=b.length
 |0,i,l,k,h,hi=>by
  simp only[q9,Option.some.injEq,Prod.mk.injEq]at h;obtain⟨rfl,rfl⟩:=h;exact⟨rfl,by simp,by omega,hi⟩
 |n+1,i,l,k,h,hi=>by
  simp only[q9,Option.bind_eq_bind,Option.bind_eq_some_iff,Prod.exists,Option.pure_def,Option.some.injEq,Prod.mk.injEq]at h;obtain⟨t,k1,h1,l1,k2,h2,rfl,rfl⟩:=h;have a1:=tokN_is h1;obtain⟨b1,b2,b3,b4⟩:=toksN_is h2 (by omega);refine⟨by simp[b1],?_,by omega,b4⟩;intro t' ht'
  rcases List.mem_cons.1 ht' with rfl|ht'
  ·exact⟨a1.1,a1.2.1⟩
  ·exact b2 t' ht'
def hkGood:Nat->List (Nat×List (List Int)×List (List Int))->Prop
 |_,[]=>True
 |e,(x,o,w)::s=>e<=x/\x<=1048576/\o.length+w.length≠0/\(∀ t,t∈o++w->t≠[]/\t.length<=300)/\hkGood (x+o.length+1) s
def hkLen:List (Nat×List (List Int)×List (List Int))->Nat
 |[]=>0
 |(_,o,w)::s=>1+o.length+w.length+hkLen s
theorem hunksN_is{m:Bool}{b:List Int}(hb:b.length<=300):∀ {f i e:Nat} {s:List (Nat×List (List Int)×List (List Int))} {k:Nat},hunksN m b f i e=some (s,k)->i<=b.length->hkGood e s/\i+hkLen s<=k/\k<=b.length
 |0,i,e,s,k,h,hi=>by cases h
 |f+1,i,e,s,k,h,hi=>by
  unfold hunksN at h;split at h
  ·simp only[Option.some.injEq,Prod.mk.injEq]at h
   obtain⟨rfl,rfl⟩:=h;exact⟨trivial,by simp[hkLen],hi⟩
  ·rename_i i1 hs
   simp only[Option.bind_eq_bind,Option.bind_eq_some_iff,Prod.exists]at h;obtain⟨x,y,z,k1,h1,h2⟩:=h;split at h2
   ·cases h2
   ·rename_i hc
    simp only[Option.bind_eq_some_iff,Prod.exists,Option.pure_def,Option.some.injEq,Prod.mk.injEq]at h2;obtain⟨o,k2,h3,w,k3,h4,r,q,h5,rfl,rfl⟩:=h2;have a1:=Zv hs;have a2:=lineN_is h1;obtain⟨b1,b2,b3,b4⟩:=toksN_is h3 a2.2.2.2.2;obtain⟨c1,c2,c3,c4⟩:=toksN_is h4 b4;obtain⟨d1,d2,d3⟩:=hunksN_is hb h5 c4;obtain⟨g1,g2⟩:=not_or.1 hc;refine⟨⟨by omega,a2.1,by omega,?_,by rw[b1];exact d1⟩,by simp only[hkLen];omega,d3⟩
    intro t ht
    rcases List.mem_append.1 ht with ht|ht
    ·exact⟨(b2 t ht).1,by have:=(b2 t ht).2;omega⟩
    ·exact⟨(c2 t ht).1,by have:=(c2 t ht).2;omega⟩
theorem modeN_len{m:Bool}{b:List Int}(h:modeN b=some m):16<=b.length:=by
 by_cases hl:16<=b.length
 ·exact hl
 ·have hne:∀ m':Bool,b.take 16≠Qf m':=fun m' e=>by
   have:=congrArg List.length e;rw[List.length_take]at this;have h17:(Qf m').length=16:=by cases m' <;> rfl
   omega
  unfold modeN at h;rw[if_neg (hne false),if_neg (hne true)]at h
  cases h
theorem decN_is{m:Bool}{b:List Int}(hb:b.length<=300){s:List (Nat×List (List Int)×List (List Int))}(h:decN b=some (m,s)):hkGood 0 s/\hkLen s<=300:=by
 simp only[decN,Option.bind_eq_some_iff]at h;obtain⟨m',h0,⟨s',k⟩,h1,h2⟩:=h;split at h2
 ·simp only[Option.some.injEq,Prod.mk.injEq]at h2
  obtain⟨rfl,rfl⟩:=h2;obtain⟨a,b1,c⟩:=hunksN_is hb h1 (modeN_len h0);exact⟨a,by omega⟩
 ·cases h2
theorem wr64{x:Int}(h : -9223372036854775808<=x)(h':x<9223372036854775808):wrap64 x=x:=by unfold wrap64;omega
theorem bsd{α β:Type}(a:α)(f:α->Option β):(some a).bind f=f a:=by simp
theorem rd_NN(b:List Int)(i:Nat):rd b (i:Int)=b.getD i 0:=rfl
theorem sign_eq(b:List Int)(i:Nat)(c:Int):zm.f b (i:Int) c=some (qQ b i c).isSome:=by
 unfold zm.f qQ;rw[if_pos (by omega)];by_cases h:i<b.length
 ·rw[if_pos (by omega),if_pos (by omega),rd_NN]
  by_cases e:b.getD i 0=c
  ·rw[if_pos ⟨h,e⟩,e];simp
  ·rw[if_neg (fun h'=>e h'.2)];simpa [List.getD_eq_getElem?_getD]using e
 ·rw[if_neg (by omega),if_neg (fun h'=>h h'.1)];rfl
theorem sign_neg(b:List Int)(c:Int):zm.f b (-1) c=some false:=by
 unfold zm.f;rw[if_neg (by omega)]
theorem ZO{b:List Int}{i:Nat}{c:Int}(h:(qQ b i c).isSome=true):qQ b i c=some (i+1)/\i<b.length:=by
 unfold qQ at h ⊢;split at h
 ·rename_i hc;exact⟨if_pos hc,hc.1⟩
 ·cases h
theorem ZP{b:List Int}{i:Nat}{c:Int}(h:(qQ b i c).isSome=false):qQ b i c=none:=by
 unfold qQ at h ⊢;split at h
 ·cases h
 ·rename_i hc;exact if_neg hc
theorem digit_mod{c:Int}(h1:48<=c)(h2:c<=57):(c-48) % 256=((c-48).toNat:Int):=by omega
def Qc(b:List Int)(a i n:Nat):Option (Nat×Nat) :=
 let q:=digN (b.drop i) n
 if i-a+q.1=0\/(1<i-a+q.1/\b.getD a 0=48)\/1048576<q.2 then none else some (q.2,i+q.1)
theorem numGo_start(b:List Int)(a:Nat):Qc b a a 0=numN b a:=by unfold Qc numN;simp
theorem numGo_step(b:List Int)(a i n:Nat)(ha:a<=i)(h:i<b.length)(h1:48<=b.getD i 0)(h2:b.getD i 0<=57):Qc b a i n=Qc b a (i+1) (10*n+(b.getD i 0-48).toNat):=by
 unfold Qc;rw[digN_step b i n h h1 h2];simp only;rw[show i-a+((digN (b.drop (i+1)) (10*n+(b.getD i 0-48).toNat)).1+1)=i+1-a+(digN (b.drop (i+1)) (10*n+(b.getD i 0-48).toNat)).1 by omega,show i+((digN (b.drop (i+1)) (10*n+(b.getD i 0-48).toNat)).1+1)=i+1+(digN (b.drop (i+1)) (10*n+(b.getD i 0-48).toNat)).1 by omega]
def ansN:Option (Nat×Nat)->Int×Int
 |some (n,j)=>((n:Int),(j:Int))
 |none=>(0,-1)
theorem Number_go(b:List Int)(hb:b.length<=100000)(a:Nat):∀ (d k i n:Nat),i+d=b.length->2*d+2<=k->a<=i->n<=10485769->(i=a->n=0)->(a<i->(n=0↔b.getD a 0=48)/\(b.getD a 0=48->i=a+1)) ->
 zk.l0 k b (a:Int) 1048576 (n:Int) (i:Int)=some (ansN (Qc b a i n)):=by
 intro d
 induction d with
 |zero =>
  intro k i n hi hk ha hn h0 h1;obtain⟨k,rfl⟩:∃ m,k=m+2:=⟨k-2,by omega⟩
  rw[zk.l0,if_neg (by omega),zk.j1,if_neg (by decide)];unfold Qc;rw[digN_stop b i n (fun h=>by omega)];simp only[Nat.add_zero];by_cases c1:i=a
  ·subst c1;rw[if_pos rfl,if_pos (by omega)];rfl
  ·rw[if_neg (by omega)]
   by_cases c2:1048576<n
   ·rw[if_pos (by omega),if_pos (by omega)];rfl
   ·rw[if_neg (by omega),if_neg (by
     rintro(h|h|h)
     ·omega
     ·have:=(h1 (by omega)).2 h.2;omega
     ·omega)];rfl
 |succ d ih =>
  intro k i n hi hk ha hn h0 h1;obtain⟨k,rfl⟩:∃ m,k=m+2:=⟨k-2,by omega⟩
  rw[zk.l0,if_pos (by omega),if_pos (by omega),rd_NN];by_cases c:48<=b.getD i 0/\b.getD i 0<=57
  ·obtain⟨c1,c2⟩:=c
   rw[if_pos c1,Qm c2,zk.j1,if_pos rfl,rd_NN,digit_mod c1 c2];rw[numGo_step b a i n ha (by omega) c1 c2];have hd:(b.getD i 0-48).toNat<=9:=by omega
   have big:∀ h:1048576<n,Qc b a (i+1) (10*n+(b.getD i 0-48).toNat)=none:=fun h=>by
    unfold Qc;have:=digN_le (b.drop (i+1)) (10*n+(b.getD i 0-48).toNat);exact if_pos (by omega)
   have next:n<=1048576->¬ (a<i/\n=0)->zk.l0 k b (a:Int) 1048576 (wrap64 (wrap64 ((n:Int)*10)+((b.getD i 0-48).toNat:Int))) (wrap64 ((i:Int)+1))=some (ansN (Qc b a (i+1) (10*n+(b.getD i 0-48).toNat))):=fun hn' hz=>by
    have h4:=ih k (i+1) (10*n+(b.getD i 0-48).toNat) (by omega) (by omega) (by omega) (by omega) (by omega) (fun _=>by
     by_cases hia:i=a
     ·subst hia
      have:=h0 rfl;exact⟨by omega,by omega⟩
     ·have h2:=h1 (by omega)
      have hn0:n≠0:=fun e=>hz ⟨by omega,e⟩
      exact⟨⟨fun e=>by omega,fun e=>absurd (h2.1.2 e) hn0⟩,fun e=>absurd (h2.1.2 e) hn0⟩)
    rw[wr64 (x:=(n:Int)*10) (by omega) (by omega),wr64 (x:=(n:Int)*10+_) (by omega) (by omega),wr64 (x:=(i:Int)+1) (by omega) (by omega)];rw[show (n:Int)*10+((b.getD i 0-48).toNat:Int)=((10*n+(b.getD i 0-48).toNat:Nat):Int) by omega,show (i:Int)+1=((i+1:Nat):Int) by omega]
    exact h4
   by_cases c3:a<i
   ·rw[if_pos (by omega)]
    by_cases c4:n=0
    ·subst c4
     rw[if_pos (by rfl)];have h48:=(h1 c3).1.1 rfl;unfold Qc;rw[if_pos (.inr (.inl ⟨by omega,h48⟩))];rfl
    ·rw[if_neg (by omega)]
     by_cases c5:1048576<n
     ·rw[if_pos (by omega),big c5];rfl
     ·rw[if_neg (by omega),if_pos (by omega),if_pos (by omega)]
      exact next (by omega) (fun h=>c4 h.2)
   ·rw[if_neg (by omega)]
    by_cases c5:1048576<n
    ·rw[if_pos (by omega),big c5];rfl
    ·rw[if_neg (by omega),if_pos (by omega),if_pos (by omega)]
     exact next (by omega) (fun h=>c3 h.1)
  ·have e:zk.l0 (k+1+1) b (a:Int) 1048576 (n:Int) (i:Int)=zk.j1 (k+1) b (a:Int) 1048576 (n:Int) (i:Int) false:=by
    rw[zk.l0,if_pos (by omega),if_pos (by omega),rd_NN];by_cases c1:48<=b.getD i 0
    ·rw[if_pos c1,Qn (fun h=>c ⟨c1,h⟩)]
    ·rw[if_neg c1]
   rw[zk.l0,if_pos (by omega),if_pos (by omega),rd_NN]at e;rw[e,zk.j1,if_neg (by decide)];unfold Qc;rw[digN_stop b i n (fun h=>c h.2)];simp only[Nat.add_zero];by_cases c1:i=a
   ·subst c1;rw[if_pos rfl,if_pos (by omega)];rfl
   ·rw[if_neg (by omega)]
    by_cases c2:1048576<n
    ·rw[if_pos (by omega),if_pos (by omega)];rfl
    ·rw[if_neg (by omega),if_neg (by
      rintro(h|h|h)
      ·omega
      ·have:=(h1 (by omega)).2 h.2;omega
      ·omega)];rfl
theorem Number_eq(b:List Int)(hb:b.length<=300)(a:Nat)(ha:a<=b.length)(k:Nat)(hk:700<=k):zk.f k b (a:Int) 1048576=some (ansN (numN b a)):=by
 unfold zk.f;rw[← numGo_start];exact Number_go b (by omega) a (b.length-a) k a 0 (by omega) (by omega) (Nat.le_refl _) (by omega) (fun _=>rfl) (fun h=>absurd h (by omega))
def qq.f:Option Bool:=some true
theorem qq.calls(r:Bool)(w:World)(h:qq.f=some r)(hr_:r=true) :
 Calls Tryz.prog 8 #[] w fun e w'=>e=.returned (.bool r)/\Below w.heap.size w w':=by
 obtain rfl:=Qp h;exact top_awake.calls w
def zt.j0:Nat->List Int->List Int->Bool->Option (Bool)
 |0,_,_,_=>none
 |k+1,x0,x1,x36=>if x36=true then(some true)else((zc.f k x0).bind fun bt1020=>(if bt1020.2.2.2=0 then((zA.f k bt1020.1 x1).bind fun bt1031=>((z2.f k bt1020.2.1 bt1031.1).bind fun bt1035=>(if bt1035.2=0 then((qg.f k x0 x1).bind fun bt1044=>((zL.f k bt1020.2.1).bind fun bt1049=>((zY.f k bt1031.1 bt1035.1).bind fun bt1051=>(if bt1044.2.2=0 then((zM.f k bt1035.1).bind fun t1058=>(if (strOfNums bt1044.1).toList=(strOfNums t1058).toList then((z6.f k bt1051.1 bt1051.2.1).bind fun t1061=>(if (wrap64 (bt1049.1+bt1049.2))≥t1061 then(if (wrap64 (bt1049.1+bt1049.2))≥(wrap64 ((bt1031.1.length:Int)-(bt1035.1.length:Int)))then(some (decide ((wrap64 (bt1049.1+bt1049.2))≥(wrap64 ((bt1035.1.length:Int)-(bt1031.1.length:Int))))))else(some false))else(some false)))else(some false)))else(some false)))))else((qg.f k x0 x1).bind fun bt1039=>(if bt1039.2.2=bt1035.2 then(some ((bt1035.1.length:Int) == 0))else(some false))))))else((qg.f k x0 x1).bind fun bt1026=>(if bt1026.2.2=4 then(some ((bt1026.1.length:Int) == 0))else(some false)))))
def zt.f(k:Nat)(l0:List Int)(l1:List Int):Option (Bool):=(qq.f).bind fun t1019=>(if t1019=true then(if (l0.length:Int) > 300 then(zt.j0 k l0 l1 true)else(zt.j0 k l0 l1 (decide ((l1.length:Int) > 24))))else(some false))
def zt.T17:Bool×List (List Nat×List Nat):=(true,[([],[]),([0],[0]),([1],[1]),([2],[2]),([3,2],[2,3]),([2],[2]),([5,2,2],[2,5]),([6,2],[2,6]),([4,7,2],[2,4,7]),([2,8],[2,8]),([9,6],[9]),([10],[10]),([10],[10]),([11,12,10],[10,11,12]),([10],[10]),([10],[10]),([14,15,10,10],[10,14,15]),([13,16,10],[10,13,16]),([10,17],[10,17]),([18,16],[18]),([19],[19]),([19],[19]),([20,21,19],[19,20,21]),([19],[19]),([23,19],[19,23]),([19],[19]),([25,19],[19,25]),([24,26,19],[19,24,26]),([22,27,19],[19,22,27]),([19,28],[19,28]),([29,19],[29]),([30],[30]),([30],[30]),([31,32,30],[30,31,32]),([30],[30]),([34,30],[30,34]),([30],[30]),([36,30],[30,36]),([35,37,30],[30,35,37]),([33,38,30],[30,33,38]),([30,39],[30,39]),([40,30,0,1,2,3,4,5,6,7,8,9,10,11,12,13,14,15,16,17,18,19,20,21,22,23,24,25,26,27,28,29,30,31,32,33,34,35,36,37,38,39,40],[40])])
def zt.B17:List Nat:=[0,1,3,7,15,7,39,103,255,511,1023,2047,2047,8191,2047,2047,51199,131071,262143,524287,1048575,1048575,4194303,1048575,9437183,1048575,34603007,126877695,268435455,536870911,1073741823,2147483647,2147483647,8589934591,2147483647,19327352831,2147483647,70866960383,259845521407,549755813887,1099511627775,2199023255551]
theorem zt.tab17:rtab .any (opsOf Tryz.f7 17)=zt.T17:=by kernel_rfl
theorem zt.bits17:Zq zt.T17.2 zt.B17=true:=by kernel_rfl
theorem zt.calls(k:Nat)(A0:Option Addr)(c0:Nat)(l0:List Int)(A1:Option Addr)(c1:Nat)(l1:List Int)(r:Bool)(w:World)(hr0:Kd.C (Kd.int .u8) w A0 l0.length l0)(hc0:l0.length<=c0)(hr1:Kd.C (Kd.int .u8) w A1 l1.length l1)(hc1:l1.length<=c1)(h:zt.f k l0 l1=some r)(hr_:r=true) :
 Calls Tryz.prog 7 #[.slice A0 l0.length c0,.slice A1 l1.length c1] w fun e w'=>e=.returned (.bool r)/\Below w.heap.size w w':=by
 have HR0:=Qk hr0
 have HC0:=Qk hc0
 clear hr0 hc0
 have HR1:=Qk hr1
 have HC1:=Qk hc1
 clear hr1 hc1
 have HB:=Qk (Below.refl w.heap.size w)
 have H:((qq.f).bind fun t1019=>(if t1019=true then(if (l0.length:Int) > 300 then(zt.j0 k l0 l1 true)else(zt.j0 k l0 l1 (decide ((l1.length:Int) > 24))))else(some false)))=some r:=h
 clear h
 replace H:=Qo H
 obtain⟨t1019,A30,H⟩:=H
 replace H:(if t1019=true then(if (l0.length:Int) > 300 then(zt.j0 k l0 l1 true)else(zt.j0 k l0 l1 (decide ((l1.length:Int) > 24))))else(some false))=some r:=H
 have A3:=Qk A30
 clear A30
 by_cases c4:t1019=true
 ·subst c4
  have H1:(if (l0.length:Int) > 300 then(zt.j0 k l0 l1 true)else(zt.j0 k l0 l1 (decide ((l1.length:Int) > 24))))=some r:=by rw[if_pos rfl]at H;exact H
  clear H
  have H:=H1
  clear H1
  have HC5:=Qk H
  clear H
  go_enter Tryz.func7,Tryz.ntmps7
  go_upto_region 3 with(first|(go_at_call 8;(with_reducible refine(qq.calls true _ A3.out rfl).mono ?_);rintro e w6 ⟨rfl,hb⟩;replace HB:=Qk (zi HB.out hb)))
  go_cut [36] (fun v36 wc=>∃ (kq:Nat) (x36_4:Bool),v36=.bool x36_4/\Aside0 (zt.j0 kq l0 l1 x36_4=some r)/\Aside0 (kq<=k)/\Aside0 (Below w.heap.size w wc))
  case first =>
   have H:=HC5.out
   clear HC5
   by_cases c7:(l0.length:Int) > 300
   ·rw[if_pos c7]at H
    have c7b0:decide (300<(l0.length:Int))=true:=Qm c7
    have c7b1:decide (300<l0.length)=true:=Qm (by omega)
    clear c7
    (first|rw[c7b0]|(simp only[zp,zw];rw[c7b0])|skip)
    have H':=Qk H
    clear H
    go_wp2
    go_meet
    case rel=>exact⟨_,(true),rfl,H',⟨by first|omega|exact Nat.le_refl _⟩,⟨HB.out⟩⟩
   ·rw[if_neg c7]at H
    have c7b0:decide (300<(l0.length:Int))=false:=Qn c7
    have c7b1:decide (300<l0.length)=false:=Qn (by omega)
    clear c7
    (first|rw[c7b0]|(simp only[zp,zw];rw[c7b0])|skip)
    have H':=Qk H
    clear H
    go_wp2
    go_meet
    case rel=>exact⟨_,(decide ((l1.length:Int) > 24)),rfl,H',⟨by first|omega|exact Nat.le_refl _⟩,⟨HB.out⟩⟩
  case rest =>
   clear HC5
   obtain⟨kq,x36_4,rfl,HA,HJ4,HB⟩:=hcut
   cases kq with
   |zero=>exact absurd HA.out (by simp[zt.j0])
   |succ kj4 =>
    have H:=HA.out
    clear HA
    simp only[zt.j0]at H
    by_cases c8:x36_4=true
    ·subst c8
     have H1:(some true)=some r:=by rw[if_pos rfl]at H;exact H
     clear H
     have H:=H1
     clear H1
     obtain rfl:=Qp H
     go_wp2
     go_ret
     exact⟨rfl,HB.out⟩
    ·replace c8:=Bool.eq_false_iff.mpr c8
     subst c8
     have H1:((zc.f kj4 l0).bind fun bt1020=>(if bt1020.2.2.2=0 then((zA.f kj4 bt1020.1 l1).bind fun bt1031=>((z2.f kj4 bt1020.2.1 bt1031.1).bind fun bt1035=>(if bt1035.2=0 then((qg.f kj4 l0 l1).bind fun bt1044=>((zL.f kj4 bt1020.2.1).bind fun bt1049=>((zY.f kj4 bt1031.1 bt1035.1).bind fun bt1051=>(if bt1044.2.2=0 then((zM.f kj4 bt1035.1).bind fun t1058=>(if (strOfNums bt1044.1).toList=(strOfNums t1058).toList then((z6.f kj4 bt1051.1 bt1051.2.1).bind fun t1061=>(if (wrap64 (bt1049.1+bt1049.2))≥t1061 then(if (wrap64 (bt1049.1+bt1049.2))≥(wrap64 ((bt1031.1.length:Int)-(bt1035.1.length:Int)))then(some (decide ((wrap64 (bt1049.1+bt1049.2))≥(wrap64 ((bt1035.1.length:Int)-(bt1031.1.length:Int))))))else(some false))else(some false)))else(some false)))else(some false)))))else((qg.f kj4 l0 l1).bind fun bt1039=>(if bt1039.2.2=bt1035.2 then(some ((bt1035.1.length:Int) == 0))else(some false))))))else((qg.f kj4 l0 l1).bind fun bt1026=>(if bt1026.2.2=4 then(some ((bt1026.1.length:Int) == 0))else(some false)))))=some r:=by rw[if_neg (show ¬ (false=true) by decide)]at H;exact H
     clear H
     have H:=H1
     clear H1
     replace H:=Qo H
     obtain⟨⟨t1020,t1021,t1024,t1025⟩,A90,H⟩:=H
     replace H:(if t1025=0 then((zA.f kj4 t1020 l1).bind fun bt1031=>((z2.f kj4 t1021 bt1031.1).bind fun bt1035=>(if bt1035.2=0 then((qg.f kj4 l0 l1).bind fun bt1044=>((zL.f kj4 t1021).bind fun bt1049=>((zY.f kj4 bt1031.1 bt1035.1).bind fun bt1051=>(if bt1044.2.2=0 then((zM.f kj4 bt1035.1).bind fun t1058=>(if (strOfNums bt1044.1).toList=(strOfNums t1058).toList then((z6.f kj4 bt1051.1 bt1051.2.1).bind fun t1061=>(if (wrap64 (bt1049.1+bt1049.2))≥t1061 then(if (wrap64 (bt1049.1+bt1049.2))≥(wrap64 ((bt1031.1.length:Int)-(bt1035.1.length:Int)))then(some (decide ((wrap64 (bt1049.1+bt1049.2))≥(wrap64 ((bt1035.1.length:Int)-(bt1031.1.length:Int))))))else(some false))else(some false)))else(some false)))else(some false)))))else((qg.f kj4 l0 l1).bind fun bt1039=>(if bt1039.2.2=bt1035.2 then(some ((bt1035.1.length:Int) == 0))else(some false))))))else((qg.f kj4 l0 l1).bind fun bt1026=>(if bt1026.2.2=4 then(some ((bt1026.1.length:Int) == 0))else(some false))))=some r:=H
     have A9:=Qk A90
     clear A90
     by_cases c10:t1025=0
     ·rw[if_pos c10]at H
      have c10b0:(t1025 == 0)=true:=beq_iff_eq.mpr c10
      have c10b1:(t1025 != 0)=false:=bne_eq_false_iff_eq.mpr c10
      clear c10
      replace H:=Qo H
      obtain⟨⟨t1031,t1034⟩,A110,H⟩:=H
      replace H:((z2.f kj4 t1021 t1031).bind fun bt1035=>(if bt1035.2=0 then((qg.f kj4 l0 l1).bind fun bt1044=>((zL.f kj4 t1021).bind fun bt1049=>((zY.f kj4 t1031 bt1035.1).bind fun bt1051=>(if bt1044.2.2=0 then((zM.f kj4 bt1035.1).bind fun t1058=>(if (strOfNums bt1044.1).toList=(strOfNums t1058).toList then((z6.f kj4 bt1051.1 bt1051.2.1).bind fun t1061=>(if (wrap64 (bt1049.1+bt1049.2))≥t1061 then(if (wrap64 (bt1049.1+bt1049.2))≥(wrap64 ((t1031.length:Int)-(bt1035.1.length:Int)))then(some (decide ((wrap64 (bt1049.1+bt1049.2))≥(wrap64 ((bt1035.1.length:Int)-(t1031.length:Int))))))else(some false))else(some false)))else(some false)))else(some false)))))else((qg.f kj4 l0 l1).bind fun bt1039=>(if bt1039.2.2=bt1035.2 then(some ((bt1035.1.length:Int) == 0))else(some false)))))=some r:=H
      have A11:=Qk A110
      clear A110
      replace H:=Qo H
      obtain⟨⟨t1035,t1038⟩,A120,H⟩:=H
      replace H:(if t1038=0 then((qg.f kj4 l0 l1).bind fun bt1044=>((zL.f kj4 t1021).bind fun bt1049=>((zY.f kj4 t1031 t1035).bind fun bt1051=>(if bt1044.2.2=0 then((zM.f kj4 t1035).bind fun t1058=>(if (strOfNums bt1044.1).toList=(strOfNums t1058).toList then((z6.f kj4 bt1051.1 bt1051.2.1).bind fun t1061=>(if (wrap64 (bt1049.1+bt1049.2))≥t1061 then(if (wrap64 (bt1049.1+bt1049.2))≥(wrap64 ((t1031.length:Int)-(t1035.length:Int)))then(some (decide ((wrap64 (bt1049.1+bt1049.2))≥(wrap64 ((t1035.length:Int)-(t1031.length:Int))))))else(some false))else(some false)))else(some false)))else(some false)))))else((qg.f kj4 l0 l1).bind fun bt1039=>(if bt1039.2.2=t1038 then(some ((t1035.length:Int) == 0))else(some false))))=some r:=H
      have A12:=Qk A120
      clear A120
      by_cases c13:t1038=0
      ·rw[if_pos c13]at H
       have c13b0:(t1038 == 0)=true:=beq_iff_eq.mpr c13
       have c13b1:(t1038 != 0)=false:=bne_eq_false_iff_eq.mpr c13
       clear c13
       replace H:=Qo H
       obtain⟨⟨t1044,t1045,t1046⟩,A140,H⟩:=H
       replace H:((zL.f kj4 t1021).bind fun bt1049=>((zY.f kj4 t1031 t1035).bind fun bt1051=>(if t1046=0 then((zM.f kj4 t1035).bind fun t1058=>(if (strOfNums t1044).toList=(strOfNums t1058).toList then((z6.f kj4 bt1051.1 bt1051.2.1).bind fun t1061=>(if (wrap64 (bt1049.1+bt1049.2))≥t1061 then(if (wrap64 (bt1049.1+bt1049.2))≥(wrap64 ((t1031.length:Int)-(t1035.length:Int)))then(some (decide ((wrap64 (bt1049.1+bt1049.2))≥(wrap64 ((t1035.length:Int)-(t1031.length:Int))))))else(some false))else(some false)))else(some false)))else(some false))))=some r:=H
       have A14:=Qk A140
       clear A140
       replace H:=Qo H
       obtain⟨⟨t1049,t1050⟩,A150,H⟩:=H
       replace H:((zY.f kj4 t1031 t1035).bind fun bt1051=>(if t1046=0 then((zM.f kj4 t1035).bind fun t1058=>(if (strOfNums t1044).toList=(strOfNums t1058).toList then((z6.f kj4 bt1051.1 bt1051.2.1).bind fun t1061=>(if (wrap64 (t1049+t1050))≥t1061 then(if (wrap64 (t1049+t1050))≥(wrap64 ((t1031.length:Int)-(t1035.length:Int)))then(some (decide ((wrap64 (t1049+t1050))≥(wrap64 ((t1035.length:Int)-(t1031.length:Int))))))else(some false))else(some false)))else(some false)))else(some false)))=some r:=H
       have A15:=Qk A150
       clear A150
       replace H:=Qo H
       obtain⟨⟨t1051,t1054,t1057⟩,A160,H⟩:=H
       replace H:(if t1046=0 then((zM.f kj4 t1035).bind fun t1058=>(if (strOfNums t1044).toList=(strOfNums t1058).toList then((z6.f kj4 t1051 t1054).bind fun t1061=>(if (wrap64 (t1049+t1050))≥t1061 then(if (wrap64 (t1049+t1050))≥(wrap64 ((t1031.length:Int)-(t1035.length:Int)))then(some (decide ((wrap64 (t1049+t1050))≥(wrap64 ((t1035.length:Int)-(t1031.length:Int))))))else(some false))else(some false)))else(some false)))else(some false))=some r:=H
       have A16:=Qk A160
       clear A160
       by_cases c17:t1046=0
       ·rw[if_pos c17]at H
        have c17b0:(t1046 == 0)=true:=beq_iff_eq.mpr c17
        have c17b1:(t1046 != 0)=false:=bne_eq_false_iff_eq.mpr c17
        clear c17
        replace H:=Qo H
        obtain⟨t1058,A180,H⟩:=H
        replace H:(if (strOfNums t1044).toList=(strOfNums t1058).toList then((z6.f kj4 t1051 t1054).bind fun t1061=>(if (wrap64 (t1049+t1050))≥t1061 then(if (wrap64 (t1049+t1050))≥(wrap64 ((t1031.length:Int)-(t1035.length:Int)))then(some (decide ((wrap64 (t1049+t1050))≥(wrap64 ((t1035.length:Int)-(t1031.length:Int))))))else(some false))else(some false)))else(some false))=some r:=H
        have A18:=Qk A180
        clear A180
        by_cases c19:(strOfNums t1044).toList=(strOfNums t1058).toList
        ·rw[if_pos c19]at H
         have c19b0:((strOfNums t1044).toList == (strOfNums t1058).toList)=true:=beq_iff_eq.mpr c19
         have c19b1:((strOfNums t1044).toList != (strOfNums t1058).toList)=false:=bne_eq_false_iff_eq.mpr c19
         clear c19
         replace H:=Qo H
         obtain⟨t1061,A200,H⟩:=H
         replace H:(if (wrap64 (t1049+t1050))≥t1061 then(if (wrap64 (t1049+t1050))≥(wrap64 ((t1031.length:Int)-(t1035.length:Int)))then(some (decide ((wrap64 (t1049+t1050))≥(wrap64 ((t1035.length:Int)-(t1031.length:Int))))))else(some false))else(some false))=some r:=H
         have A20:=Qk A200
         clear A200
         by_cases c21:(wrap64 (t1049+t1050))≥t1061
         ·rw[if_pos c21]at H
          have c21b0:decide (t1061<=(wrap64 (t1049+t1050)))=true:=Qm c21
          clear c21
          by_cases c22:(wrap64 (t1049+t1050))≥(wrap64 ((t1031.length:Int)-(t1035.length:Int)))
          ·rw[if_pos c22]at H
           have c22b0:decide ((wrap64 ((t1031.length:Int)-(t1035.length:Int)))<=(wrap64 (t1049+t1050)))=true:=Qm c22
           clear c22
           obtain rfl:=Qp H
           try go_wp2_with (first|(go_at_call 21;(with_reducible refine(zc.calls kj4 (fun k_=>k_<w.heap.size) _ _ l0 t1020 t1021 t1024 t1025 _ ?side1 A9.out).mono ?_);(case side1=>exact Kd.V_mk HC0.out (Kd.F_below (Kd.C_F (Kd.heap_int .u8) HR0.out) (by repeat(first|(with_reducible first|exact HB.out|apply za|apply zb|apply zg)|exact HB.out))));rintro e w23 ⟨v1022,rfl,ho0,hb⟩;have n0_:=Qk (Kd.N_lower (Kd.N_mono (ok':=fun k_=>True) (by first|exact ho0|exact Kd.S_N ho0|exact Kd.R_N ho0) (fun k_ hk_=>trivial)) (ze (by repeat(first|(with_reducible first|exact HB.out|apply za|apply zb|apply zg)|exact HB.out))));have n1_:=Qk (zi (by repeat(first|(with_reducible first|exact HB.out|apply za|apply zb|apply zg)|exact HB.out)) hb);clear HB;have HO1023:=n0_;have HB:=n1_;clear n0_ n1_)|(go_at_call 23;(with_reducible refine(zA.calls kj4 t1020 (fun k_=>k_<w.heap.size) _ _ l1 t1031 t1034 _ ?side1 A11.out).mono ?_);(case side1=>exact Kd.V_mk HC1.out (Kd.F_below (Kd.C_F (Kd.heap_int .u8) HR1.out) (by repeat(first|(with_reducible first|exact HB.out|apply za|apply zb|apply zg)|exact HB.out))));rintro e w24 ⟨v1032,rfl,ho0,hb⟩;have n0_:=Qk (Kd.N_elder' (by(with_reducible repeat(first|apply Kd.N_alloc|apply Kd.N_drewN|apply Kd.N_drew));exact HO1023.out) (Kd.N_base ho0) hb);have n1_:=Qk (Kd.N_lower (Kd.N_mono (ok':=fun k_=>some k_≠(v1022:Value).ownBlock) ho0 (fun k_ hk_=>Or.elim hk_ (fun hs_=>fun e_=>Nat.not_le.2 hs_ (Kd.N_base HO1023.out k_ e_.symm)) (fun hn_=>(Kd.fresh' (Kd.N_lt (by(with_reducible repeat(first|apply Kd.N_alloc|apply Kd.N_drewN|apply Kd.N_drew));exact HO1023.out)) k_ hn_)))) (ze (by repeat(first|(with_reducible first|exact HB.out|apply za|apply zb|apply zg)|exact HB.out))));have n2_:=Qk (zi (by repeat(first|(with_reducible first|exact HB.out|apply za|apply zb|apply zg)|exact HB.out)) hb);clear HO1023;clear HB;have HO1023:=n0_;have HO1033:=n1_;have HB:=n2_;clear n0_ n1_ n2_;obtain⟨Ao25,co25,eo25⟩:=Kd.N_slice HO1023.out;subst eo25;obtain⟨Ao26,co26,eo26⟩:=Kd.N_slice HO1033.out;subst eo26)|(go_at_call 24;(with_reducible refine(z2.calls kj4 _ _ t1021 _ _ t1031 t1035 t1038 _ ?side1 ?side2 ?side3 ?side4 A12.out).mono ?_);(case side1=>repeat(first|exact(Kd.N_reads' HO1023.out).2.2|(with_reducible refine Kd.C_alloc ?_ _)|(with_reducible refine Kd.C_drewN ?_ _)|(with_reducible refine Kd.C_drew ?_)));(case side2=>exact(Kd.N_reads' HO1023.out).2.1);(case side3=>repeat(first|exact(Kd.N_reads' HO1033.out).2.2|(with_reducible refine Kd.C_alloc ?_ _)|(with_reducible refine Kd.C_drewN ?_ _)|(with_reducible refine Kd.C_drew ?_)));(case side4=>exact(Kd.N_reads' HO1033.out).2.1);rintro e w27 ⟨v1036,rfl,ho0,hb⟩;have n0_:=Qk (Kd.N_elder' (by(with_reducible repeat(first|apply Kd.N_alloc|apply Kd.N_drewN|apply Kd.N_drew));exact HO1023.out) (Kd.N_base ho0) hb);have n1_:=Qk (Kd.N_elder' (by(with_reducible repeat(first|apply Kd.N_alloc|apply Kd.N_drewN|apply Kd.N_drew));exact HO1033.out) (Kd.N_base ho0) hb);have n2_:=Qk (Kd.N_lower (Kd.N_mono (ok':=fun k_=>some k_≠(.slice Ao25 t1021.length co25:Value).ownBlock/\some k_≠(.slice Ao26 t1031.length co26:Value).ownBlock) ho0 (fun k_ hk_=>⟨(Kd.fresh' (Kd.N_lt (by(with_reducible repeat(first|apply Kd.N_alloc|apply Kd.N_drewN|apply Kd.N_drew));exact HO1023.out)) k_ hk_),(Kd.fresh' (Kd.N_lt (by(with_reducible repeat(first|apply Kd.N_alloc|apply Kd.N_drewN|apply Kd.N_drew));exact HO1033.out)) k_ hk_)⟩)) (ze (by repeat(first|(with_reducible first|exact HB.out|apply za|apply zb|apply zg)|exact HB.out))));have n3_:=Qk (zi (by repeat(first|(with_reducible first|exact HB.out|apply za|apply zb|apply zg)|exact HB.out)) hb);clear HO1023;clear HO1033;clear HB;have HO1023:=n0_;have HO1033:=n1_;have HO1037:=n2_;have HB:=n3_;clear n0_ n1_ n2_ n3_)|(go_at_call 22;(with_reducible refine(qg.calls kj4 _ _ l0 _ _ l1 t1044 t1045 t1046 _ ?side1 ?side2 ?side3 ?side4 A14.out).mono ?_);(case side1=>repeat(first|exact(Kd.C_below HR0.out HB.out)|(with_reducible refine Kd.C_alloc ?_ _)|(with_reducible refine Kd.C_drewN ?_ _)|(with_reducible refine Kd.C_drew ?_)));(case side2=>exact HC0.out);(case side3=>repeat(first|exact(Kd.C_below HR1.out HB.out)|(with_reducible refine Kd.C_alloc ?_ _)|(with_reducible refine Kd.C_drewN ?_ _)|(with_reducible refine Kd.C_drew ?_)));(case side4=>exact HC1.out);rintro e w28 ⟨v1047,rfl,ho0,hb⟩;have n0_:=Qk (Kd.N_elder' (by(with_reducible repeat(first|apply Kd.N_alloc|apply Kd.N_drewN|apply Kd.N_drew));exact HO1023.out) (Kd.R_base ho0) hb);have n1_:=Qk (Kd.N_elder' (by(with_reducible repeat(first|apply Kd.N_alloc|apply Kd.N_drewN|apply Kd.N_drew));exact HO1033.out) (Kd.R_base ho0) hb);have n2_:=Qk (Kd.N_elder' (by(with_reducible repeat(first|apply Kd.N_alloc|apply Kd.N_drewN|apply Kd.N_drew));exact HO1037.out) (Kd.R_base ho0) hb);have n3_:=Qk (Kd.R_lower ho0 (ze (by repeat(first|(with_reducible first|exact HB.out|apply za|apply zb|apply zg)|exact HB.out))));have n4_:=Qk (zi (by repeat(first|(with_reducible first|exact HB.out|apply za|apply zb|apply zg)|exact HB.out)) hb);clear HO1023;clear HO1033;clear HO1037;clear HB;have HO1023:=n0_;have HO1033:=n1_;have HO1037:=n2_;have HO1048:=n3_;have HB:=n4_;clear n0_ n1_ n2_ n3_ n4_)|(go_at_call 25;(with_reducible refine(zL.calls kj4 _ _ t1021 t1049 t1050 _ ?side1 ?side2 A15.out).mono ?_);(case side1=>repeat(first|exact(Kd.N_reads' HO1023.out).2.2|(with_reducible refine Kd.C_alloc ?_ _)|(with_reducible refine Kd.C_drewN ?_ _)|(with_reducible refine Kd.C_drew ?_)));(case side2=>exact(Kd.N_reads' HO1023.out).2.1);rintro e w' ⟨rfl,⟨nd,rfl⟩⟩;obtain⟨Ao29,co29,eo29⟩:=Kd.N_slice HO1037.out;subst eo29)|(go_at_call 26;(with_reducible refine(zY.calls kj4 (fun k_=>((some k_≠(.slice Ao25 t1021.length co25:Value).ownBlock/\some k_≠(.slice Ao29 t1035.length co29:Value).ownBlock)/\some k_≠(v1047:Value).ownBlock)) _ _ t1031 (fun k_=>((some k_≠(.slice Ao25 t1021.length co25:Value).ownBlock/\some k_≠(.slice Ao26 t1031.length co26:Value).ownBlock)/\some k_≠(v1047:Value).ownBlock)) _ _ t1035 t1051 t1054 t1057 _ ?side1 ?side2 A16.out).mono ?_);(case side1=>exact Kd.N_V (HO1033.out));(case side2=>exact Kd.N_V (HO1037.out));rintro e w30 ⟨v1052,v1055,rfl,ho0,ho1,hb⟩;have n0_:=Qk (Kd.N_mono (Kd.N_told (Kd.N_told (Kd.N_old (by(with_reducible repeat(first|apply Kd.N_alloc|apply Kd.N_drewN|apply Kd.N_drew));exact HO1023.out) hb) (Kd.R_base ho0)) (Kd.R_base ho1)) (fun _ h_=>h_.1));have n1_:=Qk (Kd.N_mono (Kd.N_told (Kd.N_told (Kd.N_old (by(with_reducible repeat(first|apply Kd.N_alloc|apply Kd.N_drewN|apply Kd.N_drew));exact HO1033.out) hb) (Kd.R_base ho0)) (Kd.R_base ho1)) (fun _ h_=>h_.1));have n2_:=Qk (Kd.N_mono (Kd.N_told (Kd.N_told (Kd.N_old (by(with_reducible repeat(first|apply Kd.N_alloc|apply Kd.N_drewN|apply Kd.N_drew));exact HO1037.out) hb) (Kd.R_base ho0)) (Kd.R_base ho1)) (fun _ h_=>h_.1));have n3_:=Qk (Kd.R_below (by(with_reducible repeat(first|apply Kd.R_alloc|apply Kd.R_drewN|apply Kd.R_drew));exact HO1048.out) hb);have n4_:=Qk (Kd.R_lower (Kd.R_mono (ok':=fun k_=>some k_≠(v1055:Value).ownBlock) ho0 (fun _ hk_=>hk_.2)) (ze (by repeat(first|(with_reducible first|exact HB.out|apply za|apply zb|apply zg)|exact HB.out))));have n5_:=Qk (Kd.R_lower (Kd.R_mono (ok':=fun k_=>some k_≠(v1052:Value).ownBlock) ho1 (fun _ hk_=>hk_.2)) (ze (by repeat(first|(with_reducible first|exact HB.out|apply za|apply zb|apply zg)|exact HB.out))));have n6_:=Qk (zi (by repeat(first|(with_reducible first|exact HB.out|apply za|apply zb|apply zg)|exact HB.out)) hb);clear HO1023;clear HO1033;clear HO1037;clear HO1048;clear HB;have HO1023:=n0_;have HO1033:=n1_;have HO1037:=n2_;have HO1048:=n3_;have HO1053:=n4_;have HO1056:=n5_;have HB:=n6_;clear n0_ n1_ n2_ n3_ n4_ n5_ n6_;obtain⟨Ao31,co31,eo31⟩:=Kd.R_slice HO1053.out;subst eo31;obtain⟨Ao32,co32,eo32⟩:=Kd.R_slice HO1056.out;subst eo32))
           have n0_:=Qk (Kd.N_drew HO1023.out)
           have n1_:=Qk (Kd.N_drew HO1033.out)
           have n2_:=Qk (Kd.N_drew HO1037.out)
           have n3_:=Qk (Kd.R_drew HO1048.out)
           have n4_:=Qk (Kd.R_drew HO1053.out)
           have n5_:=Qk (Kd.R_drew HO1056.out)
           have n6_:=Qk (zg HB.out)
           clear HO1023
           clear HO1033
           clear HO1037
           clear HO1048
           clear HO1053
           clear HO1056
           clear HB
           have HO1023:=n0_
           have HO1033:=n1_
           have HO1037:=n2_
           have HO1048:=n3_
           have HO1053:=n4_
           have HO1056:=n5_
           have HB:=n6_
           clear n0_ n1_ n2_ n3_ n4_ n5_ n6_
           have hcv34:=ZQ (P:=Tryz.prog) Tryz.underlying22 Tryz.underlying5 Tryz.underlying9 (Kd.own_of_R HO1048.out)
           have hcvd35:=fun nd_=>ZQ (P:=Tryz.prog) Tryz.underlying22 Tryz.underlying5 Tryz.underlying9 (Kd.own_of_R (Kd.R_drewN HO1048.out nd_))
           refine ZG (n:=42) (S:=fun w'=>(Sem.run Tryz.prog (convert 22 9 v1047) w'=.ok (.string (strOfNums t1044)) w')) (ds:=[]) #[N,N,N,N,N,N,N,N,N,N,N,N,N,N,N,N,N,N,N,N,N,N,N,N,N,N,N,N,N,N,N,N,N,N,N,N,N,N,N,N,N,N] (by kernel_rfl) rfl rfl hcv34 (fun hHeld=>?_);refine qR zt.tab17 zt.bits17 (fun HT_ HW_=>?_)
           generalize w30.drew=w33 at HO1023 HO1033 HO1037 HO1048 HO1053 HO1056 HB hHeld ⊢
           refine zG (i:=0) (N:=some 108) (v:=?_) (a':=?_) #[Y,N,N,N,N,N,N,N,N,N,N,N,N,N,N,N,N,N,N,N,N,N,N,N,N,N,N,N,N,N,N,N,N,N,N,N,N,N,N,N,N,N] rfl rfl (zu HT_.out (by kernel_rfl)) (fun _ _ _ h=>h) (Or.inl ⟨by rfl,?_⟩) ?_ ?_;rotate_left
           ·intro w';go_simp;with_reducible rfl
           rotate_left
           ·simp only[Act.put,sA,sB,sC,zp,zw];rfl
           refine zG (i:=1) (N:=some 109) (v:=?_) (a':=?_) #[Y,Y,N,N,N,N,N,N,N,N,N,N,N,N,N,N,N,N,N,N,N,N,N,N,N,N,N,N,N,N,N,N,N,N,N,N,N,N,N,N,N,N] rfl rfl (zu HT_.out (by kernel_rfl)) (fun _ _ _ h=>h) (Or.inl ⟨by rfl,?_⟩) ?_ ?_;rotate_left
           ·intro w';go_simp;with_reducible rfl
           rotate_left
           ·simp only[Act.put,sA,sB,sC,zp,zw];rfl
           refine zG (i:=2) (N:=some 110) (v:=?_) (a':=?_) #[Y,Y,Y,N,N,N,N,N,N,N,N,N,N,N,N,N,N,N,N,N,N,N,N,N,N,N,N,N,N,N,N,N,N,N,N,N,N,N,N,N,N,N] rfl rfl (zu HT_.out (by kernel_rfl)) (fun _ _ _ h=>h) (Or.inl ⟨by rfl,?_⟩) ?_ ?_;rotate_left
           ·intro w';go_simp;with_reducible rfl
           rotate_left
           ·simp only[Act.put,sA,sB,sC,zp,zw];rfl
           refine zG (i:=3) (N:=some 111) (v:=?_) (a':=?_) #[Y,Y,Y,Y,N,N,N,N,N,N,N,N,N,N,N,N,N,N,N,N,N,N,N,N,N,N,N,N,N,N,N,N,N,N,N,N,N,N,N,N,N,N] rfl rfl (zu HT_.out (by kernel_rfl)) (fun _ _ _ h=>h) (Or.inl ⟨by rfl,?_⟩) ?_ ?_;rotate_left
           ·intro w';go_simp;with_reducible rfl
           rotate_left
           ·simp only[Act.put,sA,sB,sC,zp,zw];rfl
           refine take_ (i:=4) (N:=some 112) (v:=.string (strOfNums t1044)) (a':=?a4) #[Y,Y,Y,Y,Y,N,N,N,N,N,N,N,N,N,N,N,N,N,N,N,N,N,N,N,N,N,N,N,N,N,N,N,N,N,N,N,N,N,N,N,N,N] rfl rfl (by kernel_rfl) (fun _ _ _ h=>h) (Or.inl ⟨by rfl,?hy4⟩) hHeld ?ha4 ?hn4
           case hy4=>intro w' hS_;have hS_:(Sem.run Tryz.prog (convert 22 9 v1047) w'=.ok (.string (strOfNums t1044)) w'):=hS_;go_simp
           case ha4=>simp only[Act.put,sA,sB,sC,zp,zw];rfl
           refine zG (i:=5) (N:=some 113) (v:=?_) (a':=?_) #[Y,Y,Y,Y,Y,Y,N,N,N,N,N,N,N,N,N,N,N,N,N,N,N,N,N,N,N,N,N,N,N,N,N,N,N,N,N,N,N,N,N,N,N,N] rfl rfl (zu HT_.out (by kernel_rfl)) (fun _ _ _ h=>h) (Or.inl ⟨by rfl,?_⟩) ?_ ?_;rotate_left
           ·intro w';go_simp;with_reducible rfl
           rotate_left
           ·simp only[Act.put,sA,sB,sC,zp,zw];rfl
           refine one_ (i:=6) (N:=some 114) #[Y,Y,Y,Y,Y,Y,Y,N,N,N,N,N,N,N,N,N,N,N,N,N,N,N,N,N,N,N,N,N,N,N,N,N,N,N,N,N,N,N,N,N,N,N] rfl rfl (one_of HT_.out (by kernel_rfl)) (by decide) (fun K hK=>?_)
           refine goes_ Tryz.func27 (by kernel_rfl) rfl #[.slice Ao29 t1035.length co29] (by rfl) rfl rfl (by(try simp only[List.map_toArray,List.map_cons,List.map_nil]);first|done|rfl|(simp only[List.length_drop,List.length_take];rfl)) ?_
           with_reducible refine(zM.calls kj4 _ _ t1035 t1058 _ ?side1 ?side2 A18.out).mono ?_
           (case side1=>repeat(first|exact(Kd.N_reads' HO1037.out).2.2|(with_reducible refine Kd.C_alloc ?_ _)|(with_reducible refine Kd.C_drewN ?_ _)|(with_reducible refine Kd.C_drew ?_)))
           (case side2=>exact(Kd.N_reads' HO1037.out).2.1)
           rintro e w36 ⟨v1059,rfl,ho0,hb⟩
           refine⟨_,rfl,?_⟩
           have n0_:=Qk (Kd.N_elder' HO1023.out (Kd.R_base ho0) hb)
           have n1_:=Qk (Kd.N_elder' HO1033.out (Kd.R_base ho0) hb)
           have n2_:=Qk (Kd.N_elder' HO1037.out (Kd.R_base ho0) hb)
           have n3_:=Qk (Kd.R_elder' HO1048.out (Kd.R_base ho0) hb)
           have n4_:=Qk (Kd.R_below HO1053.out hb)
           have n5_:=Qk (Kd.R_below HO1056.out hb)
           have n6_:=Qk (Kd.R_lower (Kd.R_new' ho0 (Kd.R_lt HO1048.out)) (ze HB.out))
           have n7_:=Qk (zi HB.out hb)
           clear HO1023
           clear HO1033
           clear HO1037
           clear HO1048
           clear HO1053
           clear HO1056
           clear HB
           have HO1023:=n0_
           have HO1033:=n1_
           have HO1037:=n2_
           have HO1048:=n3_
           have HO1053:=n4_
           have HO1056:=n5_
           have HO1060:=n6_
           have HB:=n7_
           clear n0_ n1_ n2_ n3_ n4_ n5_ n6_ n7_
           refine hK.out _ _ (ZQ (P:=Tryz.prog) Tryz.underlying22 Tryz.underlying5 Tryz.underlying9 (Kd.own_of_R HO1048.out)) (fun hHeld=>?_)
           clear hK K
           refine norm_ (a':=?_) ?_ ?_
           rotate_left
           ·show Act.put _ (some 114) _=_
            simp only[Act.put,sA,sB,sC,zp,zw];rfl
           refine one_ (i:=7) (N:=some 115) #[Y,Y,Y,Y,Y,Y,Y,Y,N,N,N,N,N,N,N,N,N,N,N,N,N,N,N,N,N,N,N,N,N,N,N,N,N,N,N,N,N,N,N,N,N,N] rfl rfl (one_of HT_.out (by kernel_rfl)) (by decide) (fun K hK=>?_)
           have hcv37:=ZQ (P:=Tryz.prog) Tryz.underlying22 Tryz.underlying5 Tryz.underlying9 (Kd.own_of_R HO1060.out)
           refine value_ (w1:=?_) (v:=?_) (by rfl) rfl ?_ ?_
           rotate_left 2
           ·go_simp
            constructor
            ·rfl
            ·rfl
           clear hcv37
           refine hK.out _ _ (ZQ (P:=Tryz.prog) Tryz.underlying22 Tryz.underlying5 Tryz.underlying9 (Kd.own_of_R HO1048.out)) (fun hHeld=>?_)
           clear hK K
           refine norm_ (a':=?_) ?_ ?_
           rotate_left
           ·show Act.put _ (some 115) _=_
            simp only[Act.put,sA,sB,sC,zp,zw];rfl
           refine zG (i:=8) (N:=some 116) (v:=?_) (a':=?_) #[Y,Y,Y,Y,Y,Y,Y,Y,Y,N,N,N,N,N,N,N,N,N,N,N,N,N,N,N,N,N,N,N,N,N,N,N,N,N,N,N,N,N,N,N,N,N] rfl rfl (zu HT_.out (by kernel_rfl)) (fun _ _ _ h=>h) (Or.inl ⟨by rfl,?_⟩) ?_ ?_;rotate_left
           ·intro w';go_simp;with_reducible rfl
           rotate_left
           ·simp only[Act.put,sA,sB,sC,zp,zw];rfl
           refine zG (i:=9) (N:=some 117) (v:=?_) (a':=?_) #[Y,Y,Y,Y,Y,Y,Y,Y,Y,Y,N,N,N,N,N,N,N,N,N,N,N,N,N,N,N,N,N,N,N,N,N,N,N,N,N,N,N,N,N,N,N,N] rfl rfl (zu HT_.out (by kernel_rfl)) (fun _ _ _ h=>h) (Or.inl ⟨by rfl,?_⟩) ?_ ?_;rotate_left
           ·intro w';go_simp;with_reducible rfl
           rotate_left
           ·simp only[Act.put,sA,sB,sC,zp,zw];rfl
           refine zG (i:=10) (N:=some 118) (v:=?_) (a':=?_) #[Y,Y,Y,Y,Y,Y,Y,Y,Y,Y,Y,N,N,N,N,N,N,N,N,N,N,N,N,N,N,N,N,N,N,N,N,N,N,N,N,N,N,N,N,N,N,N] rfl rfl (zu HT_.out (by kernel_rfl)) (fun _ _ _ h=>h) (Or.inl ⟨by rfl,?_⟩) ?_ ?_;rotate_left
           ·intro w';go_simp;with_reducible rfl
           rotate_left
           ·simp only[Act.put,sA,sB,sC,zp,zw];rfl
           refine zG (i:=11) (N:=some 119) (v:=?_) (a':=?_) #[Y,Y,Y,Y,Y,Y,Y,Y,Y,Y,Y,Y,N,N,N,N,N,N,N,N,N,N,N,N,N,N,N,N,N,N,N,N,N,N,N,N,N,N,N,N,N,N] rfl rfl (zu HT_.out (by kernel_rfl)) (fun _ _ _ h=>h) (Or.inl ⟨by rfl,?_⟩) ?_ ?_;rotate_left
           ·intro w';go_simp;with_reducible rfl
           rotate_left
           ·simp only[Act.put,sA,sB,sC,zp,zw];rfl
           refine zG (i:=12) (N:=some 120) (v:=?_) (a':=?_) #[Y,Y,Y,Y,Y,Y,Y,Y,Y,Y,Y,Y,Y,N,N,N,N,N,N,N,N,N,N,N,N,N,N,N,N,N,N,N,N,N,N,N,N,N,N,N,N,N] rfl rfl (zu HT_.out (by kernel_rfl)) (fun _ _ _ h=>h) (Or.inl ⟨by rfl,?_⟩) ?_ ?_;rotate_left
           ·intro w';go_simp;with_reducible rfl
           rotate_left
           ·simp only[Act.put,sA,sB,sC,zp,zw];rfl
           refine zG (i:=13) (N:=some 121) (v:=?_) (a':=?_) #[Y,Y,Y,Y,Y,Y,Y,Y,Y,Y,Y,Y,Y,Y,N,N,N,N,N,N,N,N,N,N,N,N,N,N,N,N,N,N,N,N,N,N,N,N,N,N,N,N] rfl rfl (zu HT_.out (by kernel_rfl)) (fun _ _ _ h=>h) (Or.inl ⟨by rfl,?_⟩) ?_ ?_;rotate_left
           ·intro w';go_simp;with_reducible rfl
           rotate_left
           ·simp only[Act.put,sA,sB,sC,zp,zw];rfl
           refine zG (i:=14) (N:=some 122) (v:=?_) (a':=?_) #[Y,Y,Y,Y,Y,Y,Y,Y,Y,Y,Y,Y,Y,Y,Y,N,N,N,N,N,N,N,N,N,N,N,N,N,N,N,N,N,N,N,N,N,N,N,N,N,N,N] rfl rfl (zu HT_.out (by kernel_rfl)) (fun _ _ _ h=>h) (Or.inl ⟨by rfl,?_⟩) ?_ ?_;rotate_left
           ·intro w';go_simp;with_reducible rfl
           rotate_left
           ·simp only[Act.put,sA,sB,sC,zp,zw];rfl
           refine zG (i:=15) (N:=some 123) (v:=?_) (a':=?_) #[Y,Y,Y,Y,Y,Y,Y,Y,Y,Y,Y,Y,Y,Y,Y,Y,N,N,N,N,N,N,N,N,N,N,N,N,N,N,N,N,N,N,N,N,N,N,N,N,N,N] rfl rfl (zu HT_.out (by kernel_rfl)) (fun _ _ _ h=>h) (Or.inl ⟨by rfl,?_⟩) ?_ ?_;rotate_left
           ·intro w';go_simp;with_reducible rfl
           rotate_left
           ·simp only[Act.put,sA,sB,sC,zp,zw];rfl
           refine one_ (i:=16) (N:=some 124) #[Y,Y,Y,Y,Y,Y,Y,Y,Y,Y,Y,Y,Y,Y,Y,Y,Y,N,N,N,N,N,N,N,N,N,N,N,N,N,N,N,N,N,N,N,N,N,N,N,N,N] rfl rfl (one_of HT_.out (by kernel_rfl)) (by decide) (fun K hK=>?_)
           refine goes_ Tryz.func28 (by kernel_rfl) rfl #[.slice Ao31 t1051.length co31,.slice Ao32 t1054.length co32] (by rfl) rfl rfl (by(try simp only[List.map_toArray,List.map_cons,List.map_nil]);first|done|rfl|(simp only[List.length_drop,List.length_take];rfl)) ?_
           with_reducible refine(z6.calls kj4 _ _ t1051 _ _ t1054 t1061 _ ?side1 ?side2 ?side3 ?side4 A20.out).mono ?_
           (case side1=>repeat(first|exact(Kd.R_reads' HO1053.out).2.2|(with_reducible refine Kd.C_alloc ?_ _)|(with_reducible refine Kd.C_drewN ?_ _)|(with_reducible refine Kd.C_drew ?_)))
           (case side2=>exact(Kd.R_reads' HO1053.out).2.1)
           (case side3=>repeat(first|exact(Kd.R_reads' HO1056.out).2.2|(with_reducible refine Kd.C_alloc ?_ _)|(with_reducible refine Kd.C_drewN ?_ _)|(with_reducible refine Kd.C_drew ?_)))
           (case side4=>exact(Kd.R_reads' HO1056.out).2.1)
           rintro e w39 ⟨rfl,hb⟩
           refine⟨_,rfl,?_⟩
           have n0_:=Qk (Kd.N_below HO1023.out hb)
           have n1_:=Qk (Kd.N_below HO1033.out hb)
           have n2_:=Qk (Kd.N_below HO1037.out hb)
           have n3_:=Qk (Kd.R_below HO1048.out hb)
           have n4_:=Qk (Kd.R_below HO1053.out hb)
           have n5_:=Qk (Kd.R_below HO1056.out hb)
           have n6_:=Qk (Kd.R_below HO1060.out hb)
           have n7_:=Qk (zi HB.out hb)
           clear HO1023
           clear HO1033
           clear HO1037
           clear HO1048
           clear HO1053
           clear HO1056
           clear HO1060
           clear HB
           have HO1023:=n0_
           have HO1033:=n1_
           have HO1037:=n2_
           have HO1048:=n3_
           have HO1053:=n4_
           have HO1056:=n5_
           have HO1060:=n6_
           have HB:=n7_
           clear n0_ n1_ n2_ n3_ n4_ n5_ n6_ n7_
           refine hK.out _ _ (ZQ (P:=Tryz.prog) Tryz.underlying22 Tryz.underlying5 Tryz.underlying9 (Kd.own_of_R HO1048.out)) (fun hHeld=>?_)
           clear hK K
           refine norm_ (a':=?_) ?_ ?_
           rotate_left
           ·show Act.put _ (some 124) _=_
            simp only[Act.put,sA,sB,sC,zp,zw];rfl
           refine zG (i:=17) (N:=some 125) (v:=?_) (a':=?_) #[Y,Y,Y,Y,Y,Y,Y,Y,Y,Y,Y,Y,Y,Y,Y,Y,Y,Y,N,N,N,N,N,N,N,N,N,N,N,N,N,N,N,N,N,N,N,N,N,N,N,N] rfl rfl (zu HT_.out (by kernel_rfl)) (fun _ _ _ h=>h) (Or.inl ⟨by rfl,?_⟩) ?_ ?_;rotate_left
           ·intro w';go_simp;with_reducible rfl
           rotate_left
           ·simp only[Act.put,sA,sB,sC,zp,zw];rfl
           refine zG (i:=18) (N:=some 126) (v:=?_) (a':=?_) #[Y,Y,Y,Y,Y,Y,Y,Y,Y,Y,Y,Y,Y,Y,Y,Y,Y,Y,Y,N,N,N,N,N,N,N,N,N,N,N,N,N,N,N,N,N,N,N,N,N,N,N] rfl rfl (zu HT_.out (by kernel_rfl)) (fun _ _ _ h=>h) (Or.inl ⟨by rfl,?_⟩) ?_ ?_;rotate_left
           ·intro w';go_simp;with_reducible rfl
           rotate_left
           ·simp only[Act.put,sA,sB,sC,zp,zw];rfl
           refine zG (i:=19) (N:=some 127) (v:=?_) (a':=?_) #[Y,Y,Y,Y,Y,Y,Y,Y,Y,Y,Y,Y,Y,Y,Y,Y,Y,Y,Y,Y,N,N,N,N,N,N,N,N,N,N,N,N,N,N,N,N,N,N,N,N,N,N] rfl rfl (zu HT_.out (by kernel_rfl)) (fun _ _ _ h=>h) (Or.inl ⟨by rfl,?_⟩) ?_ ?_;rotate_left
           ·intro w';go_simp;with_reducible rfl
           rotate_left
           ·simp only[Act.put,sA,sB,sC,zp,zw];rfl
           refine zG (i:=20) (N:=some 128) (v:=?_) (a':=?_) #[Y,Y,Y,Y,Y,Y,Y,Y,Y,Y,Y,Y,Y,Y,Y,Y,Y,Y,Y,Y,Y,N,N,N,N,N,N,N,N,N,N,N,N,N,N,N,N,N,N,N,N,N] rfl rfl (zu HT_.out (by kernel_rfl)) (fun _ _ _ h=>h) (Or.inl ⟨by rfl,?_⟩) ?_ ?_;rotate_left
           ·intro w';go_simp;with_reducible rfl
           rotate_left
           ·simp only[Act.put,sA,sB,sC,zp,zw];rfl
           refine zG (i:=21) (N:=some 129) (v:=?_) (a':=?_) #[Y,Y,Y,Y,Y,Y,Y,Y,Y,Y,Y,Y,Y,Y,Y,Y,Y,Y,Y,Y,Y,Y,N,N,N,N,N,N,N,N,N,N,N,N,N,N,N,N,N,N,N,N] rfl rfl (zu HT_.out (by kernel_rfl)) (fun _ _ _ h=>h) (Or.inl ⟨by rfl,?_⟩) ?_ ?_;rotate_left
           ·intro w';go_simp;with_reducible rfl
           rotate_left
           ·simp only[Act.put,sA,sB,sC,zp,zw];rfl
           refine zG (i:=22) (N:=some 130) (v:=?_) (a':=?_) #[Y,Y,Y,Y,Y,Y,Y,Y,Y,Y,Y,Y,Y,Y,Y,Y,Y,Y,Y,Y,Y,Y,Y,N,N,N,N,N,N,N,N,N,N,N,N,N,N,N,N,N,N,N] rfl rfl (zu HT_.out (by kernel_rfl)) (fun _ _ _ h=>h) (Or.inl ⟨by rfl,?_⟩) ?_ ?_;rotate_left
           ·intro w';go_simp;with_reducible rfl
           rotate_left
           ·simp only[Act.put,sA,sB,sC,zp,zw];rfl
           refine zG (i:=23) (N:=some 131) (v:=?_) (a':=?_) #[Y,Y,Y,Y,Y,Y,Y,Y,Y,Y,Y,Y,Y,Y,Y,Y,Y,Y,Y,Y,Y,Y,Y,Y,N,N,N,N,N,N,N,N,N,N,N,N,N,N,N,N,N,N] rfl rfl (zu HT_.out (by kernel_rfl)) (fun _ _ _ h=>h) (Or.inl ⟨by rfl,?_⟩) ?_ ?_;rotate_left
           ·intro w';go_simp;with_reducible rfl
           rotate_left
           ·simp only[Act.put,sA,sB,sC,zp,zw];rfl
           refine zG (i:=24) (N:=some 132) (v:=?_) (a':=?_) #[Y,Y,Y,Y,Y,Y,Y,Y,Y,Y,Y,Y,Y,Y,Y,Y,Y,Y,Y,Y,Y,Y,Y,Y,Y,N,N,N,N,N,N,N,N,N,N,N,N,N,N,N,N,N] rfl rfl (zu HT_.out (by kernel_rfl)) (fun _ _ _ h=>h) (Or.inl ⟨by rfl,?_⟩) ?_ ?_;rotate_left
           ·intro w';go_simp;with_reducible rfl
           rotate_left
           ·simp only[Act.put,sA,sB,sC,zp,zw];rfl
           refine zG (i:=25) (N:=some 133) (v:=?_) (a':=?_) #[Y,Y,Y,Y,Y,Y,Y,Y,Y,Y,Y,Y,Y,Y,Y,Y,Y,Y,Y,Y,Y,Y,Y,Y,Y,Y,N,N,N,N,N,N,N,N,N,N,N,N,N,N,N,N] rfl rfl (zu HT_.out (by kernel_rfl)) (fun _ _ _ h=>h) (Or.inl ⟨by rfl,?_⟩) ?_ ?_;rotate_left
           ·intro w';go_simp;with_reducible rfl
           rotate_left
           ·simp only[Act.put,sA,sB,sC,zp,zw];rfl
           refine zG (i:=26) (N:=some 134) (v:=?_) (a':=?_) #[Y,Y,Y,Y,Y,Y,Y,Y,Y,Y,Y,Y,Y,Y,Y,Y,Y,Y,Y,Y,Y,Y,Y,Y,Y,Y,Y,N,N,N,N,N,N,N,N,N,N,N,N,N,N,N] rfl rfl (zu HT_.out (by kernel_rfl)) (fun _ _ _ h=>h) (Or.inl ⟨by rfl,?_⟩) ?_ ?_;rotate_left
           ·intro w';go_simp;with_reducible rfl
           rotate_left
           ·simp only[Act.put,sA,sB,sC,zp,zw];rfl
           refine zG (i:=27) (N:=some 135) (v:=?_) (a':=?_) #[Y,Y,Y,Y,Y,Y,Y,Y,Y,Y,Y,Y,Y,Y,Y,Y,Y,Y,Y,Y,Y,Y,Y,Y,Y,Y,Y,Y,N,N,N,N,N,N,N,N,N,N,N,N,N,N] rfl rfl (zu HT_.out (by kernel_rfl)) (fun _ _ _ h=>h) (Or.inl ⟨by rfl,?_⟩) ?_ ?_;rotate_left
           ·intro w';go_simp;with_reducible rfl
           rotate_left
           ·simp only[Act.put,sA,sB,sC,zp,zw];rfl
           refine zG (i:=28) (N:=some 136) (v:=?_) (a':=?_) #[Y,Y,Y,Y,Y,Y,Y,Y,Y,Y,Y,Y,Y,Y,Y,Y,Y,Y,Y,Y,Y,Y,Y,Y,Y,Y,Y,Y,Y,N,N,N,N,N,N,N,N,N,N,N,N,N] rfl rfl (zu HT_.out (by kernel_rfl)) (fun _ _ _ h=>h) (Or.inl ⟨by rfl,?_⟩) ?_ ?_;rotate_left
           ·intro w';go_simp;with_reducible rfl
           rotate_left
           ·simp only[Act.put,sA,sB,sC,zp,zw];rfl
           refine zG (i:=29) (N:=some 137) (v:=?_) (a':=?_) #[Y,Y,Y,Y,Y,Y,Y,Y,Y,Y,Y,Y,Y,Y,Y,Y,Y,Y,Y,Y,Y,Y,Y,Y,Y,Y,Y,Y,Y,Y,N,N,N,N,N,N,N,N,N,N,N,N] rfl rfl (zu HT_.out (by kernel_rfl)) (fun _ _ _ h=>h) (Or.inl ⟨by rfl,?_⟩) ?_ ?_;rotate_left
           ·intro w';go_simp;with_reducible rfl
           rotate_left
           ·simp only[Act.put,sA,sB,sC,zp,zw];rfl
           refine zG (i:=30) (N:=some 138) (v:=?_) (a':=?_) #[Y,Y,Y,Y,Y,Y,Y,Y,Y,Y,Y,Y,Y,Y,Y,Y,Y,Y,Y,Y,Y,Y,Y,Y,Y,Y,Y,Y,Y,Y,Y,N,N,N,N,N,N,N,N,N,N,N] rfl rfl (zu HT_.out (by kernel_rfl)) (fun _ _ _ h=>h) (Or.inl ⟨by rfl,?_⟩) ?_ ?_;rotate_left
           ·intro w';go_simp;with_reducible rfl
           rotate_left
           ·simp only[Act.put,sA,sB,sC,zp,zw];rfl
           refine zG (i:=31) (N:=some 139) (v:=?_) (a':=?_) #[Y,Y,Y,Y,Y,Y,Y,Y,Y,Y,Y,Y,Y,Y,Y,Y,Y,Y,Y,Y,Y,Y,Y,Y,Y,Y,Y,Y,Y,Y,Y,Y,N,N,N,N,N,N,N,N,N,N] rfl rfl (zu HT_.out (by kernel_rfl)) (fun _ _ _ h=>h) (Or.inl ⟨by rfl,?_⟩) ?_ ?_;rotate_left
           ·intro w';go_simp;with_reducible rfl
           rotate_left
           ·simp only[Act.put,sA,sB,sC,zp,zw];rfl
           refine zG (i:=32) (N:=some 140) (v:=?_) (a':=?_) #[Y,Y,Y,Y,Y,Y,Y,Y,Y,Y,Y,Y,Y,Y,Y,Y,Y,Y,Y,Y,Y,Y,Y,Y,Y,Y,Y,Y,Y,Y,Y,Y,Y,N,N,N,N,N,N,N,N,N] rfl rfl (zu HT_.out (by kernel_rfl)) (fun _ _ _ h=>h) (Or.inl ⟨by rfl,?_⟩) ?_ ?_;rotate_left
           ·intro w';go_simp;with_reducible rfl
           rotate_left
           ·simp only[Act.put,sA,sB,sC,zp,zw];rfl
           refine zG (i:=33) (N:=some 141) (v:=?_) (a':=?_) #[Y,Y,Y,Y,Y,Y,Y,Y,Y,Y,Y,Y,Y,Y,Y,Y,Y,Y,Y,Y,Y,Y,Y,Y,Y,Y,Y,Y,Y,Y,Y,Y,Y,Y,N,N,N,N,N,N,N,N] rfl rfl (zu HT_.out (by kernel_rfl)) (fun _ _ _ h=>h) (Or.inl ⟨by rfl,?_⟩) ?_ ?_;rotate_left
           ·intro w';go_simp;with_reducible rfl
           rotate_left
           ·simp only[Act.put,sA,sB,sC,zp,zw];rfl
           refine zG (i:=34) (N:=some 142) (v:=?_) (a':=?_) #[Y,Y,Y,Y,Y,Y,Y,Y,Y,Y,Y,Y,Y,Y,Y,Y,Y,Y,Y,Y,Y,Y,Y,Y,Y,Y,Y,Y,Y,Y,Y,Y,Y,Y,Y,N,N,N,N,N,N,N] rfl rfl (zu HT_.out (by kernel_rfl)) (fun _ _ _ h=>h) (Or.inl ⟨by rfl,?_⟩) ?_ ?_;rotate_left
           ·intro w';go_simp;with_reducible rfl
           rotate_left
           ·simp only[Act.put,sA,sB,sC,zp,zw];rfl
           refine zG (i:=35) (N:=some 143) (v:=?_) (a':=?_) #[Y,Y,Y,Y,Y,Y,Y,Y,Y,Y,Y,Y,Y,Y,Y,Y,Y,Y,Y,Y,Y,Y,Y,Y,Y,Y,Y,Y,Y,Y,Y,Y,Y,Y,Y,Y,N,N,N,N,N,N] rfl rfl (zu HT_.out (by kernel_rfl)) (fun _ _ _ h=>h) (Or.inl ⟨by rfl,?_⟩) ?_ ?_;rotate_left
           ·intro w';go_simp;with_reducible rfl
           rotate_left
           ·simp only[Act.put,sA,sB,sC,zp,zw];rfl
           refine zG (i:=36) (N:=some 144) (v:=?_) (a':=?_) #[Y,Y,Y,Y,Y,Y,Y,Y,Y,Y,Y,Y,Y,Y,Y,Y,Y,Y,Y,Y,Y,Y,Y,Y,Y,Y,Y,Y,Y,Y,Y,Y,Y,Y,Y,Y,Y,N,N,N,N,N] rfl rfl (zu HT_.out (by kernel_rfl)) (fun _ _ _ h=>h) (Or.inl ⟨by rfl,?_⟩) ?_ ?_;rotate_left
           ·intro w';go_simp;with_reducible rfl
           rotate_left
           ·simp only[Act.put,sA,sB,sC,zp,zw];rfl
           refine zG (i:=37) (N:=some 145) (v:=?_) (a':=?_) #[Y,Y,Y,Y,Y,Y,Y,Y,Y,Y,Y,Y,Y,Y,Y,Y,Y,Y,Y,Y,Y,Y,Y,Y,Y,Y,Y,Y,Y,Y,Y,Y,Y,Y,Y,Y,Y,Y,N,N,N,N] rfl rfl (zu HT_.out (by kernel_rfl)) (fun _ _ _ h=>h) (Or.inl ⟨by rfl,?_⟩) ?_ ?_;rotate_left
           ·intro w';go_simp;with_reducible rfl
           rotate_left
           ·simp only[Act.put,sA,sB,sC,zp,zw];rfl
           refine zG (i:=38) (N:=some 146) (v:=?_) (a':=?_) #[Y,Y,Y,Y,Y,Y,Y,Y,Y,Y,Y,Y,Y,Y,Y,Y,Y,Y,Y,Y,Y,Y,Y,Y,Y,Y,Y,Y,Y,Y,Y,Y,Y,Y,Y,Y,Y,Y,Y,N,N,N] rfl rfl (zu HT_.out (by kernel_rfl)) (fun _ _ _ h=>h) (Or.inl ⟨by rfl,?_⟩) ?_ ?_;rotate_left
           ·intro w';go_simp;with_reducible rfl
           rotate_left
           ·simp only[Act.put,sA,sB,sC,zp,zw];rfl
           refine zG (i:=39) (N:=some 147) (v:=?_) (a':=?_) #[Y,Y,Y,Y,Y,Y,Y,Y,Y,Y,Y,Y,Y,Y,Y,Y,Y,Y,Y,Y,Y,Y,Y,Y,Y,Y,Y,Y,Y,Y,Y,Y,Y,Y,Y,Y,Y,Y,Y,Y,N,N] rfl rfl (zu HT_.out (by kernel_rfl)) (fun _ _ _ h=>h) (Or.inl ⟨by rfl,?_⟩) ?_ ?_;rotate_left
           ·intro w';go_simp;with_reducible rfl
           rotate_left
           ·simp only[Act.put,sA,sB,sC,zp,zw];rfl
           refine zG (i:=40) (N:=some 148) (v:=?_) (a':=?_) #[Y,Y,Y,Y,Y,Y,Y,Y,Y,Y,Y,Y,Y,Y,Y,Y,Y,Y,Y,Y,Y,Y,Y,Y,Y,Y,Y,Y,Y,Y,Y,Y,Y,Y,Y,Y,Y,Y,Y,Y,Y,N] rfl rfl (zu HT_.out (by kernel_rfl)) (fun _ _ _ h=>h) (Or.inl ⟨by rfl,?_⟩) ?_ ?_;rotate_left
           ·intro w';go_simp;with_reducible rfl
           rotate_left
           ·simp only[Act.put,sA,sB,sC,zp,zw];rfl
           refine zG (i:=41) (N:=some 4) (v:=?_) (a':=?_) #[Y,Y,Y,Y,Y,Y,Y,Y,Y,Y,Y,Y,Y,Y,Y,Y,Y,Y,Y,Y,Y,Y,Y,Y,Y,Y,Y,Y,Y,Y,Y,Y,Y,Y,Y,Y,Y,Y,Y,Y,Y,Y] rfl rfl (zu HT_.out (by kernel_rfl)) (fun _ _ _ h=>h) (Or.inl ⟨by rfl,?_⟩) ?_ ?_;rotate_left
           ·intro w';go_simp;with_reducible rfl
           rotate_left
           ·simp only[Act.put,sA,sB,sC,zp,zw];rfl
           refine done_ (Zr HT_.out (by kernel_rfl)) ?_
           try go_wp2
           go_ret
           exact⟨by first|rfl|(simp[zR,zQ] <;> rfl)|(simp[*,zR,zQ] <;> rfl),HB.out⟩
          ·rw[if_neg c22]at H
           have c22b0:decide ((wrap64 ((t1031.length:Int)-(t1035.length:Int)))<=(wrap64 (t1049+t1050)))=false:=Qn c22
           clear c22
           exact absurd (Qp H) (by rw[hr_];decide)
         ·rw[if_neg c21]at H
          have c21b0:decide (t1061<=(wrap64 (t1049+t1050)))=false:=Qn c21
          clear c21
          exact absurd (Qp H) (by rw[hr_];decide)
        ·rw[if_neg c19]at H
         have c19b0:((strOfNums t1044).toList == (strOfNums t1058).toList)=false:=beq_eq_false_iff_ne.mpr c19
         have c19b1:((strOfNums t1044).toList != (strOfNums t1058).toList)=true:=bne_iff_ne.mpr c19
         exact absurd (Qp H) (by rw[hr_];decide)
       ·rw[if_neg c17]at H
        have c17b0:(t1046 == 0)=false:=beq_eq_false_iff_ne.mpr c17
        have c17b1:(t1046 != 0)=true:=bne_iff_ne.mpr c17
        exact absurd (Qp H) (by rw[hr_];decide)
      ·rw[if_neg c13]at H
       have c13b0:(t1038 == 0)=false:=beq_eq_false_iff_ne.mpr c13
       have c13b1:(t1038 != 0)=true:=bne_iff_ne.mpr c13
       replace H:=Qo H
       obtain⟨⟨t1039,t1040,t1041⟩,A400,H⟩:=H
       replace H:(if t1041=t1038 then(some ((t1035.length:Int) == 0))else(some false))=some r:=H
       have A40:=Qk A400
       clear A400
       by_cases c41:t1041=t1038
       ·rw[if_pos c41]at H
        have c41b0:(t1041 == t1038)=true:=beq_iff_eq.mpr c41
        have c41b1:(t1041 != t1038)=false:=bne_eq_false_iff_eq.mpr c41
        clear c41
        obtain rfl:=Qp H
        go_wp2_with (first|(go_at_call 21;(with_reducible refine(zc.calls kj4 (fun k_=>k_<w.heap.size) _ _ l0 t1020 t1021 t1024 t1025 _ ?side1 A9.out).mono ?_);(case side1=>exact Kd.V_mk HC0.out (Kd.F_below (Kd.C_F (Kd.heap_int .u8) HR0.out) HB.out));rintro e w42 ⟨v1022,rfl,ho0,hb⟩;have n0_:=Qk (Kd.N_lower (Kd.N_mono (ok':=fun k_=>True) (by first|exact ho0|exact Kd.S_N ho0|exact Kd.R_N ho0) (fun k_ hk_=>trivial)) (ze HB.out));have n1_:=Qk (zi HB.out hb);clear HB;have HO1023:=n0_;have HB:=n1_;clear n0_ n1_)|(go_at_call 23;(with_reducible refine(zA.calls kj4 t1020 (fun k_=>k_<w.heap.size) _ _ l1 t1031 t1034 _ ?side1 A11.out).mono ?_);(case side1=>exact Kd.V_mk HC1.out (Kd.F_below (Kd.C_F (Kd.heap_int .u8) HR1.out) HB.out));rintro e w43 ⟨v1032,rfl,ho0,hb⟩;have n0_:=Qk (Kd.N_elder' HO1023.out (Kd.N_base ho0) hb);have n1_:=Qk (Kd.N_lower (Kd.N_mono (ok':=fun k_=>some k_≠(v1022:Value).ownBlock) ho0 (fun k_ hk_=>Or.elim hk_ (fun hs_=>fun e_=>Nat.not_le.2 hs_ (Kd.N_base HO1023.out k_ e_.symm)) (fun hn_=>(Kd.fresh' (Kd.N_lt HO1023.out) k_ hn_)))) (ze HB.out));have n2_:=Qk (zi HB.out hb);clear HO1023;clear HB;have HO1023:=n0_;have HO1033:=n1_;have HB:=n2_;clear n0_ n1_ n2_;obtain⟨Ao44,co44,eo44⟩:=Kd.N_slice HO1023.out;subst eo44;obtain⟨Ao45,co45,eo45⟩:=Kd.N_slice HO1033.out;subst eo45)|(go_at_call 24;(with_reducible refine(z2.calls kj4 _ _ t1021 _ _ t1031 t1035 t1038 _ ?side1 ?side2 ?side3 ?side4 A12.out).mono ?_);(case side1=>repeat(first|exact(Kd.N_reads' HO1023.out).2.2|(with_reducible refine Kd.C_alloc ?_ _)|(with_reducible refine Kd.C_drewN ?_ _)|(with_reducible refine Kd.C_drew ?_)));(case side2=>exact(Kd.N_reads' HO1023.out).2.1);(case side3=>repeat(first|exact(Kd.N_reads' HO1033.out).2.2|(with_reducible refine Kd.C_alloc ?_ _)|(with_reducible refine Kd.C_drewN ?_ _)|(with_reducible refine Kd.C_drew ?_)));(case side4=>exact(Kd.N_reads' HO1033.out).2.1);rintro e w46 ⟨v1036,rfl,ho0,hb⟩;have n0_:=Qk (Kd.N_elder' HO1023.out (Kd.N_base ho0) hb);have n1_:=Qk (Kd.N_elder' HO1033.out (Kd.N_base ho0) hb);have n2_:=Qk (Kd.N_lower (Kd.N_mono (ok':=fun k_=>some k_≠(.slice Ao44 t1021.length co44:Value).ownBlock/\some k_≠(.slice Ao45 t1031.length co45:Value).ownBlock) ho0 (fun k_ hk_=>⟨(Kd.fresh' (Kd.N_lt HO1023.out) k_ hk_),(Kd.fresh' (Kd.N_lt HO1033.out) k_ hk_)⟩)) (ze HB.out));have n3_:=Qk (zi HB.out hb);clear HO1023;clear HO1033;clear HB;have HO1023:=n0_;have HO1033:=n1_;have HO1037:=n2_;have HB:=n3_;clear n0_ n1_ n2_ n3_)|(go_at_call 22;(with_reducible refine(qg.calls kj4 _ _ l0 _ _ l1 t1039 t1040 t1041 _ ?side1 ?side2 ?side3 ?side4 A40.out).mono ?_);(case side1=>repeat(first|exact(Kd.C_below HR0.out HB.out)|(with_reducible refine Kd.C_alloc ?_ _)|(with_reducible refine Kd.C_drewN ?_ _)|(with_reducible refine Kd.C_drew ?_)));(case side2=>exact HC0.out);(case side3=>repeat(first|exact(Kd.C_below HR1.out HB.out)|(with_reducible refine Kd.C_alloc ?_ _)|(with_reducible refine Kd.C_drewN ?_ _)|(with_reducible refine Kd.C_drew ?_)));(case side4=>exact HC1.out);rintro e w47 ⟨v1042,rfl,ho0,hb⟩;have n0_:=Qk (Kd.N_elder' HO1023.out (Kd.R_base ho0) hb);have n1_:=Qk (Kd.N_elder' HO1033.out (Kd.R_base ho0) hb);have n2_:=Qk (Kd.N_elder' HO1037.out (Kd.R_base ho0) hb);have n3_:=Qk (Kd.R_lower ho0 (ze HB.out));have n4_:=Qk (zi HB.out hb);clear HO1023;clear HO1033;clear HO1037;clear HB;have HO1023:=n0_;have HO1033:=n1_;have HO1037:=n2_;have HO1043:=n3_;have HB:=n4_;clear n0_ n1_ n2_ n3_ n4_;obtain⟨Ao48,co48,eo48⟩:=Kd.N_slice HO1037.out;subst eo48))
        go_ret
        exact⟨by first|rfl|(simp[zR,zQ] <;> rfl)|(simp[*,zR,zQ] <;> rfl),HB.out⟩
       ·rw[if_neg c41]at H
        have c41b0:(t1041 == t1038)=false:=beq_eq_false_iff_ne.mpr c41
        have c41b1:(t1041 != t1038)=true:=bne_iff_ne.mpr c41
        exact absurd (Qp H) (by rw[hr_];decide)
     ·rw[if_neg c10]at H
      have c10b0:(t1025 == 0)=false:=beq_eq_false_iff_ne.mpr c10
      have c10b1:(t1025 != 0)=true:=bne_iff_ne.mpr c10
      replace H:=Qo H
      obtain⟨⟨t1026,t1027,t1028⟩,A490,H⟩:=H
      replace H:(if t1028=4 then(some ((t1026.length:Int) == 0))else(some false))=some r:=H
      have A49:=Qk A490
      clear A490
      by_cases c50:t1028=4
      ·rw[if_pos c50]at H
       have c50b0:(t1028 == 4)=true:=beq_iff_eq.mpr c50
       have c50b1:(t1028 != 4)=false:=bne_eq_false_iff_eq.mpr c50
       clear c50
       obtain rfl:=Qp H
       go_wp2_with (first|(go_at_call 21;(with_reducible refine(zc.calls kj4 (fun k_=>k_<w.heap.size) _ _ l0 t1020 t1021 t1024 t1025 _ ?side1 A9.out).mono ?_);(case side1=>exact Kd.V_mk HC0.out (Kd.F_below (Kd.C_F (Kd.heap_int .u8) HR0.out) HB.out));rintro e w51 ⟨v1022,rfl,ho0,hb⟩;have HO1023:=Qk (Kd.N_lower (Kd.N_mono (ok':=fun k_=>True) (by first|exact ho0|exact Kd.S_N ho0|exact Kd.R_N ho0) (fun k_ hk_=>trivial)) (ze HB.out));replace HB:=Qk (zi HB.out hb))|(go_at_call 22;(with_reducible refine(qg.calls kj4 _ _ l0 _ _ l1 t1026 t1027 t1028 _ ?side1 ?side2 ?side3 ?side4 A49.out).mono ?_);(case side1=>repeat(first|exact(Kd.C_below HR0.out HB.out)|(with_reducible refine Kd.C_alloc ?_ _)|(with_reducible refine Kd.C_drewN ?_ _)|(with_reducible refine Kd.C_drew ?_)));(case side2=>exact HC0.out);(case side3=>repeat(first|exact(Kd.C_below HR1.out HB.out)|(with_reducible refine Kd.C_alloc ?_ _)|(with_reducible refine Kd.C_drewN ?_ _)|(with_reducible refine Kd.C_drew ?_)));(case side4=>exact HC1.out);rintro e w52 ⟨v1029,rfl,ho0,hb⟩;replace HO1023:=Qk (Kd.N_elder' HO1023.out (Kd.R_base ho0) hb);have HO1030:=Qk (Kd.R_lower ho0 (ze HB.out));replace HB:=Qk (zi HB.out hb);obtain⟨Ao53,co53,eo53⟩:=Kd.R_slice HO1030.out;subst eo53))
       go_ret
       exact⟨by first|rfl|(simp[zR,zQ] <;> rfl)|(simp[*,zR,zQ] <;> rfl),HB.out⟩
      ·rw[if_neg c50]at H
       have c50b0:(t1028 == 4)=false:=beq_eq_false_iff_ne.mpr c50
       have c50b1:(t1028 != 4)=true:=bne_iff_ne.mpr c50
       exact absurd (Qp H) (by rw[hr_];decide)
 ·replace c4:=Bool.eq_false_iff.mpr c4
  subst c4
  have H1:(some false)=some r:=by rw[if_neg (show ¬ (false=true) by decide)]at H;exact H
  clear H
  have H:=H1
  clear H1
  exact absurd (Qp H) (by rw[hr_];decide)
end Go.Proofs.YtdiojfaenfggkaaGreat.PTopNear
