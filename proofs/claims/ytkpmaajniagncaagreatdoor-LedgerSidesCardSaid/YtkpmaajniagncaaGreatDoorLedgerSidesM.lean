/- LedgerSides: for every input the law answers true and leaves its arguments as they were. -/
import Derived.Test.YtkpmaajniagncaaGreatDoorLedgerSidesL
import Derived.Lib.Mul64
set_option linter.defProp false
set_option linter.unusedVariables false
set_option linter.unusedSimpArgs false
namespace Go.Proofs.YtkpmaajniagncaaGreatDoor
open Tryz
open Go Go.Sx
set_option maxRecDepth 20000
structure Hid (p:Prop):Prop where
 out:p
theorem aia (c V T K h l y Y U v e1 e0 R Q1 Q2:Nat)(hc:0<c)(hcV:c*V=T)(hK:K*K=T)(hy:0<y)(hY:Y=y*c)(hU:U=h*c+l/V)(hv:v=l*c%T)(h1:e1=v/K)(h0:e0=v%K)(hR:R=(U*K+e1)%Y)(hQ1:Q1=(U*K+e1)/Y)(hQ2:Q2=(R*K+e0)/Y):
  (R*K+e0)%Y/c=(h*T+l)%y/\Q1*K+Q2=(h*T+l)/y:=by
 have k:0<Y:=by rw[hY];exact Nat.mul_pos hy hc
 have e5:K*e1+e0=v:=by rw[h1,h0];exact Nat.div_add_mod v K
 have e6:T*(l/V)+v=l*c:=by
  have:l*c/T=l/V:=by rw[<-hcV,Nat.mul_comm c V];exact Nat.mul_div_mul_right l V hc
  rw[<-this,hv];exact Nat.div_add_mod _ _
 have e:(U*K+e1)*K+e0=(h*T+l)*c:=by
  rw[Nat.add_mul,Nat.mul_assoc,hK,Nat.mul_comm e1,Nat.add_assoc,e5,hU,Nat.add_mul,Nat.mul_comm (l/V),Nat.add_assoc,e6,Nat.add_mul,Nat.mul_right_comm]
 have m:Y*Q1+R=U*K+e1:=by rw[hQ1,hR];exact Nat.div_add_mod _ _
 have f:Y*Q2+(R*K+e0)%Y=R*K+e0:=by rw[hQ2];exact Nat.div_add_mod _ _
 have d:(R*K+e0)%Y<Y:=Nat.mod_lt _ k
 obtain⟨r,hr⟩:∃r,r=(R*K+e0)%Y:=⟨_,rfl⟩
 rw[<-hr]at f d ⊢
 obtain⟨N,hN⟩:∃N,N=h*T+l:=⟨_,rfl⟩
 rw[<-hN]at e ⊢
 obtain⟨G,hG⟩:∃G,G=Q1*K+Q2:=⟨_,rfl⟩
 rw[<-hG]
 have n:y*G*c+r=N*c:=by
  rw[<-e,<-m,Nat.add_mul,Nat.add_assoc,<-f,hG,hY,Nat.mul_right_comm,Nat.mul_add,Nat.mul_assoc (y*c),Nat.add_assoc]
 have o:y*G<=N:=Nat.le_of_mul_le_mul_right (by omega) hc
 obtain⟨D,hD⟩:=Nat.le.dest o
 have i:r=D*c:=by rw[<-hD,Nat.add_mul]at n;omega
 have j:D<y:=by rw[i,hY]at d;exact Nat.lt_of_mul_lt_mul_right d
 rw[i,Nat.mul_div_cancel _ hc,<-hD,Nat.mul_add_mod,Nat.mod_eq_of_lt j,Nat.mul_add_div hy,Nat.div_eq_of_lt j]
 exact⟨rfl,rfl⟩
theorem aib (s t h l y:Nat)(hst:2^s*2^t=18446744073709551616)(hY2:9223372036854775808<=y*2^s)(hY1:y*2^s<18446744073709551616)(hh:h<y)(hl:l<18446744073709551616):
  ∃Y H G U v,Hid (y*2^s%18446744073709551616=Y)/\Hid (h*2^s%18446744073709551616=H)/\Hid (l/2^t=G)/\Hid (H|||G=U)/\Hid (l*2^s%18446744073709551616=v)/\9223372036854775808<=Y/\Y<18446744073709551616/\U<Y/\v<18446744073709551616/\H<18446744073709551616/\G<18446744073709551616/\
   ∀e1 e0 R Q1 Q2,e1=v/4294967296->e0=v%4294967296->R=(U*4294967296+e1)%Y->Q1=(U*4294967296+e1)/Y->Q2=(R*4294967296+e0)/Y->
    Hid ((R*4294967296+e0)%Y/2^s=(h*18446744073709551616+l)%y)/\Hid ((Q1*4294967296%18446744073709551616+Q2)%18446744073709551616=(h*18446744073709551616+l)/y):=by
 have hS:2^s<=18446744073709551616:=by rw[<-hst];exact Nat.le_mul_of_pos_right _ (Nat.two_pow_pos t)
 have hG:l/2^t<2^s:=by rw[Nat.div_lt_iff_lt_mul (Nat.two_pow_pos t),hst];exact hl
 have hHY:h*2^s+2^s<=y*2^s:=by rw[<-Nat.succ_mul];exact Nat.mul_le_mul_right _ hh
 have hH:h*2^s%18446744073709551616=h*2^s:=Nat.mod_eq_of_lt (Nat.lt_of_le_of_lt (Nat.le_trans (Nat.le_add_right _ _) hHY) hY1)
 have hor:h*2^s|||l/2^t=h*2^s+l/2^t:=by rw[Nat.mul_comm h];exact(Nat.two_pow_add_eq_or_of_lt hG h).symm
 refine⟨y*2^s,h*2^s,l/2^t,h*2^s+l/2^t,l*2^s%18446744073709551616,⟨Nat.mod_eq_of_lt hY1⟩,⟨hH⟩,⟨rfl⟩,⟨hor⟩,⟨rfl⟩,hY2,hY1,Nat.lt_of_lt_of_le (Nat.add_lt_add_left hG _) hHY,Nat.mod_lt _ (by decide),by rw[<-hH];exact Nat.mod_lt _ (by decide),Nat.lt_of_lt_of_le hG hS,?_⟩
 intro e1 e0 R Q1 Q2 c d hR e f
 obtain⟨i,j⟩:=aia (2^s) (2^t) 18446744073709551616 4294967296 h l y _ _ _ e1 e0 R Q1 Q2 (Nat.two_pow_pos s) hst (by decide) (by omega) Z Z Z c d hR e f
 refine⟨⟨i⟩,⟨?_⟩⟩
 rw[Nat.mod_add_mod,j]
 apply Nat.mod_eq_of_lt
 rw[Nat.div_lt_iff_lt_mul (by omega)]
 exact Nat.lt_of_lt_of_le (show h*18446744073709551616+l<(h+1)*18446744073709551616 from by rw[Nat.succ_mul];exact Nat.add_lt_add_left hl _) (by rw[Nat.mul_comm 18446744073709551616 y];exact Nat.mul_le_mul_right _ hh)
theorem N8 (x y:Nat)(hx:x<18446744073709551616)(hy:y<18446744073709551616)(w:World):Calls prog 188 #[.int .u64 (x:Int),.int .u64 (y:Int)] w fun e w'=>e= .returned (.tuple #[.int .u64 ((x*y/18446744073709551616:Nat):Int),.int .u64 ((x*y%18446744073709551616:Nat):Int)])/\Le w w':=by
 obtain⟨d,f,i,c⟩:=Go.Lib.mul64_hi x y hx hy
 have j:x*y/18446744073709551616<18446744073709551616:=by
  rw[Nat.div_lt_iff_lt_mul (by decide)]
  exact Nat.mul_lt_mul'' hx hy
 have ha:=Go.Lib.half_mul_le (a:=x/4294967296) (b:=y/4294967296) (by omega) (by omega)
 have hb:=Go.Lib.half_mul_le (a:=x/4294967296) (b:=y%4294967296) (by omega) (by omega)
 have hc:=Go.Lib.half_mul_le (a:=x%4294967296) (b:=y/4294967296) (by omega) (by omega)
 refine En func188 Z (Rn 2 Z (Rr 1 Z (Wa (.MV x 4294967295 (x%4294967296) Z Z Z Z (by omega) (by omega) (mask32 _)) Z (Yx 1 Z (Rr 1 Z (Wa (.wO x 32 (x/4294967296) Z Z Z Z (by decide) Z) Z (Yx 1 Z (Rr 1 Z (Wa (.MV y 4294967295 (y%4294967296) Z Z Z Z (by omega) (by omega) (mask32 _)) Z ?_)))))))))
 refine Yx 1 Z (Rr 1 Z (Wa (.wO y 32 (y/4294967296) Z Z Z Z (by decide) Z) Z (Yx 1 Z (Rr 2 Z (Wa (.mulN (x%4294967296) (y%4294967296) ((x%4294967296)*(y%4294967296)) Z Z Z Z (Nat.mod_eq_of_lt d)) Z (Yx 1 Z (Rr 2 Z (Wa (.mulN (x/4294967296) (y%4294967296) ((x/4294967296)*(y%4294967296)) Z Z Z Z (Nat.mod_eq_of_lt (by omega))) Z (Yn 1 Z ?_)))))))))
 refine Wa (.wO ((x%4294967296)*(y%4294967296)) 32 ((x%4294967296)*(y%4294967296)/4294967296) Z Z Z Z (by decide) Z) Z (Wa (.addN ((x/4294967296)*(y%4294967296)) ((x%4294967296)*(y%4294967296)/4294967296) ((x/4294967296)*(y%4294967296)+(x%4294967296)*(y%4294967296)/4294967296) Z Z Z Z (Nat.mod_eq_of_lt f)) Z (Yx 1 Z (Rr 1 Z (Wa (.MV ((x/4294967296)*(y%4294967296)+(x%4294967296)*(y%4294967296)/4294967296) 4294967295 (((x/4294967296)*(y%4294967296)+(x%4294967296)*(y%4294967296)/4294967296)%4294967296) Z Z Z Z (by omega) (by omega) (mask32 _)) Z (Yx 1 Z (Rr 1 Z (Wa (.wO ((x/4294967296)*(y%4294967296)+(x%4294967296)*(y%4294967296)/4294967296) 32 (((x/4294967296)*(y%4294967296)+(x%4294967296)*(y%4294967296)/4294967296)/4294967296) Z Z Z Z (by decide) Z) Z (Yx 1 Z (Rr 3 Z ?_)))))))))
 refine Wa (.mulN (x%4294967296) (y/4294967296) ((x%4294967296)*(y/4294967296)) Z Z Z Z (Nat.mod_eq_of_lt (by omega))) Z (Wa (.addN (((x/4294967296)*(y%4294967296)+(x%4294967296)*(y%4294967296)/4294967296)%4294967296) ((x%4294967296)*(y/4294967296)) (((x/4294967296)*(y%4294967296)+(x%4294967296)*(y%4294967296)/4294967296)%4294967296+(x%4294967296)*(y/4294967296)) Z Z Z Z (Nat.mod_eq_of_lt i)) Z (Yx 1 Z (Rr 2 Z (Wa (.mulN (x/4294967296) (y/4294967296) ((x/4294967296)*(y/4294967296)) Z Z Z Z (Nat.mod_eq_of_lt (by omega))) Z (Yn 1 Z (Wa (.addN ((x/4294967296)*(y/4294967296)) (((x/4294967296)*(y%4294967296)+(x%4294967296)*(y%4294967296)/4294967296)/4294967296) ((x/4294967296)*(y/4294967296)+((x/4294967296)*(y%4294967296)+(x%4294967296)*(y%4294967296)/4294967296)/4294967296) Z Z Z Z (Nat.mod_eq_of_lt (by omega))) Z (Yn 1 Z ?_)))))))
 refine Wa (.wO (((x/4294967296)*(y%4294967296)+(x%4294967296)*(y%4294967296)/4294967296)%4294967296+(x%4294967296)*(y/4294967296)) 32 ((((x/4294967296)*(y%4294967296)+(x%4294967296)*(y%4294967296)/4294967296)%4294967296+(x%4294967296)*(y/4294967296))/4294967296) Z Z Z Z (by decide) Z) Z (Wa (.addN ((x/4294967296)*(y/4294967296)+((x/4294967296)*(y%4294967296)+(x%4294967296)*(y%4294967296)/4294967296)/4294967296) ((((x/4294967296)*(y%4294967296)+(x%4294967296)*(y%4294967296)/4294967296)%4294967296+(x%4294967296)*(y/4294967296))/4294967296) (x*y/18446744073709551616) Z Z Z Z ((Nat.mod_eq_of_lt (by rw[c];exact j)).trans c)) Z (Yx 1 Z (Rr 2 Z (Wa (.mulN x y (x*y%18446744073709551616) Z Z Z Z Z) Z (Yx 1 Z (Rt (E.ac2 Z Z Z ?_)))))))
 exact⟨rfl,(Le.refl w)⟩
def agu:ByteArray:=⟨[0,1,2,2,3,3,3,3,4,4,4,4,4,4,4,4,5,5,5,5,5,5,5,5,5,5,5,5,5,5,5,5,6,6,6,6,6,6,6,6,6,6,6,6,6,6,6,6,6,6,6,6,6,6,6,6,6,6,6,6,6,6,6,6,7,7,7,7,7,7,7,7,7,7,7,7,7,7,7,7,7,7,7,7,7,7,7,7,7,7,7,7,7,7,7,7,7,7,7,7,7,7,7,7,7,7,7,7,7,7,7,7,7,7,7,7,7,7,7,7,7,7,7,7,7,7,7,7,8,8,8,8,8,8,8,8,8,8,8,8,8,8,8,8,8,8,8,8,8,8,8,8,8,8,8,8,8,8,8,8,8,8,8,8,8,8,8,8,8,8,8,8,8,8,8,8,8,8,8,8,8,8,8,8,8,8,8,8,8,8,8,8,8,8,8,8,8,8,8,8,8,8,8,8,8,8,8,8,8,8,8,8,8,8,8,8,8,8,8,8,8,8,8,8,8,8,8,8,8,8,8,8,8,8,8,8,8,8,8,8,8,8,8,8,8,8,8,8,8,8,8,8,8,8,8,8].toArray⟩
theorem len8:∀m,16<=m->m<64->agu[m]? =some (if m<32 then 5 else 6):=by
 have h:∀m:Fin 64,16<=m.val->agu[m.val]? =some (if m.val<32 then 5 else 6):=by decide+kernel
 exact fun m c d=>h ⟨m,d⟩ c
theorem Xv (y:Nat)(h1:1152921504606846976<=y)(h2:y<4611686018427387904)(w:World):Calls prog 199 #[.int .u64 (y:Int)] w fun e w'=>e= .returned (J (if y<2305843009213693952 then 61 else 62))/\Le w w':=by
 refine En func199 Z (Rn 1 Z (Sq (Rn 2 Z (WC.yh Z (fun _=>?_) (fun h=>absurd h (by simp;omega))))))
 refine Rr 1 Z (Wa (.wO y 32 (y/4294967296) Z Z Z Z (by decide) Z) Z (Yx 1 Z (Rg (Yx 1 Z (Sq (Rn 2 Z (WC.yh Z (fun _=>?_) (fun h=>absurd h (by simp;omega)))))))))
 refine Rr 1 Z (Wa (.wO (y/4294967296) 16 (y/281474976710656) Z Z Z Z (by decide) (by omega)) Z (Yx 1 Z (Rg (Yn 1 Z (Yp Z (Yx 1 Z (Sq (Rn 2 Z (WC.yh Z (fun _=>?_) (fun h=>absurd h (by simp;omega)))))))))))
 refine Rr 1 Z (Wa (.wO (y/281474976710656) 8 (y/72057594037927936) Z Z Z Z (by decide) (by omega)) Z (Yx 1 Z (Rg (Yn 1 Z (Yp Z (Yx 1 Z (Rr 2 Z (Wr (.toU8 (y/72057594037927936) (rG underlying53) underlying5 Z Z) Z (Wa (.ac7 (y/72057594037927936) (if y/72057594037927936<32 then 5 else 6) underlying9 Z Z (by rw[BitVec.toNat_ofNat,Nat.mod_eq_of_lt (by omega)]) (len8 (y/72057594037927936) (by omega) (by omega))) Z ?_)))))))))
 refine Wr (.Tp (rG underlying5) underlying3 Z (IntWalk.i64_in _ (by split<;>decide))) Z (Wa (.add Z Z (by split<;>decide)) Z (Yx 1 Z (Rt (E.mP Z Z ?_))))
 exact⟨by congr 2;split<;>split<;>simp_all<;>omega,(Le.refl w)⟩
theorem RP (y:Nat)(h1:1152921504606846976<=y)(h2:y<4611686018427387904)(w:World):Calls prog 232 #[.int .u64 (y:Int)] w fun e w'=>e= .returned (J (if y<2305843009213693952 then 3 else 2))/\Le w w':=by
 refine En func232 Z ?_
 have c:=Le.refl w
 refine Rn 1 Z (Rr 1 Z (Yc Z (Xv y h1 h2 w) fun i d=>?_))
 have f:=c.trans d
 refine Wa (.sub Z Z (by split<;>omega)) Z (Yx 1 Z (Rt (E.mP Z Z ?_)))
 exact⟨by congr 2;split<;>rfl,f⟩
theorem RQ (s t h l y:Nat)(hs:s+t=64)(hst:2^s*2^t=18446744073709551616)(h1:9223372036854775808<=y*2^s)(h2:y*2^s<18446744073709551616)(hy:0<y)(hh:h<y)(hl:l<18446744073709551616)(hy2:y<18446744073709551616)(hlz:∀w,Calls prog 232 #[.int .u64 (y:Int)] w (fun e w'=>e= .returned (J (s:Int))/\Le w w'))(w:World):Calls prog 207 #[.int .u64 (h:Int),.int .u64 (l:Int),.int .u64 (y:Int)] w fun e w'=>e= .returned (.tuple #[.int .u64 (((h*18446744073709551616+l)/y:Nat):Int),.int .u64 (((h*18446744073709551616+l)%y:Nat):Int)])/\Le w w':=by
 obtain⟨Y,Hn,Gn,U,v,fY,fH,fG,fU,fv,aiG,aiH,hU,V,X,aa,fin⟩:=aib s t h l y hst h1 h2 hh hl
 obtain⟨a,ha⟩:∃a,a=Y/4294967296:=⟨_,rfl⟩
 obtain⟨b,B⟩:∃b,b=Y%4294967296:=⟨_,rfl⟩
 obtain⟨e1,C⟩:∃e1,e1=v/4294967296:=⟨_,rfl⟩
 obtain⟨d,o⟩:∃d,d=v%4294967296:=⟨_,rfl⟩
 have hY:Y=a*4294967296+b:=by omega
 have ac:2147483648<=a:=by omega
 have ad:a<4294967296:=by omega
 have k:b<4294967296:=by omega
 have ae:e1<4294967296:=by omega
 have af:d<4294967296:=by omega
 obtain⟨R,hR⟩:∃R,R=(U*4294967296+e1)%Y:=⟨_,rfl⟩
 obtain⟨c,i⟩:∃c,c=(U*4294967296+e1)/Y:=⟨_,rfl⟩
 obtain⟨f,j⟩:∃f,f=(R*4294967296+d)/Y:=⟨_,rfl⟩
 have hRY:R<Y:=by rw[hR];exact Nat.mod_lt _ (by omega)
 obtain⟨hfin,aic⟩:=fin e1 d R c f C o hR i j
 refine En func207 Z ?_
 have u:=Le.refl w
 refine Rn 2 Z (Sq (Rn 2 Z (WC.yh Z (fun h=>absurd h (by simp;omega)) (fun _=>?_))))
 refine Sn (Sq (Rn 3 Z (WC.yh Z (fun h=>absurd h (by simp;omega)) (fun _=>?_))))
 refine Sn (Sq (Rn 2 Z (WC.cond Z (fun D=>?_) (fun D=>?_))))
 ·have F:h=0:=by omega
  subst F
  refine Sq (WC.draw [0,1,2,3,4,5,6,7] mixed (by kernel_rfl) fun w6 H=>?_)
  have I:=u.trans H
  refine Xn 2 Z (Ga Z (.Py l y (l/y) Z Z Z Z (by omega) (by omega) Z) (Xn 2 Z (Ga Z (.BQ l y (l%y) Z Z Z Z (by omega) Z) (Xx 2 Z (Rt (E.il (E.ac2 Z Z Z ?_)))))))
  exact⟨by rw[Nat.zero_mul,Nat.zero_add],I⟩
 refine Sn (Rr 1 Z (Yc Z (hlz w) fun ah K=>?_))
 have L:=u.trans K
 refine Wr (.Tp (rG underlying3) underlying259 Z (IntWalk.u64_in _ (by omega))) Z (Yx 1 Z (Rr 2 Z (Wa (.Z9 y s Y Z Z Z Z (show s<=64 by omega) fY.out) Z (Yx 1 Z (Rr 1 Z (Wa (.wO Y 32 a Z Z Z Z (by decide) (by omega)) Z (Yx 1 Z (Rr 1 Z (Wa (.MV Y 4294967295 b Z Z Z Z (by omega) (by omega) ((mask32 _).trans B.symm)) Z ?_)))))))))
 refine Yx 1 Z (Rr 2 Z (Wa (.Z9 h s Hn Z Z Z Z (show s<=64 by omega) fH.out) Z (Yn 2 Z (Wa (.KW 64 s t Z Z Z Z (by omega) (by omega)) Z (Wa (.wO l t Gn Z Z Z Z (show t<=64 by omega) fG.out) Z (Wa (.orE Hn Gn U Z Z Z Z (by omega) (by omega) fU.out) Z (Yx 1 Z (Rr 2 Z (Wa (.Z9 l s v Z Z Z Z (show s<=64 by omega) fv.out) Z ?_)))))))))
 refine Yx 1 Z (Rr 1 Z (Wa (.wO v 32 e1 Z Z Z Z (by decide) (by omega)) Z (Yx 1 Z (Rr 1 Z (Wa (.MV v 4294967295 d Z Z Z Z (by omega) (by omega) ((mask32 _).trans o.symm)) Z (Yx 1 Z (Rr 2 Z (Wa (.Py U a (U/a) Z Z Z Z (by omega) (by omega) Z) Z (Yx 1 Z ?_)))))))))
 refine Rr 3 Z (Wa (.mulN (U/a) a (U/a*a) Z Z Z Z (Nat.mod_eq_of_lt (Nat.lt_of_le_of_lt (Nat.div_mul_le_self _ _) (by omega)))) Z (Wa (.KW U (U/a*a) (U%a) Z Z Z Z (Nat.le_trans (Nat.div_mul_le_self _ _) (by omega)) (QY U a (by omega))) Z (Yx 1 Z (WC.cut (ι:=Unit) (fun()=>[(2,.int .u64 (Y:Int)),(8,.int .u64 (s:Int)),(9,.int .u64 (a:Int)),(10,.int .u64 (b:Int)),(11,.int .u64 (U:Int)),(13,.int .u64 (e1:Int)),(14,.int .u64 (d:Int)),(15,.int .u64 (c:Int))]) (fun() x=>Le w x) ?_ ?_))))
 ·refine Bk (WC.loop (ι:=Nat×Nat) (fun⟨qh,rh⟩=>[(2,.int .u64 (Y:Int)),(8,.int .u64 (s:Int)),(9,.int .u64 (a:Int)),(10,.int .u64 (b:Int)),(11,.int .u64 (U:Int)),(13,.int .u64 (e1:Int)),(14,.int .u64 (d:Int)),(15,.int .u64 (qh:Int)),(16,.int .u64 (rh:Int))]) (fun⟨qh,rh⟩ wl=>Le w wl/\qh*a+rh=U/\c<=qh/\rh<4294967296/\qh<=4294967297) (fun⟨qh,rh⟩=>qh) (U/a,U%a) ?_ ?_ ?_)
  ·exact .of Z
  ·exact⟨L,by rw[Nat.mul_comm];exact Nat.div_add_mod _ _,by rw[i];exact JE hY (by omega) hU (by omega),Nat.lt_of_lt_of_le (Nat.mod_lt _ (by omega)) (by omega),JD hY (by omega) (by omega) hU⟩
  rintro⟨qh,rh⟩ wl ⟨Ll,hi,hq,hr,N⟩
  refine Sq (Rr 2 Z ?_)
  by_cases hb:4294967296<=qh
  ·refine Yn 1 Z (W.skip Z Z Z (dT (by omega)) Z Z (W.skip Z Z Z (dT (by omega)) Z Z (W.skip Z Z Z (dT (by omega)) Z Z (W.skip Z Z Z (dT (by omega)) Z Z (W.skip Z Z Z (dT (by omega)) Z Z (W.skip Z Z Z (dT (by omega)) Z Z (W.skip Z Z Z (dT (by omega)) Z Z (W.skip Z Z Z (dT (by omega)) Z Z (Wa (.BJ Z (dT (by omega)) Z) Z ?_)))))))))
   have hgt:c<qh:=by rw[i];exact KX hY hU (by omega) hi (by omega)
   have hd:qh*a=(qh-1)*a+a:=by rw[<-Nat.succ_mul];congr 1;omega
   have hinv:(qh-1)*a+(rh+a)=U:=by omega
   refine Nx (Ct Z (Sn (Bk (Rr 1 Z (Wa (.KW qh 1 (qh-1) Z Z Z Z (by omega) (by omega)) Z (Yx 1 Z (Rr 2 Z (Wa (.addN rh a (rh+a) Z Z Z Z (by omega)) Z (Yx 1 Z ?_)))))))))
   refine Rn 2 Z (WC.cond Z (fun m=>?_) (fun m=>?_))
   ·have hqe:qh-1=c:=Nat.le_antisymm (by rw[i];exact FZ hY (by omega) k hinv (by omega) (by omega)) (by omega)
    refine WC.exit (E.VR Z (E.jW (E.rQ (E.meet () (.cons Z (.cons Z (.cons Z (.cons Z (.cons Z (.cons Z (.cons Z (.cons' Z (int_eq (by rw[hqe])) (.nil _))))))))) ?_))))
    exact Ll
   refine WC.skip (E.jD (E.again (qh-1,rh+a) (.of Z) ?_ ?_))
   ·exact⟨Ll,hinv,by omega,by omega,by omega⟩
   first|omega|(simp only[];omega)
  refine Yn 1 Z (W.Fx (Any.rd (.move Z) _) Z Z Z (dF (by omega)) Z Z (W.Fx (Any.rd (.move Z) _) Z Z Z (dF (by omega)) Z Z ?_))
  have hqb:qh*b<18446744073709551616:=Nat.lt_of_le_of_lt (Nat.mul_le_mul (show qh<=4294967295 by omega) (show b<=4294967295 by omega)) (by decide)
  refine W.Fx (Any.rd (.mulN qh b (qh*b) Z Z Z Z (Nat.mod_eq_of_lt hqb)) _) Z Z Z (dF (by omega)) Z Z (W.Fx (Any.rd (.move Z) _) Z Z Z (dF (by omega)) Z Z (W.Fx (Any.rd (.mulN 4294967296 rh (4294967296*rh) Z Z Z Z (by omega)) _) Z Z Z (dF (by omega)) Z Z (W.Fx (Any.rd (.move Z) _) Z Z Z (dF (by omega)) Z Z (W.Fx (Any.rd (.addN (4294967296*rh) e1 (4294967296*rh+e1) Z Z Z Z (by omega)) _) Z Z Z (dF (by omega)) Z Z (W.Fx (Any.rd (.gtr Z Z) _) Z Z Z (dF (by omega)) Z Z (Wa (.AU Z (dF (by omega)) Z) Z (Nx (WC.cond Z (fun O=>?_) (fun O=>?_)))))))))
  ·have hgt:c<qh:=by rw[i];exact KX hY hU (by omega) hi (by omega)
   have hd:qh*a=(qh-1)*a+a:=by rw[<-Nat.succ_mul];congr 1;omega
   have hinv:(qh-1)*a+(rh+a)=U:=by omega
   refine Sn (Bk (Rr 1 Z (Wa (.KW qh 1 (qh-1) Z Z Z Z (by omega) (by omega)) Z (Yx 1 Z (Rr 2 Z (Wa (.addN rh a (rh+a) Z Z Z Z (by omega)) Z (Yx 1 Z (Rn 2 Z (WC.cond Z (fun m=>?_) (fun m=>?_))))))))))
   ·have hqe:qh-1=c:=Nat.le_antisymm (by rw[i];exact FZ hY (by omega) k hinv (by omega) (by omega)) (by omega)
    refine WC.exit (E.VR Z (E.jW (E.rQ (E.meet () (.cons Z (.cons Z (.cons Z (.cons Z (.cons Z (.cons Z (.cons Z (.cons' Z (int_eq (by rw[hqe])) (.nil _))))))))) ?_))))
    exact Ll
   refine WC.skip (E.jD (E.again (qh-1,rh+a) (.of Z) ?_ ?_))
   ·exact⟨Ll,hinv,by omega,by omega,by omega⟩
   first|omega|(simp only[];omega)
  have hqe:qh=c:=Nat.le_antisymm (by rw[i];exact Pz hY (by omega) hi (by omega)) hq
  refine WC.exit (E.jW (E.jW (E.rQ (E.meet () (.cons Z (.cons Z (.cons Z (.cons Z (.cons Z (.cons Z (.cons Z (.cons' Z (int_eq (by rw[hqe])) (.nil _))))))))) ?_))))
  exact Ll
 rintro⟨⟩ x P
 refine Rr 1 Z (Wa (.mulN U 4294967296 (U*4294967296%18446744073709551616) Z Z Z Z Z) Z (Yn 1 Z (Wa (.addN (U*4294967296%18446744073709551616) e1 ((U*4294967296+e1)%18446744073709551616) Z Z Z Z (by rw[Nat.mod_add_mod])) Z (Yn 2 Z (Wa (.mulN c Y (c*Y%18446744073709551616) Z Z Z Z Z) Z (Wa (.KW ((U*4294967296+e1)%18446744073709551616) (c*Y%18446744073709551616) R Z Z Z Z (Nat.le_of_lt (Nat.mod_lt _ (by decide))) ((MW Y _ _ i (by omega) (by omega)).trans hR.symm)) Z (Yx 1 Z (Rr 2 Z (Wa (.Py R a (R/a) Z Z Z Z (by omega) (by omega) Z) Z ?_)))))))))
 refine Yx 1 Z (Rr 3 Z (Wa (.mulN (R/a) a (R/a*a) Z Z Z Z (Nat.mod_eq_of_lt (Nat.lt_of_le_of_lt (Nat.div_mul_le_self _ _) (by omega)))) Z (Wa (.KW R (R/a*a) (R%a) Z Z Z Z (Nat.le_trans (Nat.div_mul_le_self _ _) (by omega)) (QY R a (by omega))) Z (Yx 1 Z (WC.cut (ι:=Unit) (fun()=>[(2,.int .u64 (Y:Int)),(8,.int .u64 (s:Int)),(9,.int .u64 (a:Int)),(10,.int .u64 (b:Int)),(14,.int .u64 (d:Int)),(17,.int .u64 (R:Int)),(15,.int .u64 (c:Int)),(18,.int .u64 (f:Int))]) (fun() A=>Le w A) ?_ ?_)))))
 ·refine Bk (WC.loop (ι:=Nat×Nat) (fun⟨qh,rh⟩=>[(2,.int .u64 (Y:Int)),(8,.int .u64 (s:Int)),(9,.int .u64 (a:Int)),(10,.int .u64 (b:Int)),(14,.int .u64 (d:Int)),(17,.int .u64 (R:Int)),(15,.int .u64 (c:Int)),(18,.int .u64 (qh:Int)),(16,.int .u64 (rh:Int))]) (fun⟨qh,rh⟩ wl=>Le w wl/\qh*a+rh=R/\f<=qh/\rh<4294967296/\qh<=4294967297) (fun⟨qh,rh⟩=>qh) (R/a,R%a) ?_ ?_ ?_)
  ·exact .of Z
  ·exact⟨P,by rw[Nat.mul_comm];exact Nat.div_add_mod _ _,by rw[j];exact JE hY (by omega) hRY (by omega),Nat.lt_of_lt_of_le (Nat.mod_lt _ (by omega)) (by omega),JD hY (by omega) (by omega) hRY⟩
  rintro⟨qh,rh⟩ wl ⟨Ll,hi,hq,hr,N⟩
  refine Sq (Rr 2 Z ?_)
  by_cases hb:4294967296<=qh
  ·refine Yn 1 Z (W.skip Z Z Z (dT (by omega)) Z Z (W.skip Z Z Z (dT (by omega)) Z Z (W.skip Z Z Z (dT (by omega)) Z Z (W.skip Z Z Z (dT (by omega)) Z Z (W.skip Z Z Z (dT (by omega)) Z Z (W.skip Z Z Z (dT (by omega)) Z Z (W.skip Z Z Z (dT (by omega)) Z Z (W.skip Z Z Z (dT (by omega)) Z Z (Wa (.BJ Z (dT (by omega)) Z) Z ?_)))))))))
   have hgt:f<qh:=by rw[j];exact KX hY hRY (by omega) hi (by omega)
   have hd:qh*a=(qh-1)*a+a:=by rw[<-Nat.succ_mul];congr 1;omega
   have hinv:(qh-1)*a+(rh+a)=R:=by omega
   refine Nx (Ct Z (Sn (Bk (Rr 1 Z (Wa (.KW qh 1 (qh-1) Z Z Z Z (by omega) (by omega)) Z (Yx 1 Z (Rr 2 Z (Wa (.addN rh a (rh+a) Z Z Z Z (by omega)) Z (Yx 1 Z ?_)))))))))
   refine Rn 2 Z (WC.cond Z (fun n=>?_) (fun n=>?_))
   ·have hqe:qh-1=f:=Nat.le_antisymm (by rw[j];exact FZ hY (by omega) k hinv (by omega) (by omega)) (by omega)
    refine WC.exit (E.VR Z (E.jW (E.rQ (E.meet () (.cons Z (.cons Z (.cons Z (.cons Z (.cons Z (.cons Z (.cons Z (.cons' Z (int_eq (by rw[hqe])) (.nil _))))))))) ?_))))
    exact Ll
   refine WC.skip (E.jD (E.again (qh-1,rh+a) (.of Z) ?_ ?_))
   ·exact⟨Ll,hinv,by omega,by omega,by omega⟩
   first|omega|(simp only[];omega)
  refine Yn 1 Z (W.Fx (Any.rd (.move Z) _) Z Z Z (dF (by omega)) Z Z (W.Fx (Any.rd (.move Z) _) Z Z Z (dF (by omega)) Z Z ?_))
  have hqb:qh*b<18446744073709551616:=Nat.lt_of_le_of_lt (Nat.mul_le_mul (show qh<=4294967295 by omega) (show b<=4294967295 by omega)) (by decide)
  refine W.Fx (Any.rd (.mulN qh b (qh*b) Z Z Z Z (Nat.mod_eq_of_lt hqb)) _) Z Z Z (dF (by omega)) Z Z (W.Fx (Any.rd (.move Z) _) Z Z Z (dF (by omega)) Z Z (W.Fx (Any.rd (.mulN 4294967296 rh (4294967296*rh) Z Z Z Z (by omega)) _) Z Z Z (dF (by omega)) Z Z (W.Fx (Any.rd (.move Z) _) Z Z Z (dF (by omega)) Z Z (W.Fx (Any.rd (.addN (4294967296*rh) d (4294967296*rh+d) Z Z Z Z (by omega)) _) Z Z Z (dF (by omega)) Z Z (W.Fx (Any.rd (.gtr Z Z) _) Z Z Z (dF (by omega)) Z Z (Wa (.AU Z (dF (by omega)) Z) Z (Nx (WC.cond Z (fun Q=>?_) (fun Q=>?_)))))))))
  ·have hgt:f<qh:=by rw[j];exact KX hY hRY (by omega) hi (by omega)
   have hd:qh*a=(qh-1)*a+a:=by rw[<-Nat.succ_mul];congr 1;omega
   have hinv:(qh-1)*a+(rh+a)=R:=by omega
   refine Sn (Bk (Rr 1 Z (Wa (.KW qh 1 (qh-1) Z Z Z Z (by omega) (by omega)) Z (Yx 1 Z (Rr 2 Z (Wa (.addN rh a (rh+a) Z Z Z Z (by omega)) Z (Yx 1 Z (Rn 2 Z (WC.cond Z (fun n=>?_) (fun n=>?_))))))))))
   ·have hqe:qh-1=f:=Nat.le_antisymm (by rw[j];exact FZ hY (by omega) k hinv (by omega) (by omega)) (by omega)
    refine WC.exit (E.VR Z (E.jW (E.rQ (E.meet () (.cons Z (.cons Z (.cons Z (.cons Z (.cons Z (.cons Z (.cons Z (.cons' Z (int_eq (by rw[hqe])) (.nil _))))))))) ?_))))
    exact Ll
   refine WC.skip (E.jD (E.again (qh-1,rh+a) (.of Z) ?_ ?_))
   ·exact⟨Ll,hinv,by omega,by omega,by omega⟩
   first|omega|(simp only[];omega)
  have hqe:qh=f:=Nat.le_antisymm (by rw[j];exact Pz hY (by omega) hi (by omega)) hq
  refine WC.exit (E.jW (E.jW (E.rQ (E.meet () (.cons Z (.cons Z (.cons Z (.cons Z (.cons Z (.cons Z (.cons Z (.cons' Z (int_eq (by rw[hqe])) (.nil _))))))))) ?_))))
  exact Ll
 rintro⟨⟩ A S
 refine Rr 1 Z (Wa (.mulN c 4294967296 (c*4294967296%18446744073709551616) Z Z Z Z Z) Z (Yn 1 Z (Wa (.addN (c*4294967296%18446744073709551616) f ((c*4294967296%18446744073709551616+f)%18446744073709551616) Z Z Z Z Z) Z (Yn 1 Z (Wa (.mulN R 4294967296 (R*4294967296%18446744073709551616) Z Z Z Z Z) Z (Yn 1 Z (Wa (.addN (R*4294967296%18446744073709551616) d ((R*4294967296+d)%18446744073709551616) Z Z Z Z (by rw[Nat.mod_add_mod])) Z (Yn 2 Z (Wa (.mulN f Y (f*Y%18446744073709551616) Z Z Z Z Z) Z ?_)))))))))
 refine Wa (.KW ((R*4294967296+d)%18446744073709551616) (f*Y%18446744073709551616) ((R*4294967296+d)%Y) Z Z Z Z (Nat.le_of_lt (Nat.mod_lt _ (by decide))) (MW Y _ _ j (by omega) (by omega))) Z (Yn 1 Z (Wa (.wO ((R*4294967296+d)%Y) s ((h*18446744073709551616+l)%y) Z Z Z Z (show s<=64 by omega) hfin.out) Z (Yx 2 Z (Rt (E.ac2 Z Z Z ?_)))))
 exact⟨by rw[aic.out],S⟩
theorem Ic (h l y:Nat)(h1:1152921504606846976<=y)(h2:y<4611686018427387904)(hl:l<18446744073709551616)(w:World):Calls prog 158 #[.int .u64 (h:Int),.int .u64 (l:Int),.int .u64 (y:Int)] w fun e w'=>e= .returned (.int .u64 (((h*18446744073709551616+l)%y:Nat):Int))/\Le w w':=by
 have hd:∀w,Calls prog 207 #[.int .u64 ((h%y:Nat):Int),.int .u64 (l:Int),.int .u64 (y:Int)] w fun e w'=>e= .returned (.tuple #[.int .u64 (((h%y*18446744073709551616+l)/y:Nat):Int),.int .u64 (((h*18446744073709551616+l)%y:Nat):Int)])/\Le w w':=fun w=>by
  rw[show(h*18446744073709551616+l)%y=(h%y*18446744073709551616+l)%y by rw[Nat.add_mod (h%y*_),Nat.mul_mod (h%y),Nat.mod_mod,<-Nat.mul_mod,<-Nat.add_mod]]
  by_cases hs:y<2305843009213693952
  ·exact RQ 3 61 (h%y) l y Z (by decide) (by omega) (by omega) (by omega) (Nat.mod_lt _ (by omega)) hl (by omega) (fun w=>by have:=RP y h1 h2 w;rw[if_pos hs]at this;exact this) w
  exact RQ 2 62 (h%y) l y Z (by decide) (by omega) (by omega) (by omega) (Nat.mod_lt _ (by omega)) hl (by omega) (fun w=>by have:=RP y h1 h2 w;rw[if_neg hs]at this;exact this) w
 refine En func158 Z ?_
 have c:=Le.refl w
 refine Rn 1 Z (Rr 2 Z (Wa (.BQ h y (h%y) Z Z Z Z (by omega) Z) Z (Yn 2 Z (Yc Z (hd w) fun i d=>?_))))
 have f:=c.trans d
 refine Yx 5 Z (Rn 2 Z (Rt (E.mP Z Z ?_)))
 exact⟨rfl,f⟩
open Go.Num
theorem ze (a b:Nat)(ha:a<18446744073709551616)(hb:b<18446744073709551616)(w:World):Calls prog 145 #[.int .u64 (a:Int),.int .u64 (b:Int)] w fun e w'=>e= .returned (.int .u64 ((a*b%M:Nat):Int))/\Le w w':=by
 refine En func145 Z ?_
 have c:=Le.refl w
 refine Rn 1 Z (Rr 2 Z (Yc Z (N8 a b ha hb w) fun d f=>?_))
 have i:=c.trans f
 refine Yx 5 Z (Rr 2 Z (Yc Z (Ic (a*b/18446744073709551616) (a*b%18446744073709551616) 4611686018427377339 (by decide) (by decide) (Nat.mod_lt _ (by decide)) d) fun l j=>?_))
 have k:=i.trans j
 refine Yx 1 Z (Rt (E.mP Z Z ?_))
 exact⟨by rw[Nat.div_add_mod'];rfl,k⟩
theorem Uc (a b:Nat)(ha:a<18446744073709551616)(hb:b<18446744073709551616)(w:World):Calls prog 214 #[.int .u64 (a:Int),.int .u64 (b:Int)] w fun e w'=>e= .returned (.int .u64 ((a*b%q:Nat):Int))/\Le w w':=by
 refine En func214 Z ?_
 have c:=Le.refl w
 refine Rn 1 Z (Rr 2 Z (Yc Z (N8 a b ha hb w) fun d f=>?_))
 have i:=c.trans f
 refine Yx 5 Z (Rr 2 Z (Yc Z (Ic (a*b/18446744073709551616) (a*b%18446744073709551616) 2305843009213688669 (by decide) (by decide) (Nat.mod_lt _ (by decide)) d) fun l j=>?_))
 have k:=i.trans j
 refine Yx 1 Z (Rt (E.mP Z Z ?_))
 exact⟨by rw[Nat.div_add_mod'];rfl,k⟩
theorem Ie (a n:Nat)(ha:a<18446744073709551616)(hn:n<18446744073709551616)(w:World):Calls prog 92 #[.int .u64 (a:Int),.int .u64 (n:Int)] w fun e w'=>e= .returned (.int .u64 (pw a n:Int))/\Le w w':=by
 refine En func92 Z (Rn 1 Z (Rn 1 Z (Sq (Bk (WC.loop (ι:=Nat×Nat×Nat) (fun⟨b,m,out⟩=>[(0,.int .u64 (b:Int)),(1,.int .u64 (m:Int)),(5,.int .u64 (out:Int))]) (fun⟨b,m,out⟩ wl=>Le w wl/\b<18446744073709551616/\m<18446744073709551616/\out<M/\out*b^m%M=pw a n) (fun⟨b,m,out⟩=>m) (a,n,1) ?_ ?_ ?_)))))
 ·exact .of Z
 ·exact⟨(Le.refl w),ha,hn,Gw,MB a n hn⟩
 rintro⟨b,m,out⟩ wl ⟨Ll,hb,hm,ho,hi⟩
 refine Sq (Rn 2 Z (WC.cond Z (fun f=>?_) (fun f=>?_)))
 ·have hbb:b*b%M<18446744073709551616:=Nat.lt_trans (Nat.mod_lt _ (by decide)) (by decide)
  have i:out<18446744073709551616:=Nat.lt_trans ho (by decide)
  refine Nb (Sq (Rr 1 Z (Wa (.MV m 1 (m%2) Z Z Z Z (by omega) (by omega) (VZ _)) Z (Yx 1 Z (WC.cond Z (fun j=>?_) (fun j=>?_))))))
  ·refine Rg (Yn 2 Z (Yc Z (ze out b i hb wl) fun k l=>?_))
   have o:=Ll.trans l
   refine Yx 1 Z (Rg (Yn 2 Z (Yc Z (ze b b hb hb k) fun s c=>?_)))
   have d:=o.trans c
   refine Yn 1 Z (W.nil (E.jD (E.iM (Rg (Yn 1 Z (Wa (.wO m 1 (m/2) Z Z Z Z (by decide) Z) Z (Yn 1 Z (W.nil (E.again (b*b%M,m/2,out*b%M) (.of Z) ?_ ?_)))))))))
   ·exact⟨d,hbb,by omega,Nat.mod_lt _ (by decide),by rw[step1 b m out (by omega)];exact hi⟩
   first|omega|(simp only[];omega)
  refine Sn (Rg (Yn 2 Z (Yc Z (ze b b hb hb wl) fun s c=>?_)))
  have d:=Ll.trans c
  refine Yn 1 Z (W.nil (E.jD (E.iM (Rg (Yn 1 Z (Wa (.wO m 1 (m/2) Z Z Z Z (by decide) Z) Z (Yn 1 Z (W.nil (E.again (b*b%M,m/2,out) (.of Z) ?_ ?_)))))))))
  ·exact⟨d,hbb,by omega,ho,by rw[step0 b m out (by omega)];exact hi⟩
  first|omega|(simp only[];omega)
 have t:m=0:=by omega
 subst t
 rw[VB b out ho]at hi
 refine Ex (Rn 2 Z (Rt (E.mP Z Z ?_)))
 exact⟨by rw[hi],Ll⟩
theorem agv (x:Nat):decide ((x:Int)=1)=decide (x=1):=decide_eq_decide.2 (by omega)
theorem lC (p:Nat)(hp:p<18446744073709551616)(w:World):Calls prog 41 #[.int .u64 (p:Int)] w fun e w'=>e= .returned (.bool (right p))/\Le w w':=by
 refine En func41 Z ?_
 have c:=Le.refl w
 refine Rn 1 Z (Rr 1 Z ?_)
 by_cases d:0<p
 ·refine Yt 1 Z (Yn 2 Z ?_)
  by_cases f:p<4611686018427377339
  ·refine Yt 1 Z (Yn 3 Z (Yc Z (Ie p 2305843009213688669 hp (by decide) w) fun k i=>?_))
   have j:=c.trans i
   refine Yx 3 Z (Rt (E.mP Z Z ?_))
   exact⟨by rw[right,dT d,dT (show p<M from f),Bool.true_and,Bool.true_and,<-agv];rfl,j⟩
  refine Yf 1 Z (Yx 7 Z (Rt (E.mP Z Z ?_)))
  exact⟨by rw[right,dF (show¬p<M from f),Bool.and_false,Bool.false_and],c⟩
 refine Yf 1 Z (Yx 10 Z (Rt (E.mP Z Z ?_)))
 exact⟨by rw[right,dF d,Bool.false_and,Bool.false_and],c⟩
theorem Cw (p:Nat)(hp:p<18446744073709551616)(w:World):Calls prog 140 #[.int .u64 (p:Int)] w fun e w'=>e= .returned (.int .u64 (taken p:Int))/\Le w w':=by
 refine En func140 Z ?_
 have f:=Le.refl w
 refine Rn 1 Z (Sq (Rr 1 Z (Yc Z (lC p hp w) fun j i=>?_)))
 have d:=f.trans i
 refine Nx (WC.yh Z (fun c=>?_) (fun c=>?_))
 ·refine Rn 2 Z (Rt (E.il (E.mP Z Z ?_)))
  exact⟨by rw[taken,if_pos c],d⟩
 refine Sn (Rn 1 Z (Rt (E.mP Z Z ?_)))
 exact⟨by rw[taken,if_neg (by rw[c];simp)];rfl,d⟩
theorem Cz (p:Nat):taken p<18446744073709551616:=Nat.lt_trans ((oP _).1 (vD p)).2.1 (by decide)
theorem CE (p k:Nat)(hp:p<18446744073709551616)(w:World):Calls prog 87 #[.int .u64 (p:Int),.int .u64 (k:Int)] w fun e w'=>e= .returned (.int .u64 (scale p k:Int))/\Le w w':=by
 refine En func87 Z ?_
 have c:=Le.refl w
 refine Rn 1 Z (Rr 1 Z (Yc Z (Cw p hp w) fun d f=>?_))
 have i:=c.trans f
 refine Yn 1 Z (Wa (.BQ k 2305843009213688669 (k%2305843009213688669) Z Z Z Z (by decide) Z) Z (Yc Z (Ie (taken p) (k%2305843009213688669) (Cz p) (by omega) d) fun m j=>?_))
 have l:=i.trans j
 refine Yx 1 Z (Rt (E.mP Z Z ?_))
 exact⟨rfl,l⟩
theorem pF (k:Nat)(w:World):Calls prog 37 #[.int .u64 (k:Int)] w fun e w'=>e= .returned (.int .u64 (base k:Int))/\Le w w':=by
 refine En func37 Z ?_
 have c:=Le.refl w
 refine Rn 1 Z (Rr 1 Z (Yc Z (CE 4 k (by decide) w) fun i d=>?_))
 have f:=c.trans d
 refine Yx 1 Z (Rt (E.mP Z Z ?_))
 exact⟨rfl,f⟩
theorem JZ (a:Nat)(w:World):Calls prog 175 #[.int .u64 (a:Int)] w fun e w'=>e= .returned (.bool (decide (a<q)))/\Le w w':=by
 refine En func175 Z (WC.sr (Yn 1 Z (W.nx (WC.sr (Yn 3 Z (W.nx (WC.ret (E.mP Z Z ?_))))))))
 exact⟨rB (decide_eq_decide.2 (by rw[aex];omega)),(Le.refl w)⟩
theorem RS (a:Nat)(w:World):Calls prog 212 #[.int .u64 (a:Int)] w fun e w'=>e= .returned (.int .u64 ((a%q:Nat):Int))/\Le w w':=by
 refine En func212 Z (WC.sr (Yn 1 Z (W.nx (WC.sr (Yn 1 Z (Wa (.BQ a 2305843009213688669 (a%2305843009213688669) Z Z Z Z (by decide) Z) Z (Yn 1 Z (W.nx (WC.ret ?_)))))))))
 refine E.mP Z Z ?_
 exact⟨rfl,(Le.refl w)⟩
theorem aaB (a b:Nat)(w:World):Calls prog 177 #[.int .u64 (a:Int),.int .u64 (b:Int)] w fun e w'=>e= .returned (.int .u64 (Fw a b:Int))/\Le w w':=by
 refine En func177 Z ?_
 have c:=Le.refl w
 refine Rn 1 Z (Rr 1 Z (Yc Z (RS a w) fun d f=>?_))
 have i:=c.trans f
 refine Yn 1 Z (Yc Z (RS b d) fun j k=>?_)
 have l:=i.trans k
 refine Yc Z (Uc (a%q) (b%q) (Gy a) (Gy b) j) fun o m=>?_
 have n:=l.trans m
 refine Yx 1 Z (Rt (E.mP Z Z ?_))
 exact⟨rfl,n⟩
theorem Gg (h:List (BitVec 8))(hh:h.length=32)(w:World):Calls prog 113 #[.agg (h.map jf).toArray] w fun e w'=>e= .returned (.int .u64 (kD h:Int))/\Le w w':=by
 refine En func113 Z ?_
 have c:=Le.refl w
 refine Sr (Yv Z fun o s t d f=>?_)
 have i:=c.trans f
 refine Yx 1 Z (Rn 1 Z (Sq (Sr (Wr (.jM ug (by simp[hh]) Z d) Z (Yx 1 Z (Bk (WC.loop (ι:=Nat) (fun k=>[(6,.agg (h.map jf).toArray),(7,J (k:Int)),(3,.int .u64 (ku 0 (h.take k):Int))]) (fun k wl=>k<=32/\Le w wl) (fun k=>32-k) 0 ?_ ?_ ?_)))))))
 ·exact .of Z
 ·exact⟨by omega,i⟩
 rintro k wl ⟨hk,Ll⟩
 have hlt:ku 0 (h.take k)<q-1:=zK _ 0 (by decide)
 have u:ku 0 (h.take k)<2305843009213688668:=hlt
 refine Rn 1 Z (Sq (WC.cond Z (fun j=>?_) (fun j=>?_)))
 ·have hb:h[k]? =some (h.getD k 0):=by rw[List.getElem?_eq_getElem (by omega),List.getD_eq_getElem?_getD,List.getElem?_eq_getElem (by omega)];rfl
  have hbl:=(h.getD k 0).isLt
  refine Nb (Sr (Wa (.as (Any.ahf k underlying23 underlying5 yC hh Z Z Z (by omega)) (show jf (h.getD k 0)=_ from Z)) Z (Yx 1 Z (Rg (Yn 1 Z (Wa (.wO (ku 0 (h.take k)) 56 (ku 0 (h.take k)/72057594037927936) Z Z Z Z (by decide) Z) Z (Yn 1 Z (Wa (.Z9 (ku 0 (h.take k)) 8 (ku 0 (h.take k)*256%18446744073709551616) Z Z Z Z (by decide) Z) Z (Yn 1 Z ?_)))))))))
  refine Wr (.VU (rG underlying5) underlying53 Z) Z (Wa (.orE (ku 0 (h.take k)*256%18446744073709551616) ((h.getD k 0).toNat) (ku 0 (h.take k)*256%18446744073709551616+(h.getD k 0).toNat) Z Z Z Z (by omega) (by omega) (V3 _ _ hbl)) Z (Yc Z (Ic (ku 0 (h.take k)/72057594037927936) (ku 0 (h.take k)*256%18446744073709551616+(h.getD k 0).toNat) 2305843009213688668 (by decide) (by decide) (by omega) wl) fun v l=>?_))
  have m:=Ll.trans l
  refine Yn 1 Z (W.nil (Lp 1 Z Z (E.again (k+1) (.cons Z (.cons Z (.cons' Z (int_eq (congrArg Nat.cast (by rw[EN h k 0 _ hb,show q-1=2305843009213688668 from Z];congr 1;omega))) (.nil _)))) ?_ ?_)))
  ·exact⟨by omega,m⟩
  first|omega|(simp only[];omega)
 have n:k=32:=by omega
 subst n
 refine Ex (Rr 1 Z (Wa (.addN (ku 0 (h.take 32)) 1 (ku 0 (h.take 32)+1) Z Z Z Z (by omega)) Z (Yx 1 Z (Rt (E.mP Z Z ?_)))))
 exact⟨by rw[kD,List.take_of_length_le (by omega)],Ll⟩
theorem aaC (a b g:Nat)(ha:a<18446744073709551616)(hb:b<18446744073709551616)(w:World)(hB:ik w g 60 #[.int .u64 (a:Int),.int .u64 (b:Int)]):Calls prog 159 #[.slice (some ⟨g,0,none⟩) 2 2] w fun e w'=>e= .returned (.int .u64 (tY a b:Int))/\Le w w':=by
 refine En func159 Z (Rn 1 Z (Rn 1 Z (Sq (Rn 3 Z (Bk (WC.loop (ι:=Nat×Nat) (fun⟨k,out⟩=>[(3,.int .u64 (out:Int)),(6,.slice (some ⟨g,0,none⟩) 2 2),(7,J 2),(8,J (k:Int))]) (fun⟨k,out⟩ wl=>k<=2/\Le w wl/\out=(if k=0 then 1 else if k=1 then 1*taken a%M else(1*taken a%M)*taken b%M)) (fun⟨k,out⟩=>2-k) (0,1) ?_ ?_ ?_))))))
 ·exact .of Z
 ·exact⟨by omega,(Le.refl w),rfl⟩
 rintro⟨k,out⟩ wl ⟨hk,Ll,ho⟩
 refine Rn 1 Z (Sq (WC.cond Z (fun d=>?_) (fun d=>?_)))
 ·have c:k=0\/k=1:=by omega
  have f:out<18446744073709551616:=by
   rw[ho];rcases c with rfl|rfl
   ·rw[if_pos Z];decide
   rw[if_neg (by decide),if_pos Z];exact Nat.lt_trans (Nat.mod_lt _ (by decide)) (by decide)
  obtain⟨p,i,j,l⟩:∃p:Nat,(#[.int .u64 (a:Int),.int .u64 (b:Int)]:Array Value)[k]? =some (.int .u64 (p:Int))/\(if k=0 then a else b)=p/\p<18446744073709551616:=by
   rcases c with rfl|rfl
   ·exact⟨a,rfl,rfl,ha⟩
   exact⟨b,rfl,rfl,hb⟩
  have hstep:out*taken p%M=(if k+1=0 then 1 else if k+1=1 then 1*taken a%M else(1*taken a%M)*taken b%M):=by
   rw[ho,<-j];rcases c with rfl|rfl<;>rfl
  refine Nb (Sr (Wa (.VV k underlying187 Cs Z Z Z (by omega)) Z (Yl Z (hB.le Ll) i (Yx 1 Z (Rg (Yn 2 Z (Yc Z (Cw p l wl) fun m n=>?_)))))))
  have o:=Ll.trans n
  refine Yc Z (ze out (taken p) f (Cz p) m) fun u s=>?_
  have t:=o.trans s
  refine Yn 1 Z (W.nil (Lp 1 Z Z (E.again (k+1,out*taken p%M) (.of Z) ?_ ?_)))
  ·exact⟨by omega,t,hstep⟩
  first|omega|(simp only[];omega)
 have c:k=2:=by omega
 subst c
 have hres:out=tY a b:=by rw[ho,tY,Nat.one_mul];simp only[Nat.reduceEqDiff,if_false];rw[Nat.mul_mod,Nat.mod_mod,<-Nat.mul_mod]
 refine Ex (Rn 2 Z (Rt (E.mP Z Z ?_)))
 exact⟨by rw[hres],Ll⟩
theorem Lt (a b:Nat)(ha:a<18446744073709551616)(hb:b<18446744073709551616)(w:World):Calls prog 118 #[.int .u64 (a:Int),.int .u64 (b:Int)] w fun e w'=>e= .returned (.int .u64 (tY a b:Int))/\Le w w':=by
 refine En func118 Z ?_
 have c:=Le.refl w
 refine Rn 1 Z (Rr 2 Z (W.ef Z Z Z (Ef.lQ [_,_] underlying187 wy Z (by intro v hv;simp at hv;rcases hv with rfl|rfl<;>rfl) Z (by decide) (by decide) ?_)))
 intro d f n i j
 have k:=c.trans j
 refine Yc Z (aaC a b d ha hb f i) fun o l=>?_
 have m:=k.trans l
 refine Yx 1 Z (Rt (E.mP Z Z ?_))
 exact⟨rfl,m⟩
open Go.Gz Go.Lsp
def iV (s:Seat):List Value:=[J s.ch,J s.p0,J s.p1,J s.h0,J s.h1]
theorem iI:kM iV 5:=⟨fun _=>rfl,fun x v hv=>by simp[iV]at hv;rcases hv with rfl|rfl|rfl|rfl|rfl<;>rfl,by decide⟩
def vL (h:yz):List Value:=[J h.am,.int .u64 (h.pt:Int)]
theorem uL:kM vL 2:=⟨fun _=>rfl,fun x v hv=>by simp[vL]at hv;rcases hv with rfl|rfl<;>rfl,by decide⟩
def mf (k:kI):List Value:=[J k.ch,J k.side,J k.id]
theorem xR:kM mf 3:=⟨fun _=>rfl,fun x v hv=>by simp[mf]at hv;rcases hv with rfl|rfl|rfl<;>rfl,by decide⟩
def DW (g:Bc):List Value:=[J g.ch,J g.side,J g.am]
theorem uX:kM DW 3:=⟨fun _=>rfl,fun x v hv=>by simp[DW]at hv;rcases hv with rfl|rfl|rfl<;>rfl,by decide⟩
theorem N9 (s:Seat){j:Nat}(h:j<2):(iV s).toArray[1+j]? =some (J (s.p j)):=by
 have:j=0\/j=1:=by omega
 rcases this with rfl|rfl<;>rfl
theorem nX (s:Seat){j:Nat}(h:j<2):(iV s).toArray[3+j]? =some (J (s.h j)):=by
 have:j=0\/j=1:=by omega
 rcases this with rfl|rfl<;>rfl
theorem zf (s:Seat){j:Nat}(h:j<2):#[Value.int .i64 s.p0,J s.p1][j]? =some (J (s.p j)):=by
 have:j=0\/j=1:=by omega
 rcases this with rfl|rfl<;>rfl
theorem xf (s:Seat)(v:Int){j:Nat}(h:j<2):(iV s).toArray.setIfInBounds (3+j) (J v)=(iV (s.setH j v)).toArray:=by
 have:j=0\/j=1:=by omega
 rcases this with rfl|rfl<;>rfl
def uu (x:Int):Value:= J x
def Ff (k:kI):Value:= .agg (mf k).toArray
def mJ (s:Seat):Value:= .agg (iV s).toArray
def pY (h:yz):Value:= .agg (vL h).toArray
theorem qG:wT prog 3 uu:=wT.int underlying3
variable {d:Nat}
theorem Qc (a b:kI):yU prog (d+2) 142 (.agg (mf a).toArray) (.agg (mf b).toArray) (decide (a=b)):=by
 have h:=yU.ints (P:=prog) (d:=d) (t:=142) (mf a) (mf b) [(.i64,0),(.i64,1),(.i64,2)] (by kernel_rfl) (by kernel_rfl) (by
  rw[show(prog.fieldsOf 142)=_ from(by unfold Program.fieldsOf;rw[underlying142])]
  exact⟨by decide,rfl,underlying3,⟨_,_,rfl,rfl⟩,by decide,rfl,underlying3,⟨_,_,rfl,rfl⟩,by decide,rfl,underlying3,⟨_,_,rfl,rfl⟩,trivial⟩)
 have e:BZ (mf a) (mf b) [(.i64,0),(.i64,1),(.i64,2)]=decide (a=b):=by
  obtain⟨c,f,i⟩:=a
  obtain⟨j,k,l⟩:=b
  simp only[BZ,mf,List.getElem?_cons_zero,List.getElem?_cons_succ]
  rw[Bool.eq_iff_iff]
  simp only[Bool.and_eq_true,decide_eq_true_eq,Bool.and_true,kI.mk.injEq]
 rw[e]at h
 exact h
theorem Oa (b:Bool)(k:kI)(w:World):∀m:Nat,(Instr.checkKey b (m+2) 142 (Ff k)).run prog w= .ok () w:=by
 intro m
 have hi:∀(v:Int) (w:World),(Instr.checkKey b (m+1) 3 (J v)).run prog w= .ok () w:=fun v w=>by unfold Instr.checkKey;simp[run_underlying underlying3]
 have c:∀w:World,(part 3 (mf k).toArray 0).run prog w= .ok (J k.ch) w:=kR yH Z
 have d:∀w:World,(part 3 (mf k).toArray 1).run prog w= .ok (J k.side) w:=kR yH Z
 have e:∀w:World,(part 3 (mf k).toArray 2).run prog w= .ok (J k.id) w:=kR yH Z
 unfold Instr.checkKey
 simp only[Sem.run_bind,run_underlying underlying142,Result.andThen_ok,Ff]
 simp[c,d,e,hi]
theorem zg:wT prog 142 Ff:=wT.struct underlying142 (fun b k w=>Oa b k w 9998) (fun k=>⟨_,rfl⟩) (fun a b=>Qc (d:=9998) a b)
theorem CF {κ β:Type}[DecidableEq κ]{f:κ->β->Int}{seen:Array Nat}:∀{l:List (Nat×κ×β)},(∀x∈l,0<=f x.2.1 x.2.2)->0<=j6 f (wh l seen)/\j6 f (wh l seen)<=j6 f l
 |[],_=>by simp[wh,j6]
 |x::l,h=>by
  have h1:=CF (f:=f) (seen:=seen) (l:=l) (fun y hy=>h y (List.mem_cons_of_mem _ hy))
  have c:=h x List.mem_cons_self
  unfold wh at*
  rw[List.filter_cons]
  split
  ·rw[jb,jb];omega
  ·rw[jb];omega
variable {lh:HM}
theorem uY {ch side:Int}(hb:∀x∈lh,0<=x.2.2.am):∀x∈lh,0<=oo ch side x.2.1 x.2.2:=by
 intro x hx
 unfold oo
 split
 ·exact hb x hx
 ·exact Int.le_refl _
structure mr (w:World)(gp gs gh:Nat)(A:Option Addr)(c cs ck:Nat)(own:List Int)(ls:SM)(lh:HM)(lost:Int):Prop where
 hp:ik w gp 129 #[.slice A own.length c,.map (some gs),.map (some gh),J lost]
 hO:iy w 0 3 iv 1 A own.length c own
 hS:jk w uu mJ gs ls cs
 hH:jk w Ff pY gh lh ck
 ps:gp≠gs
 ph:gp≠gh
 sh:gs≠gh
 op:rowOf A c≠some gp
 os:rowOf A c≠some gs
 oh:rowOf A c≠some gh
def LF (gp gs gh:Nat)(A:Option Addr)(c:Nat)(k:Nat):Prop:=k=gp\/k=gs\/k=gh\/rowOf A c=some k
section
variable {w w':World}{gp gs gh c cs ck:Nat}{A:Option Addr}{own:List Int}{ls:SM}{lh:HM}{lost:Int}
theorem mr.ji {F':Nat->Prop}(h:mr w gp gs gh A c cs ck own ls lh lost)(hc:iX w w' F')(hne:∀k,LF gp gs gh A c k->¬F' k):mr w' gp gs gh A c cs ck own ls lh lost:=
 ⟨h.hp.ji hc (hne _ (.inl Z)),h.hO.ji hc (fun k hk=>hne _ (.inr (.inr (.inr hk)))),h.hS.ji hc (hne _ (.inr (.inl Z))),h.hH.ji hc (hne _ (.inr (.inr (.inl Z)))),h.ps,h.ph,h.sh,h.op,h.os,h.oh⟩
theorem mr.le (h:mr w gp gs gh A c cs ck own ls lh lost)(hl:Le w w'):mr w' gp gs gh A c cs ck own ls lh lost:=h.ji (hl.ji (fun _=>False)) (fun _ _ hf=>hf)
theorem mr.lt (h:mr w gp gs gh A c cs ck own ls lh lost){k:Nat}(hk:LF gp gs gh A c k):k<w.heap.size:=by
 rcases hk with rfl|rfl|rfl|hk
 ·exact h.hp.lt
 ·exact h.hS.lt
 ·exact h.hH.lt
 ·exact(h.hO.row hk).2
end
theorem tF (n:Int)(w:World):Calls prog 34 #[J (n)] w fun r w'=>r= .returned (.bool (og n))/\Le w w':=by
 refine En func34 Z ?_
 have d:=Le.refl w
 refine Rn 1 Z (Rr 2 Z ?_)
 by_cases c:0<=n
 ·refine Dt c Z Z (Yy 4 Z Z Z ?_)
  exact⟨rB (by simp[og,c]),d⟩
 refine Df c Z Z (Yy 4 Z Z Z ?_)
 exact⟨rB (by simp[og,c]),d⟩
variable {gp gs c ck:Nat}{A:Option Addr}{ls:SM}{lost:Int}
theorem aaD {gh cs:Nat}{own:List Int}(w:World)(hL:mr w gp gs gh A c cs ck own ls lh lost):Calls prog 16 #[.pointer (some ⟨gp,0,none⟩)] w fun r w'=>r= .returned (J lost)/\Le w w':=by
 refine En func16 Z ?_
 have d:=Le.refl w
 refine Rn 1 Z (Rr 3 Z (Yk (J lost) Z (hL.hp.le d) Z (Yy 1 Z Z Z ?_)))
 exact⟨rfl,d⟩
theorem RU {gh cs:Nat}{own:List Int}(party:Int)(w:World)(hL:mr w gp gs gh A c cs ck own ls lh lost):Calls prog 18 #[.pointer (some ⟨gp,0,none⟩),J (party)] w fun r w'=>r= .returned (J (uN own party))/\Le w w':=by
 refine En func18 Z ?_
 have d:=Le.refl w
 refine Rn 1 Z (Sq (Rr 2 Z ?_))
 by_cases e:party<0
 ·refine Dt e Z Z (Yx 8 Z (Ct Z (Rn 1 Z (Rt (E.il (E.iC Z Z ?_))))))
  exact⟨congrArg (fun b=>Ending.returned (Value.int .i64 b)) (by unfold uN;first|(rw[if_pos (by omega)])|(rw[if_neg (by omega)])),d⟩
 refine Df e Z Z (Yn 4 Z (Yk (.slice A own.length c) Z (hL.hp.le d) Z (Yx 3 Z ?_)))
 by_cases f:(own.length:Int)<=party
 ·refine Cy Z (dT f) (Rn 1 Z (Rt (E.il (E.iC Z Z ?_))))
  exact⟨congrArg (fun b=>Ending.returned (Value.int .i64 b)) (by unfold uN;first|(rw[if_pos (by omega)])|(rw[if_neg (by omega)])),d⟩
 refine Cn Z (dF f) (Sn (Rr 3 Z (Yk (.slice A own.length c) Z (hL.hp.le d) Z (Yn 1 Z (Ys ((party).toNat) Z (hL.hO.vec.isSome iQ (by omega)) (Wr (.o9 (v:= J (own.getD ((party).toNat) 0)) yH Z (hL.hO.vec.le d) iQ (jN own 0 (by omega)) Z) Z (Yy 1 Z Z Z ?_)))))))
 exact⟨congrArg (fun b=>Ending.returned (Value.int .i64 b)) (by unfold uN;first|(rw[if_pos (by omega)])|(rw[if_neg (by omega)])),d⟩
theorem Xy {gh cs:Nat}{own:List Int}(ch:Int)(w:World)(hL:mr w gp gs gh A c cs ck own ls lh lost):Calls prog 13 #[.pointer (some ⟨gp,0,none⟩),J (ch)] w fun r w'=>r= .returned (.tuple #[.agg (iV ((iO ch ls).getD iB)).toArray,.bool (iO ch ls).isSome])/\Le w w':=by
 refine En func13 Z ?_
 have i:=Le.refl w
 refine Sr (Yz Z z52 fun j t m (n:ik t j 52 (iV iB).toArray) u=>?_)
 have d:=i.trans u
 refine Yx 1 Z (Rr 3 Z (Yk (.map (some gs)) Z (hL.hp.le d) Z (Yn 1 Z ?_)))
 rcases optG (iO ch ls)with e|⟨f,e⟩
 ·refine Wr (.as (.mV (key:=ch) underlying126 qG z52 Z Z (hL.hS.le d)) (by rw[e]<;>rfl)) Z (Yn 1 Z (Wa (.extract (v:= .agg (iV iB).toArray) Z Z) Z (Yn 1 Z (W.ab Z z52 wu (iI.one iB) fun x y P (B:ik y x 52 (iV iB).toArray) o=>Yx 1 Z (Sr (Yh Z B (Yn 1 Z (Yw Z (n.le o) (iI.one iB) ?_))))))))
  intro C k D
  have k:ik C j 52 (iV iB).toArray:=k
  have F:=(d.trans o).tb D i m
  refine Yx 1 Z (Rt (E.lD Z (lV Z k TP (by rfl)) Z ?_))
  exact⟨by rw[e];rfl,F⟩
 refine Wr (.as (.mV (key:=ch) underlying126 qG z52 Z Z (hL.hS.le d)) (by rw[e]<;>rfl)) Z (Yn 1 Z (Wa (.extract (v:= .agg (iV f).toArray) Z Z) Z (Yn 1 Z (W.ab Z z52 wu (iI.one f) fun H I Q (K:ik I H 52 (iV f).toArray) s=>Yx 1 Z (Sr (Yh Z K (Yn 1 Z (Yw Z (n.le s) (iI.one f) ?_))))))))
 intro L l N
 have l:ik L j 52 (iV f).toArray:=l
 have O:=(d.trans s).tb N i m
 refine Yx 1 Z (Rt (E.lD Z (lV Z l TP (by rfl)) Z ?_))
 exact⟨by rw[e];rfl,O⟩
theorem CG {gh cs:Nat}{own:List Int}(ch side:Int)(w:World)(hL:mr w gp gs gh A c cs ck own ls lh lost)(hb:∀x∈lh,0<=x.2.2.am)(ht:jA lh ch side<=4611686018427387904):Calls prog 19 #[.pointer (some ⟨gp,0,none⟩),J ch,J (side)] w fun r w'=>r= .returned (J (jA lh ch side))/\Le w w':=by
 refine En func19 Z ?_
 have t:=Le.refl w
 refine Rn 1 Z (Rn 1 Z (Sq (Rr 3 Z (Yk (.map (some gh)) Z (hL.hp.le t) Z (W.ef Z Z Z (Ef.WH underlying127 Z (hL.hH.le t) ?_))))))
 intro L S U V X
 refine Nx (Bk (WC.loop (ι:=(Array Nat)) (fun seen=>[(1,J ch),(2,J side),(7,J (jA lh ch side-j6 (oo ch side) (wh lh seen))),(14,.pointer (some ⟨L,0,none⟩))]) (fun seen u=>Le w u/\S.heap.size<=u.heap.size/\Jl u L gh ck seen) (fun seen=>(wh lh seen).length) (#[]) ?_ ?_ ?_))
 ·exact .cons Z (.cons Z (.cons' Z (int_eq (by rw[NJ];show _=j6 _ lh-_;omega)) (.cons Z (.nil _))))
 ·exact⟨(t.trans X),Nat.le_refl _,V⟩
 rintro seen u ⟨y,D,Y⟩
 refine Sr (W.ef Z Z Z (Ef.ach Z (hL.hH.le y) Y ?_ ?_))
 ·intro aa
  refine Yx 1 Z (Sq (Cf Z (Ex (Ry 2 Z Z Z ?_))))
  exact⟨congrArg (fun b=>Ending.returned (Value.int .i64 b)) (by rw[aa,MF];omega),y⟩
 intro d ap N i B
 have F:=y.tb B t U
 have n:=JV (hL.hH.le y).2 N
 have ac:=n.length_eq
 rw[List.length_cons]at ac
 refine Yx 1 Z (Sq (Ct Z (Sn (Bk (Sr (W.ef Z Z Z (Ef.WI (e:=d) Z (hL.hH.le F) i (HZ N) (Wa (.extract (v:= .agg (mf d.2.1).toArray) Z Z) Z (Wa (.extract (v:= .agg (vL d.2.2).toArray) Z Z) Z ?_)))))))))
 refine Yz Z P6 ?_
 intro O ad ae o j
 have P:=F.trans j
 have o:ik ad O 142 (mf acV).toArray:=o
 refine Yz Z Cu fun Q af ah (ai:ik af Q 144 (vL xF).toArray) k=>Yw Z (o.le k) (xR.one d.2.1) ?_
 intro aj H l
 have H:ik aj O 142 (mf d.2.1).toArray:=H
 have _:=o.lt
 have f7:=(ai.cn l (by omega))
 refine Yw Z f7 (uL.one d.2.2) ?_
 intro ak I m
 have I:ik ak Q 144 (vL d.2.2).toArray:=I
 have K:=((P.trans k).tb l F ae).tb m P ah
 refine Nx (Rr 1 Z ?_)
 have R:=(H.cn m (by omega))
 refine Yk (J d.2.1.ch) Z R Z (Yn 2 Z ?_)
 by_cases s:d.2.1.ch=ch
 ·refine Dt s Z Z (Yn 1 Z (Yk (J d.2.1.side) Z R Z (Yx 3 Z ?_)))
  by_cases C:d.2.1.side=side
  ·refine Cy Z (dT C) (Rg (Yn 2 Z (Yk (J d.2.2.am) Z I Z (Wa (.add Z Z (by have h1:=uJ (f:=oo ch side) n;rw[jb]at h1;have h2:=CF (f:=oo ch side) (seen:=seen.push d.1) (uY (ch:=ch) (side:=side) hb);have h3:oo ch side d.2.1 d.2.2=d.2.2.am:=if_pos ⟨by assumption,by assumption⟩;unfold jA at*;omega)) Z (Yn 1 Z (W.nil (E.jD ?_)))))))
   have _:=i.lt
   have _:=j.size
   have al:=(((i.le (j.trans k)).cn l (by omega)).cn m (by omega))
   refine E.again (seen.push d.1) (.cons Z (.cons Z (.cons' Z (int_eq (by have:=uJ (f:=oo ch side) n;rw[jb]at this;unfold oo at this;first|(rw[if_pos ⟨by assumption,by assumption⟩]at this;unfold oo;omega)|(rw[if_neg (by simp[s,C])]at this;unfold oo;omega))) (.cons Z (.nil _))))) ?_ ?_
   ·exact⟨K,by have:=D;have:=B.size;have:=k.size;have:=l.size;have:=m.size;omega,al⟩
   first|omega|(simp only[];omega)
  refine Cn Z (dF C) (WC.skip (E.jD ?_))
  have _:=i.lt
  have _:=j.size
  have an:=(((i.le (j.trans k)).cn l (by omega)).cn m (by omega))
  refine E.again (seen.push d.1) (.cons Z (.cons Z (.cons' Z (int_eq (by have:=uJ (f:=oo ch side) n;rw[jb]at this;unfold oo at this;first|(rw[if_pos ⟨by assumption,by assumption⟩]at this;unfold oo;omega)|(rw[if_neg (by simp[s,C])]at this;unfold oo;omega))) (.cons Z (.nil _))))) ?_ ?_
  ·exact⟨K,by have:=D;have:=B.size;have:=k.size;have:=l.size;have:=m.size;omega,an⟩
  first|omega|(simp only[];omega)
 refine Df s Z Z (Yx 5 Z (Cf Z (WC.skip (E.jD ?_))))
 have _:=i.lt
 have _:=j.size
 have ao:=(((i.le (j.trans k)).cn l (by omega)).cn m (by omega))
 refine E.again (seen.push d.1) (.cons Z (.cons Z (.cons' Z (int_eq (by have:=uJ (f:=oo ch side) n;rw[jb]at this;unfold oo at this;first|(rw[if_pos ⟨by assumption,by assumption⟩]at this;unfold oo;omega)|(rw[if_neg (by simp[s])]at this;unfold oo;omega))) (.cons Z (.nil _))))) ?_ ?_
 ·exact⟨K,by have:=D;have:=B.size;have:=k.size;have:=l.size;have:=m.size;omega,ao⟩
 first|omega|(simp only[];omega)
variable {party:Int}
theorem Ud (hb:∀x∈lh,0<=x.2.2.am)(hw:∀x∈ls,0<=x.2.2.h0/\0<=x.2.2.h1):∀x∈ls,0<=l8 lh party x.2.1 x.2.2:=by
 intro x hx
 have h1:∀s,0<=jA lh x.2.1 s:=fun s=>lM (uY hb)
 have:=hw x hx
 have:=h1 0
 have:=h1 1
 unfold l8
 split<;>split<;>omega
variable {s:Seat}
theorem Ue (k:Nat)(h0:0<=s.h0)(h1:0<=s.h1):0<=s.h k:=by
 unfold Seat.h
 split
 ·exact h0
 ·exact h1
def uh (lh:HM)(party ch:Int)(s:Seat)(k:Nat):Int:=(if 0<k/\s.p0=party then s.h0+jA lh ch 0 else 0)+(if 1<k/\s.p1=party then s.h1+jA lh ch 1 else 0)
theorem Xz (lh:HM)(party ch:Int)(s:Seat):uh lh party ch s 0=0:=by simp[uh]
theorem XA (lh:HM)(party ch:Int)(s:Seat):uh lh party ch s 2=l8 lh party ch s:=by simp[uh,l8]
variable {k:Nat}
theorem zh {ch:Int}(hk:k<2):uh lh party ch s (k+1)=uh lh party ch s k+if s.p k=party then s.h k+jA lh ch (k:Int)else 0:=by
 have:k=0\/k=1:=by omega
 rcases this with rfl|rfl
 ·simp[uh,Seat.p,Seat.h]
 ·simp[uh,Seat.p,Seat.h]
theorem J2 {ch:Int}(k:Nat)(hb:∀x∈lh,0<=x.2.2.am)(h0:0<=s.h0)(h1:0<=s.h1):0<=uh lh party ch s k/\uh lh party ch s k<=l8 lh party ch s:=by
 have e:0<=jA lh ch 0:=lM (uY hb)
 have e1:0<=jA lh ch 1:=lM (uY hb)
 unfold uh l8
 by_cases a:s.p0=party<;>by_cases b:s.p1=party<;>by_cases c:0<k<;>by_cases d:1<k<;>simp[a,b,c,d]<;>omega
variable {n:Nat}
theorem Uf {Aq:Option Addr}{cq:Nat}{xs:List Int}(w:World)(hO:Vec w iv 1 Aq n xs)(hn:n<=1000000):Calls prog 32 #[.slice Aq n cq] w fun r w'=>∃(A:Option Addr) (c:Nat),r= .returned (.slice A n c)/\iy w' w.heap.size 3 iv 1 A n c xs/\Le w w':=by
 refine En func32 Z ?_
 have d:=Le.refl w
 refine Rn 1 Z (Sq (Rr 1 Z (Wa (.isNil underlying48 Z) Z (Nx ?_))))
 by_cases e:Aq.isNone=true
 ·refine Cy Z e (Rn 1 Z (Rt (E.il (E.iC Z Z ?_))))
  have k:n=0:=(Nat.eq_zero_of_not_pos (fun hp=>by have:=hO.isSome iQ hp;rw[Option.isSome_iff_ne_none]at this;exact this (Option.isNone_iff_eq_none.1 e)));subst k;have hx:xs=[]:=List.eq_nil_of_length_eq_zero hO.1;subst hx;exact⟨none,0,rfl,iy.nil _ _ _ _ _ _,d⟩
 refine Cn Z (Bool.eq_false_iff.2 e) (Sn (Sr (W.ef Z Z Z (Ef.oz underlying48 Je fun l m u v f=>?_))))
 have i:=d.trans f
 have j:iy m w.heap.size 3 iv 1 (some ⟨l,0,none⟩) 0 0 []:=iy.nil _ _ _ _ _ _
 refine Yn 1 Z (W.ef Z Z Z (Ef.adb underlying48 Je underlying48 iQ Z j Z (hO.le i) (by omega) (by unfold maxLen;omega) (by have:=f.size;omega) ?_))
 intro x y B o s C
 have t:=o.cast (m':=n) (ys:=xs) (by omega) (by simp)
 refine Yy 1 Z Z Z ?_
 exact⟨_,_,(by rw[show 0+n=n by omega]),(t.mono d.size),(i.ja s (fun q hq=>Nat.le_trans d.size (j.row hq).1))⟩
theorem Ug {g:Nat}{l:SM}(w:World)(hM:jk w uu mJ g l ck):Calls prog 46 #[.map (some g)] w fun r w'=>∃g',r= .returned (.map (some g'))/\w.heap.size<=g'/\jk w' uu mJ g' l ck/\Le w w':=by
 refine En func46 Z ?_
 have c:=Le.refl w
 refine Rn 1 Z (Sq (Rr 1 Z (Wa (.dec (.ado underlying126 Z) Z) Z (Nx (Cf Z (Sn (Rr 1 Z (Wa (.afa underlying126 Z Z) Z (W.ef Z Z Z ?_)))))))))
 refine Ef.adp func94 Z Z (by kernel_rfl) (by kernel_rfl) Z (hM.le c) ?_
 intro i j d e f
 refine Wr (.aar underlying126 Z) Z (Yy 1 Z Z Z ?_)
 exact⟨_,rfl,(by have:=d;have:=c.size;omega),e,(c.trans f)⟩
theorem J3 {gh cs:Nat}{own:List Int}(party:Int)(w:World)(hL:mr w gp gs gh A c cs ck own ls lh lost)(hb:∀x∈lh,0<=x.2.2.am)(hw:∀x∈ls,0<=x.2.2.h0/\0<=x.2.2.h1)(ho:0<=uN own party)(ht:mG own ls lh party<=4611686018427387904):Calls prog 14 #[.pointer (some ⟨gp,0,none⟩),J (party)] w fun r w'=>r= .returned (J (mG own ls lh party))/\Le w w':=by
 have hnn:=Ud (party:=party) hb hw
 refine En func14 Z ?_
 have X:=Le.refl w
 refine Rn 1 Z (Rr 2 Z (Yc Z (RU party w (hL.le X)) fun au y=>?_))
 have B:=X.trans y
 refine Yx 1 Z (Sq (Rr 3 Z (Yk (.map (some gs)) Z (hL.hp.le B) Z (W.ef Z Z Z (Ef.WH underlying126 Z (hL.hS.le B) ?_)))))
 intro C ai aj ak Y
 have H:=B.trans Y
 refine Nx (Bk (WC.loop (ι:=(Array Nat)) (fun seen=>[(0,.pointer (some ⟨gp,0,none⟩)),(1,J party),(5,J (mG own ls lh party-j6 (l8 lh party) (wh ls seen))),(17,.pointer (some ⟨C,0,none⟩))]) (fun seen m=>Le w m/\ai.heap.size<=m.heap.size/\jk m uu mJ gs ls cs/\jk m Ff pY gh lh ck/\Jl m C gs cs seen) (fun seen=>(wh ls seen).length) (#[]) ?_ ?_ ?_))
 ·exact .cons Z (.cons Z (.cons' Z (int_eq (by rw[NJ];unfold mG;omega)) (.cons Z (.nil _))))
 ·exact⟨H,Nat.le_refl _,(hL.hS.le H),(hL.hH.le H),ak⟩
 rintro seen m ⟨aa,al,I,ac,an⟩
 refine Sr (W.ef Z Z Z (Ef.ach Z I an ?_ ?_))
 ·intro ao
  refine Yx 1 Z (Sq (Cf Z (Ex (Ry 2 Z Z Z ?_))))
  exact⟨congrArg (fun b=>Ending.returned (Value.int .i64 b)) (by rw[ao,MF];omega),aa⟩
 intro d av K L o
 have L3:=aa.tb o B aj
 have N:=JV I.2 K
 have ap:=N.length_eq
 rw[List.length_cons]at ap
 have hsq:=hw _ (HZ K)
 have hsu:=CF (f:=l8 lh party) (seen:=seen.push d.1) hnn
 have hsp:=uJ (f:=l8 lh party) N
 rw[jb]at hsp
 have aw:=CF (f:=l8 lh party) (seen:=seen) hnn
 refine Yx 1 Z (Sq (Ct Z (Sn (Bk (Sr ?_)))))
 have _:=y.size
 have O:=(I.cn o (by have:=hL.hS.lt;omega))
 refine W.ef Z Z Z (Ef.WI (e:=d) Z O L (HZ K) (Yn 1 Z (Wa (.extract (v:= .agg (iV d.2.2).toArray) Z Z) Z (Yz Z z52 ?_))))
 intro D aq ar P t
 have P:ik aq D 52 (iV iB).toArray:=P
 refine Yn 1 Z (Yw Z P (iI.one d.2.2) ?_)
 intro ad F u
 have F:ik ad D 52 (iV d.2.2).toArray:=F
 refine Nx (Rr 1 Z (Yb [J d.2.2.p0,J (d.2.2.p1)] Z F Z (Yx 1 Z (Bk ?_))))
 refine WC.loop (ι:=Nat) (fun k=>[(0,.pointer (some ⟨gp,0,none⟩)),(1,J party),(5,J (mG own ls lh party-j6 (l8 lh party) (wh ls seen)+uh lh party d.2.1 d.2.2 k)),(6,J d.2.1),(7,.pointer (some ⟨D,0,none⟩)),(17,.pointer (some ⟨C,0,none⟩)),(24,.agg #[J d.2.2.p0,J (d.2.2.p1)]),(25,J (k:Int))]) (fun k i=>(k<=2)/\Le w i/\ad.heap.size<=i.heap.size/\jk i uu mJ gs ls cs/\jk i Ff pY gh lh ck/\ik i D 52 (iV d.2.2).toArray/\Jl i C gs cs (seen.push d.1)) (fun k=>2-k) 0 ?_ ?_ ?_
 ·exact .cons Z (.cons Z (.cons' Z (int_eq (by rw[Xz];omega)) (.of Z)))
 ·exact⟨Nat.zero_le _,((L3.trans t).tb u L3 ar),Nat.le_refl _,((O.le t).cn u (by have:=O.lt;omega)),(((ac.cn o (by have:=hL.hH.lt;omega)).le t).cn u (by have:=ac.lt;have:=o.size;omega)),F,((L.le t).cn u (by have:=L.lt;omega))⟩
 rintro k i ⟨hk,Q,R,S,U,ae,V⟩
 have hkl:=J2 (lh:=lh) (party:=party) (ch:=d.2.1) (s:=d.2.2) k hb hsq.1 hsq.2
 have ax:=J2 (lh:=lh) (party:=party) (ch:=d.2.1) (s:=d.2.2) (k+1) hb hsq.1 hsq.2
 refine Rn 1 Z (Sq ?_)
 by_cases c1:(k:Int)<2
 ·refine Cy Z (dT c1) (Nb (Rr 1 Z (Wa (.xQ (v:= J (d.2.2.p k)) k underlying35 nC yH Z Z Z (by omega) (zf d.2.2 (by omega))) Z (Yx 2 Z (Rn 3 Z ?_)))))
  by_cases j:(d.2.2.p k)=party
  ·refine Cy Z (dT j) ?_
   have hhn:0<=jA lh d.2.1 (k:Int):=lM (uY hb)
   have hhk:=Ue k hsq.1 hsq.2
   have hst:=zh (lh:=lh) (party:=party) (ch:=d.2.1) (s:=d.2.2) (k:=k) (by omega)
   rw[if_pos j]at hst
   have hwl:mG own ls lh party=uN own party+j6 (l8 lh party) ls:=Z
   refine WC.draw [0,1,2,3,4,5,6,7,8,9,10,11] mixed (by kernel_rfl) fun w9 n=>?_
   have af:=Q.trans n
   refine Xn 3 Z (Xi k Z ?_)
   have ah:=(ae.le n)
   refine Xk (J (d.2.2.h k)) Z ah (nX d.2.2 (by omega)) (Xn 3 Z (Xc Z (CG d.2.1 (k:Int) w9 (hL.le af) hb (by omega)) fun ay l=>Xp Z (Xp Z (Xn 1 Z (G.nil (Lp 1 Z Z (E.again (k+1) (.cons Z (.cons Z (.cons' Z (int_eq (by rw[zh (by omega)];first|(rw[if_pos j];omega)|(rw[if_neg j];omega))) (.of Z)))) ?_ ?_)))))))
   ·exact⟨by omega,(af.trans l),by have:=R;have:=n.size;have:=l.size;omega,(S.le (n.trans l)),(U.le (n.trans l)),(ah.le l),(V.le (n.trans l))⟩
   first|omega|(simp only[];omega)
  refine Cn Z (dF j) (WC.skip (Lp 1 Z Z (E.again (k+1) (.cons Z (.cons Z (.cons' Z (int_eq (by rw[zh (by omega)];first|(rw[if_pos j];omega)|(rw[if_neg j];omega))) (.of Z)))) ?_ ?_)))
  ·exact⟨by omega,Q,by have:=R;omega,S,U,ae,V⟩
  first|omega|(simp only[];omega)
 refine Cn Z (dF c1) (WC.exit (E.jW (E.jW (E.rQ (E.jD (E.again (seen.push d.1) (.cons Z (.cons Z (.cons' Z (int_eq (by have h9:=uJ (f:=l8 lh party) N;rw[jb]at h9;have:k=2:=(by omega);subst this;rw[XA];omega)) (.cons Z (.nil _))))) ?_ ?_))))))
 ·exact⟨Q,by have:=al;have:=R;have:=Y.size;have:=o.size;have:=t.size;have:=u.size;omega,S,U,V⟩
 first|omega|(simp only[];omega)
theorem jY {n:Int}:og n=true↔0<=n/\n<=1125899906842624:=by simp[og]
theorem RV {gh cs:Nat}{own:List Int}(s:Seat)(w:World)(hL:mr w gp gs gh A c cs ck own ls lh lost):Calls prog 33 #[.pointer (some ⟨gp,0,none⟩),.agg (iV s).toArray] w fun r w'=>∃b:Bool,r= .returned (.bool b)/\(b=true↔yM own.length s)/\Le w w':=by
 refine En func33 Z (Sr (Yv Z fun m o N (t:ik o m 52 (iV s).toArray) H=>?_))
 have n:=(Le.refl w).trans H
 refine Yx 1 Z (Sq (Rr 1 Z (Yb [J s.p0,J (s.p1)] Z t Z (Yx 1 Z (Bk (WC.loop (ι:=Nat) (fun k=>[(0,.pointer (some ⟨gp,0,none⟩)),(3,.pointer (some ⟨m,0,none⟩)),(8,.agg #[J s.p0,J (s.p1)]),(9,J (k:Int))]) (fun k d=>(k<=2)/\(∀i,i<k->0<=s.p i/\s.p i<own.length/\0<=s.h i/\s.h i<=1125899906842624)/\Le w d/\o.heap.size<=d.heap.size/\jk d uu mJ gs ls cs/\jk d Ff pY gh lh ck/\ik d m 52 (iV s).toArray) (fun k=>2-k) 0 ?_ ?_ ?_))))))
 ·exact .of Z
 ·exact⟨Nat.zero_le _,fun i hi=>by omega,n,Nat.le_refl _,(hL.hS.le n),(hL.hH.le n),t⟩
 rintro k d ⟨hk,hall,e,I,K,L,f⟩
 refine Rn 1 Z (Sq ?_)
 by_cases u:(k:Int)<2
 ·refine Cy Z (dT u) (Nb (Rr 1 Z (Wa (.xQ (v:= J (s.p k)) k underlying35 nC yH Z Z Z (by omega) (zf s (by omega))) Z (Yx 2 Z (Rr 2 Z ?_)))))
  by_cases x:(s.p k)<0
  ·refine Dt x Z Z (Yx 16 Z (Ct Z (Rn 1 Z (Rt (E.jc (E.il (E.il (E.jc (E.il ?_)))))))))
   refine E.iC Z Z ?_
   exact⟨false,rfl,⟨fun h=>(by cases h),fun h=>by have hh:=(wJ.1 h).1 k (by omega);(try simp only[jY]at*);omega⟩,e⟩
  refine Df x Z Z (Yn 4 Z (Yk (.slice A own.length c) Z (hL.hp.le e) Z (Yn 3 Z ?_)))
  by_cases y:(own.length:Int)<=(s.p k)
  ·refine Dt y Z Z (Yx 7 Z (Ct Z (Rn 1 Z (Rt (E.jc (E.il (E.il (E.jc (E.il ?_)))))))))
   refine E.iC Z Z ?_
   exact⟨false,rfl,⟨fun h=>(by cases h),fun h=>by have hh:=(wJ.1 h).1 k (by omega);(try simp only[jY]at*);omega⟩,e⟩
  refine Df y Z Z (Yn 2 Z (Yi k Z (Yk (J (s.h k)) Z f (nX s (by omega)) (Yc Z (tF (s.h k) d) fun O j=>?_))))
  have B:=e.trans j
  refine Yx 2 Z ?_
  by_cases C:(og (s.h k))=true
  ·refine Cn Z (congrArg not C) (WC.skip (Lp 1 Z Z (E.again (k+1) (.of Z) ?_ ?_)))
   ·exact⟨by omega,fun i hi=>(Nat.lt_succ_iff_lt_or_eq.1 hi).elim (hall i) (fun hh=>by subst hh;(try simp only[jY]at*);omega),B,by have:=I;have:=j.size;omega,(K.le j),(L.le j),(f.le j)⟩
   first|omega|(simp only[];omega)
  refine Cy Z (congrArg not (Bool.eq_false_iff.2 C)) (Rn 1 Z (Rt (E.jc (E.il (E.il (E.jc (E.il (E.iC Z Z ?_))))))))
  exact⟨false,rfl,⟨fun h=>(by cases h),fun h=>by have hh:=(wJ.1 h).1 k (by omega);(try simp only[jY]at*);omega⟩,B⟩
 refine Cn Z (dF u) (Ex (Rr 1 Z (Yk (J s.ch) Z f Z (Yn 1 Z ?_))))
 by_cases D:0<=s.ch
 ·refine Dt D Z Z (Yn 1 Z (Yk (J s.ch) Z f Z (Yn 2 Z ?_)))
  by_cases F:s.ch<40
  ·refine Dt F Z Z (Yn 1 Z (Yi 0 Z (Yk (J s.p0) Z f Z (Yn 1 Z (Yi 1 Z (Yk (J s.p1) Z f Z (Yy 3 Z Z Z ?_)))))))
   refine⟨_,rfl,?_,e⟩;rw[wJ];have l:∀i,i<2->0<=s.p i/\s.p i<own.length/\0<=s.h i/\s.h i<=1125899906842624:=(fun i hi=>hall i (by omega));simp only[decide_eq_true_eq,Bool.false_eq_true,false_iff];first|exact⟨fun h=>⟨l,by omega,by omega,h⟩,fun h=>h.2.2.2⟩|exact fun h=>by omega
  refine Df F Z Z (Yy 9 Z Z Z ?_)
  refine⟨_,rfl,?_,e⟩;rw[wJ];have l:∀i,i<2->0<=s.p i/\s.p i<own.length/\0<=s.h i/\s.h i<=1125899906842624:=(fun i hi=>hall i (by omega));simp only[decide_eq_true_eq,Bool.false_eq_true,false_iff];first|exact⟨fun h=>⟨l,by omega,by omega,h⟩,fun h=>h.2.2.2⟩|exact fun h=>by omega
 refine Df D Z Z (Yy 14 Z Z Z ?_)
 refine⟨_,rfl,?_,e⟩;rw[wJ];have l:∀i,i<2->0<=s.p i/\s.p i<own.length/\0<=s.h i/\s.h i<=1125899906842624:=(fun i hi=>hall i (by omega));simp only[decide_eq_true_eq,Bool.false_eq_true,false_iff];first|exact⟨fun h=>⟨l,by omega,by omega,h⟩,fun h=>h.2.2.2⟩|exact fun h=>by omega
theorem Lu {gh:Nat}{own:List Int}(s:Seat)(j:Nat)(amount fee:Int)(w:World)(hp0:ik w gp 129 #[.slice A n c,.map (some gs),.map (some gh),J (lost)])(hO0:iy w 0 3 iv 1 A n c own)(n4:rowOf A c≠some gp)(hj:j<2)(hp:0<=s.p j/\s.p j<n)(h1: -2251799813685248<=amount/\amount<=2251799813685248)(h2:0<=fee/\fee<=1125899906842624)(h3: -2251799813685248<=own.getD (s.p j).toNat 0/\own.getD (s.p j).toNat 0<=2251799813685248)(h4:0<=lost/\lost<=2251799813685248):Calls prog 35 #[.pointer (some ⟨gp,0,none⟩),.agg (iV s).toArray,J (j:Int),J amount,J (fee)] w fun r w'=>r= .returned (.tuple #[])/\ik w' gp 129 #[.slice A n c,.map (some gs),.map (some gh),J (lost+fee)]/\iy w' 0 3 iv 1 A n c (own.set (s.p j).toNat (own.getD (s.p j).toNat 0-(amount+fee)))/\iX w w' (fun k=>k=gp\/rowOf A c=some k):=by
 have hon:=hO0.1
 refine En func35 Z (Sr (Yv Z fun B C O (D:ik C B 52 (iV s).toArray) e=>Nx (Sq (WC.draw [0,1,2,3,4,5,6,7,8,9,10,11,12,13,14,15] mixed (by kernel_rfl) fun P d=>?_))))
 have F:=((iX.refl w (fun k=>k=gp\/rowOf A c=some k)).le e).le d
 refine Xn 3 Z ?_
 have l:=(hp0.le (e.trans d))
 refine Xk (.slice A n c) Z l Z (Xn 2 Z (Xi j Z (Xk (J (s.p j)) Z (D.le d) (N9 s (by omega)) (Xs ((s.p j).toNat) Z (hO0.vec.isSome iQ (by omega)) ?_))))
 have m:=(hO0.le (e.trans d))
 refine Gd Z (.o9 (v:= J (own.getD ((s.p j).toNat) 0)) yH Z m.vec iQ (jN own 0 (by omega)) Z) (Xn 2 Z (Xp Z (Xp Z (Xs ((s.p j).toNat) Z (hO0.vec.isSome iQ (by omega)) (G.jR Z Z Z Z (Ef.Tv (j:=(s.p j).toNat) (o:=0) ((own.getD ((s.p j).toNat) 0)-(amount+fee)) nC Z (by omega) Z m iQ (jN own 0 (by omega)) (by decide) Z Z fun H I t=>noT (by kernel_rfl) ?_))))))
 have K:iX w H (fun k=>k=gp\/rowOf A c=some k):=F.ch t (fun i hi _=>(fun i hi=>Or.inr hi) i hi)
 refine Gx (Rg (Yn 3 Z ?_))
 have u:=(l.ch t n4)
 refine Yk (J lost) Z u Z (Yn 1 Z (Yp Z (Yn 2 Z (W.jR Z Z (Ef.store nC Z Z u (by first|decide|(simp;done)) Z ?_)))))
 intro x f y
 have f:ik x gp 129 #[.slice A n c,.map (some gs),.map (some gh),J (lost+fee)]:=f
 have L:iX w x (fun k=>k=gp\/rowOf A c=some k):=K.ch y (fun i hi _=>by cases hi;exact Or.inl Z)
 refine W.nil (E.end_ ?_)
 have N:=(I.ch y (fun q hq=>by cases hq;exact n4))
 refine E.Pt Z ?_
 exact⟨rfl,f,N,L⟩
theorem XB {gh cs:Nat}{own:List Int}(s:Seat)(fee:Int)(w:World)(hL:mr w gp gs gh A c cs ck own ls lh lost)(hw:∀i,0<=own.getD i 0/\own.getD i 0<=1125899906842624)(hl:0<=lost/\lost<=1125899906842624):Calls prog 8 #[.pointer (some ⟨gp,0,none⟩),.agg (iV s).toArray,J (fee)] w fun r w'=>iX w w' (LF gp gs gh A c)/\((¬(yM own.length s/\0<=fee/\fee<=1125899906842624)/\r= .returned (J 1)/\mr w' gp gs gh A c cs ck own ls lh lost)\/((yM own.length s/\0<=fee/\fee<=1125899906842624)/\(∃t,iO s.ch ls=some t)/\r= .returned (J 4)/\mr w' gp gs gh A c cs ck own ls lh lost)\/((yM own.length s/\0<=fee/\fee<=1125899906842624)/\iO s.ch ls=none/\(own.getD s.p0.toNat 0<s.h0+fee\/own.getD s.p1.toNat 0<s.h1)/\r= .returned (J 8)/\mr w' gp gs gh A c cs ck own ls lh lost)\/((yM own.length s/\0<=fee/\fee<=1125899906842624)/\iO s.ch ls=none/\¬(own.getD s.p0.toNat 0<s.h0+fee\/own.getD s.p1.toNat 0<s.h1)/\r= .returned (J 0)/\mr w' gp gs gh A c (cs+1) ck (rf (rf own s 0 s.h0 fee) s 1 s.h1 0) (ls++[(cs,s.ch,s)]) lh (lost+fee))):=by
 have Q:=hL.hp
 have y:=hL.hO
 have R:=hL.hS
 have K:=hL.hH
 have o:=hL.ps
 have B:=hL.ph
 have H:=hL.sh
 have C:=hL.op
 have x:=hL.os
 have D:=hL.oh
 have aI:=hw s.p0.toNat
 have aJ:=hw s.p1.toNat
 have aK:s.p 0=s.p0:=Z
 have aL:s.p 1=s.p1:=Z
 refine En func8 Z (Sr (Yv Z fun af ah aM (ai:ik ah af 52 (iV s).toArray) d=>Yx 1 Z (Sq (Rr 1 Z (Yh Z ai (Yd Z (RV s ah (hL.le d)) ?_))))))
 rintro _ ap ⟨aq,rfl,Y,e⟩
 have L3:=((iX.refl w (LF gp gs gh A c)).le d).le e
 refine Yn 1 Z ?_
 by_cases aa:aq=true
 ·refine Yq 1 Z (congrArg not aa) (Yn 1 Z (Yc Z (tF fee ap) fun aN f=>?_))
  have L4:=L3.le f
  refine Yx 2 Z ?_
  by_cases c0:(og fee)=true
  ·refine Cn Z (congrArg not c0) ?_
   have hok:yM own.length s/\0<=fee/\fee<=1125899906842624:=⟨Y.1 aa,jY.1 c0⟩
   have hm:=hok.1
   unfold yM at hm
   refine Sn (Sq (Sq (WC.draw [0,1,2,3,4,5,6,7,8,9,10,11,12] mixed (by kernel_rfl) fun w3 l=>?_)))
   have L5:=L4.le l
   refine Xn 3 Z ?_
   have f6:=(Q.le (d.trans (e.trans (f.trans l))))
   refine Xk (.map (some gs)) Z f6 Z (Xn 1 Z ?_)
   have f7:=(ai.le (e.trans (f.trans l)))
   refine Xk (J s.ch) Z f7 Z ?_
   rcases optG (iO s.ch ls)with F|⟨ac,F⟩
   ·have S:=(R.le (d.trans (e.trans (f.trans l))))
    refine Gd Z (.as (.mV (key:=s.ch) underlying126 qG z52 Z Z S) (by rw[F]<;>rfl)) (Xn 1 Z (Ga Z (.extract (v:= .agg (iV iB).toArray) Z Z) (Xn 1 Z (G.ab Z Z Z z52 wu (iI.one iB) fun aO aP aQ aR m=>Xx 1 Z (Rn 1 Z (Cf Z (Sn (Sq ?_))))))))
    refine Sq (WC.draw [0,1,2,3,4,5,6,7,8,9,10,11,12,13,14,15,16,17,18,19,20,21,22,23,24,25,26,27,28,29] mixed (by kernel_rfl) ?_)
    intro w6 n
    have ad:=(L5.le m).le n
    refine Xn 3 Z ?_
    have N:=(f6.le (m.trans n))
    refine Xk (.slice A own.length c) Z N Z (Xn 1 Z (Xi 0 Z ?_))
    have I:=(f7.le (m.trans n))
    refine Xk (J s.p0) Z I Z (Xs ((s.p0).toNat) Z (y.vec.isSome iQ (by omega)) ?_)
    have O:=(y.le (d.trans (e.trans (f.trans (l.trans (m.trans n))))))
    refine Gd Z (.o9 (v:= J (own.getD ((s.p0).toNat) 0)) yH Z O.vec iQ (jN own 0 (by omega)) Z) (Xn 1 Z (Xi 0 Z (Xk (J s.h0) Z I Z (Xn 1 Z (Xp Z (Xn 1 Z ?_))))))
    by_cases aj:(own.getD ((s.p0).toNat) 0)<(s.h0+fee)
    ·refine Xq 1 Z (dT aj) (Xx 14 Z (Ct Z (Rn 1 Z (Rt (E.il (E.iC Z Z ?_))))))
     exact⟨ad,.inr (.inr (.inl ⟨hok,F,(by omega),rfl,⟨N,O,(S.le (m.trans n)),(K.le (d.trans (e.trans (f.trans (l.trans (m.trans n)))))),o,B,H,C,x,D⟩⟩))⟩
    refine Xq 1 Z (dF aj) (Xn 3 Z (Xk (.slice A own.length c) Z N Z (Xn 1 Z (Xi 1 Z (Xk (J s.p1) Z I Z (Xs ((s.p1).toNat) Z (y.vec.isSome iQ (by omega)) (Gdg Z (.o9 (v:= J (own.getD ((s.p1).toNat) 0)) yH Z O.vec iQ (jN own 0 (by omega)) Z) (Xn 1 Z (Xi 1 Z ?_)))))))))
    refine Xk (J s.h1) Z I Z (Xx 2 Z ?_)
    by_cases c2:(own.getD ((s.p1).toNat) 0)<s.h1
    ·refine Cy Z (dT c2) (Rn 1 Z (Rt (E.il (E.iC Z Z ?_))))
     exact⟨ad,.inr (.inr (.inl ⟨hok,F,(by omega),rfl,⟨N,O,(S.le (m.trans n)),(K.le (d.trans (e.trans (f.trans (l.trans (m.trans n)))))),o,B,H,C,x,D⟩⟩))⟩
    refine Cn Z (dF c2) (Sn (Rr 1 Z (Yh Z I (Yn 1 Z (Yi 0 Z (Yk (J s.h0) Z I Z (Yn 1 Z (Yd Z (Lu (own:=own) (lost:=lost) s 0 s.h0 fee w6 N O C (by decide) (by omega) (by omega) (by omega) (by have:=hw (s.p 0).toNat;omega) (by omega)) ?_))))))))
    rintro _ ar ⟨rfl,au,av,U⟩
    have aw:=ad.sub U (fun i hi hlt=>Or.elim hi (fun hi=>(by subst hi;exact Or.inl Z)) (fun hi=>((fun i hi=>Or.inr (Or.inr (Or.inr hi))) i hi)))
    refine Nx (Rr 1 Z ?_)
    have ak:af≠gp:=by have:=Q.lt;omega
    have ae:=(I.ji U (fun hF=>Or.elim hF (fun hF=>ak hF) (fun hF=>(y.rn (by omega)) hF)))
    refine Yh Z ae (Yn 1 Z (Yi 1 Z (Yk (J s.h1) Z ae Z (Yd Z (Lu (own:=(own.set (s.p 0).toNat (own.getD (s.p 0).toNat 0-(s.h0+fee)))) (lost:=(lost+fee)) s 1 s.h1 0 ar au av C (by decide) (by omega) (by omega) (by omega) (by have e9:=GA (own:=own) (s:=s) (j:=0) (k:=1) (am:=s.h0) (fee:=fee) (by omega) (by omega) (by omega);unfold rf at e9;rw[e9];have:=hw (s.p 1).toNat;omega) (by omega)) ?_))))
    rintro _ aS ⟨rfl,ax,ay,V⟩
    have az:=aw.sub V (fun i hi hlt=>Or.elim hi (fun hi=>(by subst hi;exact Or.inl Z)) (fun hi=>((fun i hi=>Or.inr (Or.inr (Or.inr hi))) i hi)))
    refine Nx (Sq (WC.draw [0,1,2,3,4,5,6,7] mixed (by kernel_rfl) fun aT L=>?_))
    have aA:=az.le L
    refine Xn 3 Z ?_
    have al:=(ax.le L)
    refine Xk (.map (some gs)) Z al Z (Xn 1 Z ?_)
    have an:=((ae.ji V (fun hF=>Or.elim hF (fun hF=>ak hF) (fun hF=>(y.rn (by omega)) hF))).le L)
    refine Xk (J s.ch) Z an Z (Xh Z an (G.jR Z Z Z Z (Ef.Cb (key:=s.ch) (u:=s) underlying126 qG Z Z Z ((((S.le (m.trans n)).ji U (fun hF=>Or.elim hF (fun hF=>(Ne.symm o) hF) (fun hF=>x hF))).ji V (fun hF=>Or.elim hF (fun hF=>(Ne.symm o) hF) (fun hF=>x hF))).le L) F fun aB aC X=>noT (by kernel_rfl) ?_)))
    have aD:iX w aB (LF gp gs gh A c):=aA.ch X (fun i hi _=>by cases hi;exact Or.inr (Or.inl Z))
    refine Gx (Rn 1 Z (Rt ?_))
    have aE:=((ay.le L).ch X (fun q hq=>by cases hq;exact x))
    have aF:=(al.ch X (fun h=>(Ne.symm o) (oI h)))
    refine E.iC Z Z ?_
    exact⟨aD,.inr (.inr (.inr ⟨hok,F,(by omega),rfl,⟨(by rw[rq,rq];have hh:=aF;rw[Int.add_zero]at hh;exact hh),(by rw[rq,rq];exact aE),aC,(((((K.le (d.trans (e.trans (f.trans (l.trans (m.trans n)))))).ji U (fun hF=>Or.elim hF (fun hF=>(Ne.symm B) hF) (fun hF=>D hF))).ji V (fun hF=>Or.elim hF (fun hF=>(Ne.symm B) hF) (fun hF=>D hF))).le L).ch X (fun h=>H (oI h))),o,B,H,C,x,D⟩⟩))⟩
   have ao:=(R.le (d.trans (e.trans (f.trans l))))
   refine Gd Z (.as (.mV (key:=s.ch) underlying126 qG z52 Z Z ao) (by rw[F]<;>rfl)) (Xn 1 Z (Ga Z (.extract (v:= .agg (iV ac).toArray) Z Z) (Xn 1 Z (G.ab Z Z Z z52 wu (iI.one ac) fun aG aH aU (aV:ik aH aG 52 (iV ac).toArray) P=>Xx 1 Z (Rn 1 Z (Ct Z (Rn 1 Z (Rt ?_))))))))
   refine E.il (E.iC Z Z ?_)
   exact⟨(L5.le P),.inr (.inl ⟨hok,⟨_,F⟩,rfl,⟨(f6.le P),(y.le (d.trans (e.trans (f.trans (l.trans P))))),(ao.le P),(K.le (d.trans (e.trans (f.trans (l.trans P))))),o,B,H,C,x,D⟩⟩)⟩
  refine Cy Z (congrArg not (Bool.eq_false_iff.2 c0)) (Rn 1 Z (Rt (E.il (E.iC Z Z ?_))))
  exact⟨L4,.inl ⟨(fun h=>by first|(exact absurd (Y.2 h.1) (by assumption))|(exact absurd (jY.2 h.2) (by assumption))),rfl,⟨(Q.le (d.trans (e.trans f))),(y.le (d.trans (e.trans f))),(R.le (d.trans (e.trans f))),(K.le (d.trans (e.trans f))),o,B,H,C,x,D⟩⟩⟩
 refine Yq 1 Z (congrArg not (Bool.eq_false_iff.2 aa)) (Yx 4 Z (Ct Z (Rn 1 Z (Rt (E.il (E.iC Z Z ?_))))))
 exact⟨L3,.inl ⟨(fun h=>by first|(exact absurd (Y.2 h.1) (by assumption))|(exact absurd (jY.2 h.2) (by assumption))),rfl,⟨(Q.le (d.trans e)),(y.le (d.trans e)),(R.le (d.trans e)),(K.le (d.trans e)),o,B,H,C,x,D⟩⟩⟩
theorem Ig {x:Int}(w:World):(Instr.keyThatStays (uu x) (uu x)).run prog w= .ok (uu x) w:=by
 have h:Instr.sameBits 10000 (J x) (J x)=true:=by simp[Instr.sameBits]
 unfold uu
 simp[Instr.keyThatStays,h]
theorem Oc {gh cs:Nat}{own:List Int}(ch:Int)(w:World)(hL:mr w gp gs gh A c cs ck own ls lh lost)(hb:∀x∈lh,0<=x.2.2.am)(ht0:jA lh ch 0<=1125899906842624)(ht1:jA lh ch 1<=1125899906842624):Calls prog 45 #[.pointer (some ⟨gp,0,none⟩),J (ch)] w fun r w'=>r= .returned (.bool (decide (jA lh ch 0+jA lh ch 1=0)))/\Le w w':=by
 have k:0<=jA lh ch 0:=lM (uY hb)
 have e1:0<=jA lh ch 1:=lM (uY hb)
 refine En func45 Z ?_
 have d:=Le.refl w
 refine Rn 1 Z (Rr 2 Z (Yc Z (CG ch 0 w (hL.le d) hb (by omega)) fun f i=>?_))
 have e:=d.trans i
 refine Yn 2 Z (Yc Z (CG ch 1 f (hL.le e) hb (by omega)) fun l j=>Yp Z (Yy 2 Z Z Z ?_))
 exact⟨rfl,(e.trans j)⟩
theorem Uh {gh cs:Nat}{own:List Int}(ch side id am:Int)(pt:Nat){s:Seat}(w:World)(hL:mr w gp gs gh A c cs ck own ls lh lost)(hpt:pt<18446744073709551616)(hw:∀x∈ls,∀i,0<=x.2.2.h i/\x.2.2.h i<=1125899906842624)(hok:zL side id am pt)(hs:iO ch ls=some s)(hn:iO (⟨ch,side,id⟩:kI) lh=none)(hfu:¬s.h side.toNat<am):Calls prog 10 #[.pointer (some ⟨gp,0,none⟩),J ch,J side,J id,J am,.int .u64 (pt:Int)] w fun r w'=>iX w w' (LF gp gs gh A c)/\r= .returned (J 0)/\mr w' gp gs gh A c cs (ck+1) own (oJ ch (s.setH side.toNat (s.h side.toNat-am)) ls) (lh++[(ck,(⟨ch,side,id⟩:kI),⟨am,pt⟩)]) lost:=by
 have aE:=hL.hp
 have X:=hL.hO
 have aF:=hL.hS
 have L:=hL.hH
 have O:=hL.ps
 have P:=hL.ph
 have F:=hL.sh
 have n4:=hL.op
 have Q:=hL.os
 have R:=hL.oh
 have aG:=hok
 obtain⟨o1,o2,o3,o4,o5⟩:=aG
 obtain⟨bh,Vt⟩:=pU hs
 have hsw:0<=s.h side.toNat/\s.h side.toNat<=1125899906842624:=hw _ Vt side.toNat
 refine En func10 Z (Rn 1 Z (Sq (Sr (Yf 2 Z (Yf 3 Z (Yf 4 Z (Yf 4 Z (Yn 3 Z (Yc Z (by have q:=tF am w;rw[show og am=true from jY.2 ⟨by omega,hok.2.2.1.2⟩]at q;exact q) fun aH e=>?_)))))))))
 refine Yf 5 Z (Yn 3 Z (Yc Z (by have q:=lC pt hpt aH;rw[hok.2.2.2.2]at q;exact q) fun a0 f=>?_))
 have Y:=((iX.refl w (LF gp gs gh A c)).le e).le f
 refine Yx 2 Z (Cf Z (Sn (Rr 3 Z ?_)))
 have S:=(aE.le (e.trans f))
 refine Yk (.map (some gs)) Z S Z (Yn 1 Z ?_)
 rcases optG (iO ch ls)with n|⟨d,n⟩
 ·rw[hs]at n;cases n
 obtain rfl:d=s:=oI (n.symm.trans hs)
 have H:=(aF.le (e.trans f))
 refine Wr (.as (.mV (key:=ch) underlying126 qG z52 Z Z H) (by rw[n]<;>rfl)) Z (Yn 1 Z (Wa (.extract (v:= .agg (iV d).toArray) Z Z) Z (Yn 1 Z (W.ab Z z52 wu (iI.one d) fun I aI aJ (aa:ik aI I 52 (iV d).toArray) j=>Yx 1 Z (Sq (Rn 2 Z (Cf Z (Sn ?_))))))))
 refine Rr 3 Z (Wa (.iF (mf (⟨ch,side,id⟩:kI)) WV P6 Z Z) Z (W.ab Z P6 Rv (xR.one (⟨ch,side,id⟩:kI)) fun N aK a1 (aL:ik aK N 142 (mf (⟨ch,side,id⟩:kI)).toArray) o=>Nx (Sq (Sq (WC.draw [0,1,2,3,4,5,6,7,8,9,10,11] mixed (by kernel_rfl) fun w7 k=>Xn 3 Z ?_)))))
 have f8:=(S.le (j.trans (o.trans k)))
 refine Xk (.map (some gh)) Z f8 Z ?_
 have f9:=(aL.le k)
 refine Xh Z f9 ?_
 rcases optG (iO (⟨ch,side,id⟩:kI) lh)with K|⟨a2,K⟩
 ·have ac:=(L.le (e.trans (f.trans (j.trans (o.trans k)))))
  refine Gd Z (.as (.mV (key:=(⟨ch,side,id⟩:kI)) underlying127 zg Cu Z Z ac) (by rw[K]<;>rfl)) (Xn 1 Z (Ga Z (.extract (v:= .agg (vL xF).toArray) Z Z) (Xn 1 Z (G.ab Z Z Z Cu NP (uL.one xF) fun a3 a4 a5 a6 l=>?_))))
  have aM:=(((Y.le j).le o).le k).le l
  refine Xx 1 Z (Rn 1 Z (Cf Z (Sn (Sq (Rr 2 Z (Yi ((side).toNat) Z ?_))))))
  have U:=(aa.le (o.trans (k.trans l)))
  refine Yk (J (d.h ((side).toNat))) Z U (nX d (by omega)) (Yx 2 Z (Cn Z (dF hfu) (Sn (Rr 2 Z (Yi ((side).toNat) Z (Yk (J (d.h ((side).toNat))) Z U (nX d (by omega)) (Yn 1 Z (Yp Z (Yn 1 Z ?_)))))))))
  refine Yi ((side).toNat) Z (W.jR Z Z ?_)
  refine Ef.store nC Z Z U (by simp[iI.len,-List.getD_eq_getElem?_getD];omega) Z ?_
  intro ad V t
  have V:ik ad I 52 (iV (d.setH ((side).toNat) ((d.h ((side).toNat))-am))).toArray:=V.cast (xf d ((d.h ((side).toNat))-am) (by omega))
  have aN:iX w ad (LF gp gs gh A c):=aM.ch t (fun i hi hlt=>by cases hi;exact absurd hlt (by have:=Y.size;have:=aJ;omega))
  refine Nx (Sq (WC.Q0 (fun aO w'=>iX w w' (LF gp gs gh A c)/\ik w' gp 129 #[.slice A own.length c,.map (some gs),.map (some gh),J (lost)]/\ik w' N 142 (mf (⟨ch,side,id⟩:kI)).toArray/\ik w' I 52 (iV (d.setH ((side).toNat) ((d.h ((side).toNat))-am))).toArray) [0,1,2,3,4,5,6,7,8,9,10,11,12,13,14,15,16,17,18,19] mixed (by kernel_rfl) fun aO m=>?_))
  have ae:=aN.le m
  have af:=(((f8.le l).cn t (by have:=S.lt;omega)).le m)
  have ah:=(((f9.le l).cn t (by have:=aa.lt;omega)).le m)
  have ai:=(V.le m)
  refine⟨⟨ae,af,ah,ai⟩,?_⟩
  refine GS.any Z Z (.move Z) Z Z Z (GS.any Z Z (.nilCheck Z) Z Z Z (GS.any Z Z (.nU aaw Z) Z Z Z (GS.rd Z Z (fun w' hs=> .ES (v:= .map (some gs)) afH Z hs.2.1 Z) Z Z Z (GS.any Z Z (.move Z) Z Z Z (GS.any Z Z (.move Z) Z Z Z ?_)))))
  refine GS.any Z Z (.nilCheck Z) Z Z Z (GS.any Z Z (.nU aax Z) Z Z Z (GS.rd Z Z (fun w' hs=> .ES (v:= .map (some gh)) afJ Z hs.2.1 Z) Z Z Z (GS.rd Z Z (fun w' hs=> .jM afL (by rfl) Z hs.2.2.1) Z Z Z ?_)))
  refine GS.rd Z Z (fun w' hs=> .jM TP (by rfl) Z hs.2.2.2) Z Z Z ?_
  have _:=H.lt
  refine GS.any Z Z (.move Z) Z Z Z (GS.any Z Z (.move Z) Z Z Z (GS.any Z Z (.iF (vL (⟨am,pt⟩)) agm Cu Z Z) Z Z Z (GS.ef Z Z Z Z Z (Ef.TL (key:=ch) underlying126 qG Z Z (((H.le (j.trans (o.trans (k.trans l)))).cn t (by omega)).le m) Ig n ?_))))
  intro aP aQ aR aS y
  have aj:iX w aQ (LF gp gs gh A c):=ae.ch y (fun i hi _=>by cases hi;exact Or.inr (Or.inl Z))
  have ak:=(af.ch y (fun h=>(Ne.symm O) (oI h)))
  have _:=j.size
  have al:gs≠N:=by omega
  have an:=(ah.cn y al)
  have ao:gs≠I:=by omega
  have ap:=(ai.cn y ao)
  refine⟨⟨aj,ak,an,ap⟩,?_⟩
  refine GS.any Z Z (.extract (v:= J (aP:Int)) Z Z) Z Z Z (GS.jR Z Z Z Z (Ef.Fa (key:=ch) (u:=(d.setH ((side).toNat) ((d.h ((side).toNat))-am))) Z Z Z aS aR fun aT aU B=>?_))
  have aq:iX w aT (LF gp gs gh A c):=aj.ch B (fun i hi _=>by cases hi;exact Or.inr (Or.inl Z))
  have ar:=(ak.ch B (fun h=>(Ne.symm O) (oI h)))
  have au:=(an.cn B al)
  have av:=(ap.cn B ao)
  refine⟨⟨aq,ar,au,av⟩,?_⟩
  have _:=L.lt
  have _:=e.size
  have _:=f.size
  refine GS.ef Z Z Z Z Z (Ef.TM (key:=(⟨ch,side,id⟩:kI)) (z:=xF) underlying127 zg Cu Z Z (((((ac.le l).cn t (by omega)).le m).ch y (fun h=>F (oI h))).ch B (fun h=>F (oI h))) K ?_)
  intro aV aW C
  have aw:iX w aV (LF gp gs gh A c):=aq.ch C (fun i hi _=>by cases hi;exact Or.inr (Or.inr (Or.inl Z)))
  have ax:=(ar.ch C (fun h=>(Ne.symm P) (oI h)))
  have ay:gh≠N:=by omega
  have az:=(au.cn C ay)
  have aA:gh≠I:=by omega
  have aB:=(av.cn C aA)
  refine⟨⟨aw,ax,az,aB⟩,?_⟩
  refine GS.any Z Z (.extract (v:= J (ck:Int)) Z Z) Z Z Z (GS.jR Z Z Z Z (Ef.Fa (key:=(⟨ch,side,id⟩:kI)) (u:=(⟨am,pt⟩)) Z Z Z aW (List.mem_append_right _ (List.mem_singleton.2 Z)) fun aX aY D=>?_))
  have aC:iX w aX (LF gp gs gh A c):=aw.ch D (fun i hi _=>by cases hi;exact Or.inr (Or.inr (Or.inl Z)))
  have aD:=(ax.ch D (fun h=>(Ne.symm P) (oI h)))
  refine⟨⟨aC,aD,(az.cn D ay),(aB.cn D aA)⟩,?_⟩
  refine GS.nil (E.iM (Sr (Wn 1 Z (Nx (Rt ?_)))))
  have aZ:=(((((((X.le (e.trans (f.trans (j.trans (o.trans (k.trans l)))))).cb t (X.rn (by omega))).le m).ch y (fun q hq=>by cases hq;exact Q)).ch B (fun q hq=>by cases hq;exact Q)).ch C (fun q hq=>by cases hq;exact R)).ch D (fun q hq=>by cases hq;exact R))
  refine E.iC Z Z ?_
  exact⟨aC,rfl,⟨aD,aZ,((aU.ch C (fun h=>(Ne.symm F) (oI h))).ch D (fun h=>(Ne.symm F) (oI h))),(by rw[<-VG (z:=xF) (oU.1 hn)];exact aY),O,P,F,n4,Q,R⟩⟩
 rw[hn]at K;cases K
theorem RX {gh cs:Nat}{h:yz}(at_:kI)(j:Int)(w:World)(hp0:ik w gp 129 #[.slice A n c,.map (some gs),.map (some gh),J (lost)])(hS0:jk w uu mJ gs ls cs)(hH0:jk w Ff pY gh lh ck)(n1:gp≠gs)(n2:gp≠gh)(n3:gs≠gh)(hs:iO at_.ch ls=some s)(hh:iO at_ lh=some h)(hj:0<=j/\j<=1)(h1:0<=s.h j.toNat/\s.h j.toNat<=1125899906842624)(h2:0<=h.am/\h.am<=1125899906842624):Calls prog 42 #[.pointer (some ⟨gp,0,none⟩),.agg (mf at_).toArray,J (j)] w fun r w'=>r= .returned (.tuple #[])/\jk w' uu mJ gs (oJ at_.ch (s.setH j.toNat (s.h j.toNat+h.am)) ls) cs/\jk w' Ff pY gh (tJ at_ lh) ck/\iX w w' (fun k=>k=gs\/k=gh):=by
 refine En func42 Z (WC.sr (Yv Z fun S U an (V:ik U S 142 (mf at_).toArray) l=>W.nx (WC.seq (WC.draw [0,1,2,3,4,5,6,7,8] mixed (by kernel_rfl) fun w1 d=>?_))))
 have F:=((iX.refl w (fun k=>k=gs\/k=gh)).le l).le d
 refine Xn 3 Z ?_
 have y:=(hp0.le (l.trans d))
 refine Xk (.map (some gs)) Z y Z (Xn 1 Z ?_)
 have B:=(V.le d)
 refine Xk (J at_.ch) Z B Z ?_
 have C:=(hS0.le (l.trans d))
 refine Gd Z (.as (.vK (key:=at_.ch) underlying126 qG z52 Z Z C) (by rw[hs]<;>rfl)) (G.ab Z Z Z z52 wu (iI.one s) fun H X Y (aa:ik X H 52 (iV s).toArray) m=>Gx (WC.seq (WC.draw [0,1,2,3,4,5,6,7,8,9,10,11,12,13,14] mixed (by kernel_rfl) fun w2 e=>?_)))
 have L7:=(F.le m).le e
 refine Xn 2 Z (Xi ((j).toNat) Z ?_)
 have I:=(aa.le e)
 refine Xk (J (s.h ((j).toNat))) Z I (nX s (by omega)) (Xn 3 Z ?_)
 have K:=(y.le (m.trans e))
 refine Xk (.map (some gh)) Z K Z ?_
 have L:=(B.le (m.trans e))
 refine Xh Z L ?_
 have N:=(hH0.le (l.trans (d.trans (m.trans e))))
 refine Gd Z (.as (.vK (key:=at_) underlying127 zg Cu Z Z N) (by rw[hh]<;>rfl)) (Ga Z (.adn (v:= J h.am) underlying144 Z yH Z Z) (Xp Z (Xn 1 Z (Xi ((j).toNat) Z (G.jR Z Z Z Z (Ef.store nC Z Z I (by simp[iI.len,-List.getD_eq_getElem?_getD];omega) Z ?_))))))
 intro O D o
 refine noT (by kernel_rfl) ?_
 have D:ik O H 52 (iV (s.setH ((j).toNat) ((s.h ((j).toNat))+h.am))).toArray:=D.cast (xf s ((s.h ((j).toNat))+h.am) (by omega))
 have ac:iX w O (fun k=>k=gs\/k=gh):=L7.ch o (fun i hi hlt=>by cases hi;exact absurd hlt (by have:=F.size;have:=Y;omega))
 refine Gx (WC.seq (WC.draw [0,1,2,3,4,5,6,7] mixed (by kernel_rfl) fun w3 f=>?_))
 have ad:=ac.le f
 refine Xn 3 Z ?_
 have P:=((K.cn o (by have:=y.lt;omega)).le f)
 refine Xk (.map (some gs)) Z P Z (Xn 1 Z ?_)
 have Q:=((L.cn o (by have:=B.lt;omega)).le f)
 refine Xk (J at_.ch) Z Q Z (Xh Z (D.le f) (G.jR Z Z Z Z (Ef.F9 (key:=at_.ch) (u:=(s.setH ((j).toNat) ((s.h ((j).toNat))+h.am))) underlying126 qG Z Z Z (((C.le (m.trans e)).cn o (by have:=C.lt;omega)).le f) Ig hs ?_)))
 intro ae af x
 refine noT (by kernel_rfl) ?_
 have ah:iX w ae (fun k=>k=gs\/k=gh):=ad.ch x (fun i hi _=>by cases hi;exact Or.inl Z)
 refine Gx (WC.draw [0,1,2,3,4,5] mixed (by kernel_rfl) fun w4 t=>?_)
 have ai:=ah.le t
 refine Xn 3 Z (Xk (.map (some gh)) Z ((P.ch x (fun h=>(Ne.symm n1) (oI h))).le t) Z (Xh Z ((Q.cn x (by have:=hS0.lt;omega)).le t) (G.jR Z Z Z Z (Ef.Rf (key:=at_) underlying127 zg Z Z ((((N.cn o (by have:=hH0.lt;have:=l.size;have:=d.size;omega)).le f).ch x (fun h=>n3 (oI h))).le t) ?_))))
 intro aj ak R
 refine noT (by kernel_rfl) ?_
 have al:iX w aj (fun k=>k=gs\/k=gh):=ai.ch R (fun i hi _=>by cases hi;exact Or.inr Z)
 refine G.nil (E.end_ (E.Pt Z ?_))
 exact⟨rfl,((af.le t).ch R (fun h=>(Ne.symm n3) (oI h))),ak,al⟩
theorem Qd {gh cs:Nat}{own:List Int}(ch side id:Int)(sec:Nat)(w:World)(hL:mr w gp gs gh A c cs ck own ls lh lost)(hw:∀x∈ls,∀i,0<=x.2.2.h i/\x.2.2.h i<=1125899906842624)(hv:∀x∈lh,(0<=x.2.1.side/\x.2.1.side<=1)/\(0<=x.2.2.am/\x.2.2.am<=1125899906842624)/\∃s,iO x.2.1.ch ls=some s):Calls prog 11 #[.pointer (some ⟨gp,0,none⟩),J ch,J side,J id,.int .u64 (sec:Int)] w fun r w'=>iX w w' (LF gp gs gh A c)/\((iO (⟨ch,side,id⟩:kI) lh=none/\r= .returned (J 5)/\mr w' gp gs gh A c cs ck own ls lh lost)\/∃h,iO (⟨ch,side,id⟩:kI) lh=some h/\((base sec≠h.pt/\r= .returned (J 23)/\mr w' gp gs gh A c cs ck own ls lh lost)\/(base sec=h.pt/\r= .returned (J 0)/\∃s,iO ch ls=some s/\mr w' gp gs gh A c cs ck own (oJ ch (s.setH (1-side).toNat (s.h (1-side).toNat+h.am)) ls) (tJ (⟨ch,side,id⟩:kI) lh) lost))):=by
 have X:=hL.hp
 have F:=hL.hO
 have H:=hL.hS
 have O:=hL.hH
 have o:=hL.ps
 have t:=hL.ph
 have y:=hL.sh
 have I:=hL.op
 have B:=hL.os
 have C:=hL.oh
 refine En func11 Z (Rn 1 Z (Rr 3 Z (Wa (.iF (mf (⟨ch,side,id⟩:kI)) WV P6 Z Z) Z (W.ab Z P6 Rv (xR.one (⟨ch,side,id⟩:kI)) fun Y aa ao (ac:ik aa Y 142 (mf (⟨ch,side,id⟩:kI)).toArray) k=>Nx (Sq (WC.draw [0,1,2,3,4,5,6,7,8,9,10,11] mixed (by kernel_rfl) ?_))))))
 intro w2 d
 have P:=((iX.refl w (LF gp gs gh A c)).le k).le d
 refine Xn 3 Z ?_
 have D:=(X.le (k.trans d))
 refine Xk (.map (some gh)) Z D Z ?_
 have Q:=(ac.le d)
 refine Xh Z Q ?_
 rcases optG (iO (⟨ch,side,id⟩:kI) lh)with m|⟨n,m⟩
 ·have R:=(O.le (k.trans d))
  refine Gd Z (.as (.mV (key:=(⟨ch,side,id⟩:kI)) underlying127 zg Cu Z Z R) (by rw[m]<;>rfl)) (Xn 1 Z (Ga Z (.extract (v:= .agg (vL xF).toArray) Z Z) (Xn 1 Z (G.ab Z Z Z Cu NP (uL.one xF) fun ap aq ar au u=>Xx 1 Z (Sq (Bk (Rn 3 Z (Ct Z ?_))))))))
  refine Rn 1 Z (Rt (E.jc (E.il (E.iC Z Z ?_))))
  exact⟨(P.le u),.inl ⟨m,rfl,⟨(D.le u),(F.le (k.trans (d.trans u))),(H.le (k.trans (d.trans u))),(R.le u),o,t,y,I,B,C⟩⟩⟩
 obtain⟨bh,Vt⟩:=pU m
 obtain⟨ad,S,sv,hsv⟩:=hv _ Vt
 simp only at ad S hsv
 obtain⟨bs,hbs⟩:=pU hsv
 have hws:=hw _ hbs
 simp only at hws
 have K:=(O.le (k.trans d))
 refine Gd Z (.as (.mV (key:=(⟨ch,side,id⟩:kI)) underlying127 zg Cu Z Z K) (by rw[m]<;>rfl)) (Xn 1 Z (Ga Z (.extract (v:= .agg (vL n).toArray) Z Z) (Xn 1 Z (G.ab Z Z Z Cu NP (uL.one n) fun ae af av (ah:ik af ae 144 (vL n).toArray) l=>Xx 1 Z (Sq (Bk (Rn 3 Z (Cf Z ?_))))))))
 refine Sq (WC.draw [0,2,3,1,4,5] mixed (by kernel_rfl) ?_)
 intro w5 f
 refine Xn 2 Z (Xk (.int .u64 (n.pt:Int)) Z (ah.le f) Z (Xc Z (pF sec w5) fun ai j=>?_))
 have U:=((P.le l).le f).le j
 refine Xx 2 Z ?_
 by_cases L:(base sec:Int)≠(n.pt:Int)
 ·refine Cy Z (dT L) (Rn 1 Z (Rt (E.jc (E.il (E.iC Z Z ?_)))))
  exact⟨U,.inr ⟨_,m,.inl ⟨(by intro e;apply L;rw[e]),rfl,⟨(D.le (l.trans (f.trans j))),(F.le (k.trans (d.trans (l.trans (f.trans j))))),(H.le (k.trans (d.trans (l.trans (f.trans j))))),(K.le (l.trans (f.trans j))),o,t,y,I,B,C⟩⟩⟩⟩
 refine Cn Z (dF L) (WC.skip (E.jD (E.iM (Rr 1 Z (Yh Z (Q.le (l.trans (f.trans j))) (Yn 1 Z (Yp Z ?_)))))))
 have V:=(D.le (l.trans (f.trans j)))
 refine Yd Z (RX (s:=sv) (h:=n) (⟨ch,side,id⟩:kI) (1-side) ai V (H.le (k.trans (d.trans (l.trans (f.trans j))))) (K.le (l.trans (f.trans j))) o t y hsv m (by omega) (hws _) S) ?_
 rintro _ aw ⟨rfl,aj,ak,N⟩
 have al:=U.sub N (fun i hi hlt=>Or.elim hi (fun hi=>(by subst hi;exact Or.inr (Or.inl Z))) (fun hi=>(by subst hi;exact Or.inr (Or.inr (Or.inl Z)))))
 refine Nx (Rn 1 Z (Rt ?_))
 have an:=((F.le (k.trans (d.trans (l.trans (f.trans j))))).ji N (fun q hqq hF=>Or.elim hF (fun hF=>(by subst hF;exact B hqq)) (fun hF=>(by subst hF;exact C hqq))))
 refine E.iC Z Z ?_
 exact⟨al,.inr ⟨_,m,.inr ⟨(by omega),rfl,_,hsv,⟨(V.ji N (fun hF=>Or.elim hF (fun hF=>o hF) (fun hF=>t hF))),an,aj,ak,o,t,y,I,B,C⟩⟩⟩⟩
theorem XC {gh cs:Nat}{own:List Int}(ch side id:Int)(w:World)(hL:mr w gp gs gh A c cs ck own ls lh lost)(hw:∀x∈ls,∀i,0<=x.2.2.h i/\x.2.2.h i<=1125899906842624)(hv:∀x∈lh,(0<=x.2.1.side/\x.2.1.side<=1)/\(0<=x.2.2.am/\x.2.2.am<=1125899906842624)/\∃s,iO x.2.1.ch ls=some s):Calls prog 12 #[.pointer (some ⟨gp,0,none⟩),J ch,J side,J (id)] w fun r w'=>iX w w' (LF gp gs gh A c)/\((iO (⟨ch,side,id⟩:kI) lh=none/\r= .returned (J 5)/\mr w' gp gs gh A c cs ck own ls lh lost)\/∃h,iO (⟨ch,side,id⟩:kI) lh=some h/\r= .returned (J 0)/\∃s,iO ch ls=some s/\mr w' gp gs gh A c cs ck own (oJ ch (s.setH (side).toNat (s.h (side).toNat+h.am)) ls) (tJ (⟨ch,side,id⟩:kI) lh) lost):=by
 have R:=hL.hp
 have C:=hL.hO
 have D:=hL.hS
 have F:=hL.hH
 have l:=hL.ps
 have m:=hL.ph
 have o:=hL.sh
 have H:=hL.op
 have t:=hL.os
 have u:=hL.oh
 refine En func12 Z (Rn 1 Z (Rr 3 Z (Wa (.iF (mf (⟨ch,side,id⟩:kI)) WV P6 Z Z) Z (W.ab Z P6 Rv (xR.one (⟨ch,side,id⟩:kI)) fun S U af (V:ik U S 142 (mf (⟨ch,side,id⟩:kI)).toArray) e=>Nx (Sq (Sq (WC.draw [0,1,2,3,4,5,6,7,8,9,10,11] mixed (by kernel_rfl) ?_)))))))
 intro w2 d
 have I:=((iX.refl w (LF gp gs gh A c)).le e).le d
 refine Xn 3 Z ?_
 have y:=(R.le (e.trans d))
 refine Xk (.map (some gh)) Z y Z ?_
 have K:=(V.le d)
 refine Xh Z K ?_
 rcases optG (iO (⟨ch,side,id⟩:kI) lh)with f|⟨n,f⟩
 ·have L:=(F.le (e.trans d))
  refine Gd Z (.as (.mV (key:=(⟨ch,side,id⟩:kI)) underlying127 zg Cu Z Z L) (by rw[f]<;>rfl)) (Xn 1 Z (Ga Z (.extract (v:= .agg (vL xF).toArray) Z Z) (Xn 1 Z (G.ab Z Z Z Cu NP (uL.one xF) fun ah ai aj ak k=>Xx 1 Z (Rn 2 Z (Ct Z (Rn 1 Z (Rt ?_))))))))
  refine E.il (E.iC Z Z ?_)
  exact⟨(I.le k),.inl ⟨f,rfl,⟨(y.le k),(C.le (e.trans (d.trans k))),(D.le (e.trans (d.trans k))),(L.le k),l,m,o,H,t,u⟩⟩⟩
 obtain⟨bh,Vt⟩:=pU f
 obtain⟨X,N,sv,hsv⟩:=hv _ Vt
 simp only at X N hsv
 obtain⟨bs,hbs⟩:=pU hsv
 have hws:=hw _ hbs
 simp only at hws
 have O:=(F.le (e.trans d))
 refine Gd Z (.as (.mV (key:=(⟨ch,side,id⟩:kI)) underlying127 zg Cu Z Z O) (by rw[f]<;>rfl)) (Xn 1 Z (Ga Z (.extract (v:= .agg (vL n).toArray) Z Z) (Xn 1 Z (G.ab Z Z Z Cu NP (uL.one n) fun Y P al (an:ik P Y 144 (vL n).toArray) j=>Xx 1 Z (Rn 2 Z (Cf Z (Sn (Rr 1 Z ?_))))))))
 refine Yh Z (K.le j) (Yn 1 Z ?_)
 have Q:=(y.le j)
 refine Yd Z (RX (s:=sv) (h:=n) (⟨ch,side,id⟩:kI) side P Q (D.le (e.trans (d.trans j))) (O.le j) l m o hsv f (by omega) (hws _) N) ?_
 rintro _ ao ⟨rfl,aa,ac,B⟩
 have ad:=(I.le j).sub B (fun i hi hlt=>Or.elim hi (fun hi=>(by subst hi;exact Or.inr (Or.inl Z))) (fun hi=>(by subst hi;exact Or.inr (Or.inr (Or.inl Z)))))
 refine Nx (Rn 1 Z (Rt ?_))
 have ae:=((C.le (e.trans (d.trans j))).ji B (fun q hqq hF=>Or.elim hF (fun hF=>(by subst hF;exact t hqq)) (fun hF=>(by subst hF;exact u hqq))))
 refine E.iC Z Z ?_
 exact⟨ad,.inr ⟨_,f,rfl,_,hsv,⟨(Q.ji B (fun hF=>Or.elim hF (fun hF=>l hF) (fun hF=>m hF))),ae,aa,ac,l,m,o,H,t,u⟩⟩⟩
theorem RY {Aw:Option Addr}{nw cw:Nat}{own:List Int}(w:World)(hO:Vec w iv 1 Aw nw own):Calls prog 7 #[.slice Aw nw cw] w fun r w'=>(¬BB own/\r= .returned (.pointer none)/\Le w w')\/(BB own/\∃gp gs gh A c,r= .returned (.pointer (some ⟨gp,0,none⟩))/\mr w' gp gs gh A c 0 0 own [] [] 0/\(∀k,LF gp gs gh A c k->w.heap.size<=k)/\Le w w'):=by
 have hon:=hO.1
 refine En func7 Z ?_
 have t:=Le.refl w
 refine Rn 1 Z (Sq (Rr 3 Z ?_))
 by_cases B:(nw:Int)<1
 ·refine Dt B Z Z (Yx 4 Z (Ct Z (Rn 1 Z (Rt (E.il (E.iC Z Z ?_))))))
  exact .inl ⟨(by first|exact KN (by omega) (Bool.eq_false_iff.2 d)|(rintro⟨⟨z1,z2⟩,_⟩;omega)),rfl,t⟩
 refine Df B Z Z (Yx 4 Z ?_)
 by_cases C:12<(nw:Int)
 ·refine Cy Z (dT C) (Rn 1 Z (Rt (E.il (E.iC Z Z ?_))))
  exact .inl ⟨(by first|exact KN (by omega) (Bool.eq_false_iff.2 d)|(rintro⟨⟨z1,z2⟩,_⟩;omega)),rfl,t⟩
 refine Cn Z (dF C) (Sn (Rn 1 Z (Sq (Rn 3 Z (Bk (WC.loop (ι:=Nat) (fun k=>[(0,.slice Aw nw cw),(3,J ((own.take k).sum)),(16,.slice Aw nw cw),(17,J (nw:Int)),(18,J (k:Int))]) (fun k e=>(k<=nw)/\(∀j,j<k->0<=own.getD j 0)/\((own.take k).sum<=1125899906842624)/\Le w e/\w.heap.size<=e.heap.size) (fun k=>nw-k) 0 ?_ ?_ ?_))))))
 ·exact .cons Z (.cons' Z (int_eq (by simp)) (.of Z))
 ·exact⟨Nat.zero_le _,fun j hj=>by omega,by simp,t,Nat.le_refl _⟩
 rintro k e ⟨hk,hn,hs,f,R⟩
 refine Rn 1 Z (Sq ?_)
 by_cases D:(k:Int)<(nw:Int)
 ·refine Cy Z (dT D) (Nb (Sr (Ys k Z (hO.isSome iQ (by omega)) (Wr (.o9 (v:= J (own.getD k 0)) yH Z (hO.le f) iQ (jN own 0 (by omega)) Z) Z (Yx 1 Z (Rr 2 Z (Yc Z (Lj ((own.take k).sum) (own.getD k 0) e) fun ac F=>?_)))))))
  have H:=f.trans F
  refine Yx 5 Z (Sq (Rn 2 Z ?_))
  by_cases d:((pI ((own.take k).sum) (own.getD k 0)).2)=true
  ·refine Cn Z (congrArg not d) (Sn (Rg (Yn 2 Z (W.nil (Lp 1 Z Z (E.again (k+1) (.cons Z (.cons' Z (int_eq ((GD (by omega) hn d).1)) (.of Z))) ?_ ?_))))))
   ·exact⟨by omega,(GD (by omega) hn d).2.2,(GD (by omega) hn d).2.1,H,by have:=R;have:=F.size;omega⟩
   first|omega|(simp only[];omega)
  refine Cy Z (congrArg not (Bool.eq_false_iff.2 d)) (Rn 1 Z (Rt (E.il (E.jc (E.il (E.il (E.jc (E.il (E.iC Z Z ?_)))))))))
  exact .inl ⟨(by first|exact KN (by omega) (Bool.eq_false_iff.2 d)|(rintro⟨⟨z1,z2⟩,_⟩;omega)),rfl,H⟩
 refine Cn Z (dF D) (Ex (Rr 1 Z (Yd Z (Uf e (hO.le f) (by omega)) ?_)))
 rintro _ ad ⟨I,K,rfl,l,S⟩
 have L:=f.trans S
 refine W.ef Z Z Z (Ef.wU uu mJ fun m ae U u n=>?_)
 have N:=L.trans n
 refine W.ef Z Z Z (Ef.wU Ff pY fun o af V O i=>?_)
 have P:=N.trans i
 refine Wa (.iF [.slice I nw K,.map (some m),.map (some o),J (0)] agl ahU Z Z) Z (Yv Z fun y X Y (aa:ik X y 129 #[.slice I nw K,.map (some m),.map (some o),J (0)]) s=>?_)
 have L5:=P.trans s
 refine Yx 1 Z (Rt ?_)
 have Q:=(l.le (n.trans (i.trans s)))
 have f7:=(u.le (i.trans s))
 have f8:=(O.le s)
 refine E.iC Z Z ?_
 have _:=u.lt
 have _:=i.size
 have _:=n.size
 have ah:k=nw:=(by omega);have hsw:(own.take k).sum=own.sum:=(by rw[List.take_of_length_le (by omega)]);have hnn:∀x∈own,0<=x:=(fun x hx=>by obtain⟨j,hj,rfl⟩:=List.getElem_of_mem hx;have:=hn j (by omega);rwa [List.getD_eq_getElem?_getD,List.getElem?_eq_getElem hj]at this);subst hon;exact .inr ⟨⟨⟨by omega,by omega⟩,hnn,by omega⟩,_,_,_,_,_,rfl,⟨aa,Q.mono (Nat.zero_le _),f7,f8,(show y≠m from by omega),(show y≠o from by have:=O.lt;omega),(show m≠o from by omega),(l.rn (by omega)),(l.rn (by omega)),(l.rn (by omega))⟩,(by rintro q (rfl|rfl|rfl|hq);exact(by have:=Y;have:=P.size;omega);exact(by have:=U;have:=L.size;omega);exact(by have:=V;have:=N.size;omega);exact Nat.le_trans f.size (Q.row hq).1),L5⟩
variable {iH:List Bc}
theorem mR (h:k<iH.length):kJ ls (iH.take (k+1))=y7 (kJ ls (iH.take k)) (iH.getD k iK):=by
 unfold kJ
 rw[List.take_add_one,jN iH iK h,List.foldl_append]
 rfl
variable {st:SM×Int}
theorem XD (h:st.2≠0)(g:Bc):y7 st g=st:=by unfold y7;rw[if_pos h]
theorem J4 (h:st.2≠0):∀l:List Bc,l.foldl y7 st=st
 |[]=>rfl
 |g::l=>by rw[List.foldl_cons,XD h g,J4 h l]
theorem oV (h:(kJ ls (iH.take k)).2≠0):kJ ls iH=kJ ls (iH.take k):=by
 have e:iH=iH.take k++iH.drop k:=(List.take_append_drop k iH).symm
 have e2:kJ ls iH=(iH.drop k).foldl y7 (kJ ls (iH.take k)):=by
  unfold kJ
  rw[<-List.foldl_append,List.take_append_drop]
 rw[e2,J4 h]
theorem aaE {i j:Nat}{v:Int}(hi:i<2)(hj:j<2)(h:i≠j):(s.setH i v).h j=s.h j:=by
 have c:i=0\/i=1:=by omega
 have d:j=0\/j=1:=by omega
 rcases c with rfl|rfl<;>rcases d with rfl|rfl<;>first|rfl|(exact absurd Z h)
def J5 (ls:SM):Prop:=∀x∈ls,0<=x.2.2.h0/\0<=x.2.2.h1/\x.2.2.h0+x.2.2.h1<=2251799813685248
theorem aaF (h:J5 ls){x:Nat×Int×Seat}(hx:x∈ls)(i:Nat):0<=x.2.2.h i/\x.2.2.h i<=2251799813685248:=by
 have:=h x hx
 unfold Seat.h
 split<;>omega
theorem Ui {g:Bc}(hs:0<=s.h0/\0<=s.h1/\s.h0+s.h1<=2251799813685248)(hg:vF g)(hf:¬s.h g.side.toNat<g.am):0<=(MG s g).h0/\0<=(MG s g).h1/\(MG s g).h0+(MG s g).h1<=2251799813685248:=by
 obtain⟨⟨c,d⟩,f,i⟩:=hg
 have:g.side=0\/g.side=1:=by omega
 rcases this with e|e
 ·rw[e]at hf
  simp[Seat.h]at hf
  simp[MG,e,Seat.setH,Seat.h]
  omega
 ·rw[e]at hf
  simp[Seat.h]at hf
  simp[MG,e,Seat.setH,Seat.h]
  omega
theorem Uj {key:Int}{t:Seat}(h:J5 ls)(ht:0<=t.h0/\0<=t.h1/\t.h0+t.h1<=2251799813685248):J5 (oJ key t ls):=by
 intro x hx
 unfold oJ at hx
 obtain⟨y,hy,rfl⟩:=List.mem_map.1 hx
 split
 ·exact ht
 ·exact h y hy
theorem aaG {gh cs:Nat}{own:List Int}{Ag:Option Addr}{ng cg:Nat}(w:World)(hL:mr w gp gs gh A c cs ck own ls lh lost)(hg:Vec w DW 3 Ag ng iH)(hng:ng<=1000)(hgd:J5 ls)(hga:∀q,lN Ag=some q->0<ng->q<w.heap.size->¬LF gp gs gh A c q):Calls prog 21 #[.pointer (some ⟨gp,0,none⟩),.slice Ag ng cg] w fun r w'=>iX w w' (LF gp gs gh A c)/\(((kJ ls iH).2≠0/\r= .returned (J (kJ ls iH).2)/\mr w' gp gs gh A c cs ck own ls lh lost)\/((kJ ls iH).2=0/\r= .returned (J 0)/\∃gs',w.heap.size<=gs'/\mr w' gp gs' gh A c cs ck own (kJ ls iH).1 lh lost)):=by
 have ah:=hL.hp
 have al:=hL.hO
 have an:=hL.hS
 have ao:=hL.hH
 have D:=hL.ps
 have x:=hL.ph
 have F:=hL.sh
 have y:=hL.op
 have H:=hL.os
 have C:=hL.oh
 have hgn:=hg.1
 refine En func21 Z ?_
 have L0:=iX.refl w (LF gp gs gh A c)
 refine Rn 1 Z (Rr 3 Z (Yk (.map (some gs)) Z ah Z (Yd Z (Ug w an) ?_)))
 rintro _ aU ⟨S,rfl,aB,aV,aa⟩
 refine Yx 1 Z (Sq (Rn 3 Z (Bk ?_)))
 refine WC.loop (ι:=Nat×SM) (fun⟨k,lc⟩=>[(0,.pointer (some ⟨gp,0,none⟩)),(5,.map (some S)),(15,.slice Ag ng cg),(16,J (ng:Int)),(17,J (k:Int))]) (fun⟨k,lc⟩ N=>(k<=ng)/\(kJ ls (iH.take k)=(lc,0))/\(J5 lc)/\iX w N (LF gp gs gh A c)/\aU.heap.size<=N.heap.size/\ik N gp 129 #[.slice A own.length c,.map (some gs),.map (some gh),J (lost)]/\iy N 0 3 iv 1 A own.length c own/\jk N uu mJ gs ls cs/\jk N Ff pY gh lh ck/\jk N uu mJ S lc cs) (fun⟨k,lc⟩=>ng-k) (0,ls) ?_ ?_ ?_
 ·exact .of Z
 ·exact⟨Nat.zero_le _,rfl,hgd,(L0.le aa),Nat.le_refl _,(ah.le aa),(al.le aa),(an.le aa),(ao.le aa),aV⟩
 rintro⟨k,lc⟩ N ⟨hk,hpt,hgc,ap,aW,o,n,B,s,aq⟩
 refine Rn 1 Z (Sq ?_)
 by_cases c0:(k:Int)<(ng:Int)
 ·refine Cy Z (dT c0) (Nb (Sr (Ys k Z (hg.isSome uX (by omega)) (Wr (.lX ahS Z (hg.ji ap hga) uX (jN iH iK (by omega))) Z (W.ab Z z99 afA (uX.one (iH.getD k iK)) fun aC aX b0 (ai:ik aX aC 99 (DW (iH.getD k iK)).toArray) d=>?_)))))
  have L6:=ap.le d
  refine Nx (Rr 2 Z (Yk (J ((iH.getD k iK).ch)) Z ai Z ?_))
  rcases optG (iO ((iH.getD k iK).ch) lc)with O|⟨e,O⟩
  ·have f7:=(aq.le d)
   refine Wr (.as (.mV (key:=((iH.getD k iK).ch)) underlying126 qG z52 Z Z f7) (by rw[O]<;>rfl)) Z (Yn 1 Z (Wa (.extract (v:= .agg (iV iB).toArray) Z Z) Z (Yn 1 Z (W.ab Z z52 wu (iI.one iB) fun b1 aY b2 b3 j=>?_))))
   have L8:=L6.le j
   refine Yx 1 Z (Sq (Bk (Rr 1 Z ?_)))
   have f9:=(ai.le j)
   refine Yk (J ((iH.getD k iK).side)) Z f9 Z (Yn 1 Z ?_)
   by_cases ac:((iH.getD k iK).side)<0
   ·refine Dt ac Z Z (Yx 16 Z (Ct Z (Rn 1 Z (Rt (E.jc (E.il (E.jc (E.il (E.il ?_)))))))))
    refine E.jc (E.il ?_)
    have aZ:=(o.le (d.trans j))
    have a0:=(n.le (d.trans j))
    have a5:=(B.le (d.trans j))
    have a6:=(s.le (d.trans j))
    refine E.iC Z Z ?_
    have e9:kJ ls (iH.take (k+1))=(lc,1):=(by rw[mR (by omega),hpt];unfold y7;rw[if_neg (by simp)];rw[if_pos (fun hh:vF (iH.getD k iK)=>by obtain⟨⟨U,V⟩,X,m⟩:=hh;first|omega|(exact absurd (jY.2 ⟨by omega,m⟩) (by assumption)))]);have e8:kJ ls iH=(lc,1):=(by rw[oV (k:=k+1) (by rw[e9];simp),e9]);exact⟨L8,.inl ⟨by rw[e8];simp,by rw[e8],⟨aZ,a0,a5,a6,D,x,F,y,H,C⟩⟩⟩
   refine Df ac Z Z (Yn 1 Z (Yk (J ((iH.getD k iK).side)) Z f9 Z (Yn 2 Z ?_)))
   by_cases ad:1<((iH.getD k iK).side)
   ·refine Dt ad Z Z (Yx 11 Z (Ct Z (Rn 1 Z (Rt (E.jc (E.il (E.jc (E.il (E.il ?_)))))))))
    refine E.jc (E.il ?_)
    have a7:=(o.le (d.trans j))
    have a8:=(n.le (d.trans j))
    have a9:=(B.le (d.trans j))
    have ba:=(s.le (d.trans j))
    refine E.iC Z Z ?_
    have e9:kJ ls (iH.take (k+1))=(lc,1):=(by rw[mR (by omega),hpt];unfold y7;rw[if_neg (by simp)];rw[if_pos (fun hh:vF (iH.getD k iK)=>by obtain⟨⟨U,V⟩,X,m⟩:=hh;first|omega|(exact absurd (jY.2 ⟨by omega,m⟩) (by assumption)))]);have e8:kJ ls iH=(lc,1):=(by rw[oV (k:=k+1) (by rw[e9];simp),e9]);exact⟨L8,.inl ⟨by rw[e8];simp,by rw[e8],⟨a7,a8,a9,ba,D,x,F,y,H,C⟩⟩⟩
   refine Df ad Z Z (Yn 1 Z (Yk (J ((iH.getD k iK).am)) Z f9 Z (Yn 2 Z ?_)))
   by_cases ae:((iH.getD k iK).am)<1
   ·refine Dt ae Z Z (Yx 6 Z (Ct Z (Rn 1 Z (Rt (E.jc (E.il (E.jc (E.il (E.il ?_)))))))))
    refine E.jc (E.il ?_)
    have bb:=(o.le (d.trans j))
    have bc:=(n.le (d.trans j))
    have bd:=(B.le (d.trans j))
    have be:=(s.le (d.trans j))
    refine E.iC Z Z ?_
    have e9:kJ ls (iH.take (k+1))=(lc,1):=(by rw[mR (by omega),hpt];unfold y7;rw[if_neg (by simp)];rw[if_pos (fun hh:vF (iH.getD k iK)=>by obtain⟨⟨U,V⟩,X,m⟩:=hh;first|omega|(exact absurd (jY.2 ⟨by omega,m⟩) (by assumption)))]);have e8:kJ ls iH=(lc,1):=(by rw[oV (k:=k+1) (by rw[e9];simp),e9]);exact⟨L8,.inl ⟨by rw[e8];simp,by rw[e8],⟨bb,bc,bd,be,D,x,F,y,H,C⟩⟩⟩
   refine Df ae Z Z (Yn 1 Z (Yk (J ((iH.getD k iK).am)) Z f9 Z (Yc Z (tF ((iH.getD k iK).am) aY) fun b4 I=>?_)))
   have aD:=L8.le I
   refine Yx 3 Z ?_
   by_cases c1:(og ((iH.getD k iK).am))=true
   ·refine Cn Z (congrArg not c1) ?_
    have hlo:vF (iH.getD k iK):=⟨⟨by omega,by omega⟩,by omega,(jY.1 (by assumption)).2⟩
    have ar:=hlo
    obtain⟨⟨o1,o2⟩,o3,o4⟩:=ar
    refine Rn 3 Z (Ct Z (Rn 1 Z (Rt (E.jc (E.il (E.jc (E.il (E.il (E.jc ?_)))))))))
    refine E.il ?_
    have bf:=(o.le (d.trans (j.trans I)))
    have bg:=(n.le (d.trans (j.trans I)))
    have bi:=(B.le (d.trans (j.trans I)))
    have bj:=(s.le (d.trans (j.trans I)))
    refine E.iC Z Z ?_
    have e9:kJ ls (iH.take (k+1))=(lc,5):=(by rw[mR (by omega),hpt];unfold y7;rw[if_neg (by simp)];rw[if_neg (not_not_intro hlo),O]);have e8:kJ ls iH=(lc,5):=(by rw[oV (k:=k+1) (by rw[e9];simp),e9]);exact⟨aD,.inl ⟨by rw[e8];simp,by rw[e8],⟨bf,bg,bi,bj,D,x,F,y,H,C⟩⟩⟩
   refine Cy Z (congrArg not (Bool.eq_false_iff.2 c1)) (Rn 1 Z (Rt (E.jc (E.il (E.jc (E.il (E.il (E.jc (E.il ?_)))))))))
   have bk:=(o.le (d.trans (j.trans I)))
   have bl:=(n.le (d.trans (j.trans I)))
   have bm:=(B.le (d.trans (j.trans I)))
   have bn:=(s.le (d.trans (j.trans I)))
   refine E.iC Z Z ?_
   have e9:kJ ls (iH.take (k+1))=(lc,1):=(by rw[mR (by omega),hpt];unfold y7;rw[if_neg (by simp)];rw[if_pos (fun hh:vF (iH.getD k iK)=>by obtain⟨⟨U,V⟩,X,m⟩:=hh;first|omega|(exact absurd (jY.2 ⟨by omega,m⟩) (by assumption)))]);have e8:kJ ls iH=(lc,1):=(by rw[oV (k:=k+1) (by rw[e9];simp),e9]);exact⟨aD,.inl ⟨by rw[e8];simp,by rw[e8],⟨bk,bl,bm,bn,D,x,F,y,H,C⟩⟩⟩
  obtain⟨bh,Vt⟩:=pU O
  have hsg:0<=e.h0/\0<=e.h1/\e.h0+e.h1<=2251799813685248:=hgc _ Vt
  have hsh:∀i,0<=e.h i/\e.h i<=2251799813685248:=fun i=>aaF hgc Vt i
  have au:=(aq.le d)
  refine Wr (.as (.mV (key:=((iH.getD k iK).ch)) underlying126 qG z52 Z Z au) (by rw[O]<;>rfl)) Z (Yn 1 Z (Wa (.extract (v:= .agg (iV e).toArray) Z Z) Z (Yn 1 Z (W.ab Z z52 wu (iI.one e) fun P aE aF (bo:ik aE P 52 (iV e).toArray) f=>?_))))
  have aj:=L6.le f
  refine Yx 1 Z (Sq (Bk (Rr 1 Z ?_)))
  have af:=(ai.le f)
  refine Yk (J ((iH.getD k iK).side)) Z af Z (Yn 1 Z ?_)
  by_cases ac:((iH.getD k iK).side)<0
  ·refine Dt ac Z Z (Yx 16 Z (Ct Z (Rn 1 Z (Rt (E.jc (E.il (E.jc (E.il (E.il ?_)))))))))
   refine E.jc (E.il ?_)
   have bp:=(o.le (d.trans f))
   have bq:=(n.le (d.trans f))
   have bs:=(B.le (d.trans f))
   have bt:=(s.le (d.trans f))
   refine E.iC Z Z ?_
   have e9:kJ ls (iH.take (k+1))=(lc,1):=(by rw[mR (by omega),hpt];unfold y7;rw[if_neg (by simp)];rw[if_pos (fun hh:vF (iH.getD k iK)=>by obtain⟨⟨U,V⟩,X,m⟩:=hh;first|omega|(exact absurd (jY.2 ⟨by omega,m⟩) (by assumption)))]);have e8:kJ ls iH=(lc,1):=(by rw[oV (k:=k+1) (by rw[e9];simp),e9]);exact⟨aj,.inl ⟨by rw[e8];simp,by rw[e8],⟨bp,bq,bs,bt,D,x,F,y,H,C⟩⟩⟩
  refine Df ac Z Z (Yn 1 Z (Yk (J ((iH.getD k iK).side)) Z af Z (Yn 2 Z ?_)))
  by_cases ad:1<((iH.getD k iK).side)
  ·refine Dt ad Z Z (Yx 11 Z (Ct Z (Rn 1 Z (Rt (E.jc (E.il (E.jc (E.il (E.il ?_)))))))))
   refine E.jc (E.il ?_)
   have bu:=(o.le (d.trans f))
   have bv:=(n.le (d.trans f))
   have bw:=(B.le (d.trans f))
   have bx:=(s.le (d.trans f))
   refine E.iC Z Z ?_
   have e9:kJ ls (iH.take (k+1))=(lc,1):=(by rw[mR (by omega),hpt];unfold y7;rw[if_neg (by simp)];rw[if_pos (fun hh:vF (iH.getD k iK)=>by obtain⟨⟨U,V⟩,X,m⟩:=hh;first|omega|(exact absurd (jY.2 ⟨by omega,m⟩) (by assumption)))]);have e8:kJ ls iH=(lc,1):=(by rw[oV (k:=k+1) (by rw[e9];simp),e9]);exact⟨aj,.inl ⟨by rw[e8];simp,by rw[e8],⟨bu,bv,bw,bx,D,x,F,y,H,C⟩⟩⟩
  refine Df ad Z Z (Yn 1 Z (Yk (J ((iH.getD k iK).am)) Z af Z (Yn 2 Z ?_)))
  by_cases ae:((iH.getD k iK).am)<1
  ·refine Dt ae Z Z (Yx 6 Z (Ct Z (Rn 1 Z (Rt (E.jc (E.il (E.jc (E.il (E.il ?_)))))))))
   refine E.jc (E.il ?_)
   have bz:=(o.le (d.trans f))
   have bA:=(n.le (d.trans f))
   have bB:=(B.le (d.trans f))
   have bC:=(s.le (d.trans f))
   refine E.iC Z Z ?_
   have e9:kJ ls (iH.take (k+1))=(lc,1):=(by rw[mR (by omega),hpt];unfold y7;rw[if_neg (by simp)];rw[if_pos (fun hh:vF (iH.getD k iK)=>by obtain⟨⟨U,V⟩,X,m⟩:=hh;first|omega|(exact absurd (jY.2 ⟨by omega,m⟩) (by assumption)))]);have e8:kJ ls iH=(lc,1):=(by rw[oV (k:=k+1) (by rw[e9];simp),e9]);exact⟨aj,.inl ⟨by rw[e8];simp,by rw[e8],⟨bz,bA,bB,bC,D,x,F,y,H,C⟩⟩⟩
  refine Df ae Z Z (Yn 1 Z (Yk (J ((iH.getD k iK).am)) Z af Z (Yc Z (tF ((iH.getD k iK).am) aE) fun b5 l=>?_)))
  have aG:=aj.le l
  refine Yx 3 Z ?_
  by_cases c1:(og ((iH.getD k iK).am))=true
  ·refine Cn Z (congrArg not c1) ?_
   have hlo:vF (iH.getD k iK):=⟨⟨by omega,by omega⟩,by omega,(jY.1 (by assumption)).2⟩
   have ar:=hlo
   obtain⟨⟨o1,o2⟩,o3,o4⟩:=ar
   refine Rn 3 Z (Cf Z (Sq (WC.draw [0,1,2,3,4,5,6,7,8] mixed (by kernel_rfl) fun b6 t=>?_)))
   have aH:=aG.le t
   refine Xn 1 Z ?_
   have av:=(af.le (l.trans t))
   refine Xk (J ((iH.getD k iK).side)) Z av Z (Xn 1 Z (Xi (((iH.getD k iK).side).toNat) Z ?_))
   have aI:=(bo.le (l.trans t))
   refine Xk (J (e.h (((iH.getD k iK).side).toNat))) Z aI (nX e (by omega)) (Xn 1 Z (Xk (J ((iH.getD k iK).am)) Z av Z (Xx 2 Z ?_)))
   by_cases c3:(e.h (((iH.getD k iK).side).toNat))<((iH.getD k iK).am)
   ·refine Cy Z (dT c3) (Rn 1 Z (Rt (E.jc (E.il (E.jc (E.il (E.il (E.jc (E.il ?_)))))))))
    have bD:=(o.le (d.trans (f.trans (l.trans t))))
    have bE:=(n.le (d.trans (f.trans (l.trans t))))
    have bF:=(B.le (d.trans (f.trans (l.trans t))))
    have bG:=(s.le (d.trans (f.trans (l.trans t))))
    refine E.iC Z Z ?_
    have e9:kJ ls (iH.take (k+1))=(lc,8):=(by rw[mR (by omega),hpt];unfold y7;rw[if_neg (by simp)];rw[if_neg (not_not_intro hlo),O];simp only;rw[if_pos c3]);have e8:kJ ls iH=(lc,8):=(by rw[oV (k:=k+1) (by rw[e9];simp),e9]);exact⟨aH,.inl ⟨by rw[e8];simp,by rw[e8],⟨bD,bE,bF,bG,D,x,F,y,H,C⟩⟩⟩
   refine Cn Z (dF c3) (WC.skip (E.jD (E.iM (Sq (WC.draw [0,1,2,3,4,5,6,7,8,9,10] mixed (by kernel_rfl) fun b7 K=>?_)))))
   have bH:=aH.le K
   refine Xn 1 Z ?_
   have aw:=(av.le K)
   refine Xk (J ((iH.getD k iK).side)) Z aw Z (Xn 1 Z (Xi (((iH.getD k iK).side).toNat) Z ?_))
   have aJ:=(aI.le K)
   refine Xk (J (e.h (((iH.getD k iK).side).toNat))) Z aJ (nX e (by omega)) (Xn 1 Z (Xk (J ((iH.getD k iK).am)) Z aw Z (Ga Z (.sub Z Z (by have:=hsh ((iH.getD k iK).side).toNat;omega)) (Xn 1 Z (Xi (((iH.getD k iK).side).toNat) Z (G.jR Z Z Z Z (Ef.store nC Z Z aJ (by simp[iI.len,-List.getD_eq_getElem?_getD];omega) Z ?_)))))))
   intro aK ax Q
   refine noT (by kernel_rfl) ?_
   have ax:ik aK P 52 (iV (e.setH (((iH.getD k iK).side).toNat) ((e.h (((iH.getD k iK).side).toNat))-((iH.getD k iK).am)))).toArray:=ax.cast (xf e ((e.h (((iH.getD k iK).side).toNat))-((iH.getD k iK).am)) (by omega))
   have _:=L6.size
   have bI:iX w aK (LF gp gs gh A c):=bH.ch Q (fun i hi hlt=>by cases hi;exact absurd hlt (by have:=aF;omega))
   refine Gx (Sq (WC.draw [0,1,2,3,4,5,6,7,8,9,10,11] mixed (by kernel_rfl) fun b8 L=>?_))
   have bJ:=bI.le L
   refine Xn 1 Z ?_
   have aL:P≠aC:=by have:=ai.lt;omega
   have ay:=((aw.cn Q aL).le L)
   refine Xk (J ((iH.getD k iK).side)) Z ay Z (Xp Z (Xn 1 Z (Xi ((1-((iH.getD k iK).side)).toNat) Z ?_)))
   have aM:=(ax.le L)
   refine Xk (J ((e.setH (((iH.getD k iK).side).toNat) ((e.h (((iH.getD k iK).side).toNat))-((iH.getD k iK).am))).h ((1-((iH.getD k iK).side)).toNat))) Z aM (nX (e.setH (((iH.getD k iK).side).toNat) ((e.h (((iH.getD k iK).side).toNat))-((iH.getD k iK).am))) (by omega)) (Xn 1 Z (Xk (J ((iH.getD k iK).am)) Z ay Z (Ga Z (.add Z Z (by rw[aaE (by omega) (by omega) (by omega)];have:=hsh (1-(iH.getD k iK).side).toNat;omega)) (Xn 1 Z (Xi ((1-((iH.getD k iK).side)).toNat) Z (G.jR Z Z Z Z (Ef.store nC Z Z aM (by simp[iI.len,-List.getD_eq_getElem?_getD];omega) Z ?_)))))))
   intro aN az R
   refine noT (by kernel_rfl) ?_
   have az:ik aN P 52 (iV ((e.setH (((iH.getD k iK).side).toNat) ((e.h (((iH.getD k iK).side).toNat))-((iH.getD k iK).am))).setH ((1-((iH.getD k iK).side)).toNat) (((e.setH (((iH.getD k iK).side).toNat) ((e.h (((iH.getD k iK).side).toNat))-((iH.getD k iK).am))).h ((1-((iH.getD k iK).side)).toNat))+((iH.getD k iK).am)))).toArray:=az.cast (xf (e.setH (((iH.getD k iK).side).toNat) ((e.h (((iH.getD k iK).side).toNat))-((iH.getD k iK).am))) (((e.setH (((iH.getD k iK).side).toNat) ((e.h (((iH.getD k iK).side).toNat))-((iH.getD k iK).am))).h ((1-((iH.getD k iK).side)).toNat))+((iH.getD k iK).am)) (by omega))
   have bK:iX w aN (LF gp gs gh A c):=bJ.ch R (fun i hi hlt=>by cases hi;exact absurd hlt (by have:=aF;omega))
   refine Gx (Rg (Yn 2 Z (Yk (J ((iH.getD k iK).ch)) Z (ay.cn R aL) Z (Yh Z az ?_))))
   have aO:P≠S:=by have:=au.lt;omega
   refine W.jR Z Z (Ef.F9 (key:=((iH.getD k iK).ch)) (u:=((e.setH (((iH.getD k iK).side).toNat) ((e.h (((iH.getD k iK).side).toNat))-((iH.getD k iK).am))).setH ((1-((iH.getD k iK).side)).toNat) (((e.setH (((iH.getD k iK).side).toNat) ((e.h (((iH.getD k iK).side).toNat))-((iH.getD k iK).am))).h ((1-((iH.getD k iK).side)).toNat))+((iH.getD k iK).am)))) underlying126 qG Z Z Z ((((au.le (f.trans (l.trans (t.trans K)))).cn Q aO).le L).cn R aO) Ig O fun bL bM Y=>?_)
   have bN:iX w bL (LF gp gs gh A c):=bK.ch Y (fun i hi hlt=>by cases hi;exact absurd hlt (by have:=L0.size;have:=aB;omega))
   refine W.nil (Lp 1 Z Z ?_)
   have _:=d.size
   have aP:P≠gp:=by have:=o.lt;omega
   have bO:=(((((o.le (d.trans (f.trans (l.trans (t.trans K))))).cn Q aP).le L).cn R aP).cn Y (by have:=ah.lt;omega))
   have bP:=(((((n.le (d.trans (f.trans (l.trans (t.trans K))))).cb Q (n.rn (by omega))).le L).cb R (n.rn (by omega))).cb Y (al.rn (by omega)))
   have aQ:P≠gs:=by have:=B.lt;omega
   have bQ:=(((((B.le (d.trans (f.trans (l.trans (t.trans K))))).cn Q aQ).le L).cn R aQ).cn Y (by have:=an.lt;omega))
   have aR:P≠gh:=by have:=s.lt;omega
   have bR:=(((((s.le (d.trans (f.trans (l.trans (t.trans K))))).cn Q aR).le L).cn R aR).cn Y (by have:=ao.lt;omega))
   refine E.again (k+1,(oJ (iH.getD k iK).ch (MG e (iH.getD k iK)) lc)) (.of Z) ?_ ?_
   ·exact⟨by omega,by rw[mR (by omega),hpt];unfold y7;rw[if_neg (by simp),if_neg (not_not_intro hlo),O];simp only;rw[if_neg c3],Uj hgc (Ui hsg hlo c3),bN,by have:=aW;have:=f.size;have:=l.size;have:=t.size;have:=K.size;have:=Q.size;have:=L.size;have:=R.size;have:=Y.size;omega,bO,bP,bQ,bR,bM⟩
   first|omega|(simp only[];omega)
  refine Cy Z (congrArg not (Bool.eq_false_iff.2 c1)) (Rn 1 Z (Rt (E.jc (E.il (E.jc (E.il (E.il (E.jc (E.il ?_)))))))))
  have bS:=(o.le (d.trans (f.trans l)))
  have bT:=(n.le (d.trans (f.trans l)))
  have bU:=(B.le (d.trans (f.trans l)))
  have bV:=(s.le (d.trans (f.trans l)))
  refine E.iC Z Z ?_
  have e9:kJ ls (iH.take (k+1))=(lc,1):=(by rw[mR (by omega),hpt];unfold y7;rw[if_neg (by simp)];rw[if_pos (fun hh:vF (iH.getD k iK)=>by obtain⟨⟨U,V⟩,X,m⟩:=hh;first|omega|(exact absurd (jY.2 ⟨by omega,m⟩) (by assumption)))]);have e8:kJ ls iH=(lc,1):=(by rw[oV (k:=k+1) (by rw[e9];simp),e9]);exact⟨aG,.inl ⟨by rw[e8];simp,by rw[e8],⟨bS,bT,bU,bV,D,x,F,y,H,C⟩⟩⟩
 refine Cn Z (dF c0) (Ex (Rr 4 Z (W.jR Z Z (Ef.store WL Z Z o (by first|decide|(simp;done)) Z ?_))))
 intro aS aA ak
 have aA:ik aS gp 129 #[.slice A own.length c,.map (some S),.map (some gh),J (lost)]:=aA
 have bW:iX w aS (LF gp gs gh A c):=ap.ch ak (fun i hi _=>by cases hi;exact Or.inl Z)
 refine Nx (Rn 1 Z (Rt ?_))
 have bX:=(n.ch ak (fun q hq=>by cases hq;exact y))
 have aT:gp≠S:=by have:=ah.lt;omega
 have bY:=(aq.cn ak aT)
 have bZ:=(s.ch ak (fun h=>x (oI h)))
 refine E.iC Z Z ?_
 have e8:kJ ls iH=(lc,0):=(by rw[List.take_of_length_le (by omega)]at hpt;exact hpt);exact⟨bW,.inr ⟨by rw[e8],rfl,S,(by have:=aB;have:=L0.size;omega),(by rw[e8];exact⟨aA,bX,bY,bZ,aT,x,(show S≠gh from by have:=ao.lt;omega),y,(al.rn (by omega)),C⟩)⟩⟩
def jq (d:jw):List Value:=[J d.a,J d.b]
theorem oW:kM jq 2:=⟨fun _=>rfl,fun x v hv=>by simp[jq]at hv;rcases hv with rfl|rfl<;>rfl,by decide⟩
theorem Lv (d:jw){j:Nat}(h:j<2):(jq d).toArray[0+j]? =some (J (d.ix j)):=by
 have:j=0\/j=1:=by omega
 rcases this with rfl|rfl<;>rfl
theorem CJ (d:jw){j:Nat}(h:j<2):(jq d).toArray[j]? =some (J (d.ix j)):=by
 have:j=0\/j=1:=by omega
 rcases this with rfl|rfl<;>rfl
theorem Uk {gh cs:Nat}{own:List Int}(w:World)(hL:mr w gp gs gh A c cs ck own ls lh lost)(hb:∀x∈lh,0<=x.2.2.am)(hw:∀x∈ls,0<=x.2.2.h0/\0<=x.2.2.h1)(ho:∀i:Nat,0<=uN own (i:Int))(hn:own.length<=1000)(ht:∀i:Nat,0<=mG own ls lh (i:Int)/\mG own ls lh (i:Int)<=2251799813685248):Calls prog 17 #[.pointer (some ⟨gp,0,none⟩)] w fun r w'=>r= .returned (J (tZ own ls lh own.length))/\Le w w':=by
 refine En func17 Z ?_
 have e:=Le.refl w
 refine Rn 1 Z (Rn 1 Z (Sq (Rr 3 Z (Yk (.slice A own.length c) Z (hL.hp.le e) Z (Yx 2 Z (Bk ?_))))))
 refine WC.loop (ι:=Nat) (fun k=>[(0,.pointer (some ⟨gp,0,none⟩)),(3,J (tZ own ls lh k)),(9,J (own.length:Int)),(10,J (k:Int))]) (fun k d=>(k<=own.length)/\(0<=tZ own ls lh k/\tZ own ls lh k<=2251799813685248*k)/\Le w d/\w.heap.size<=d.heap.size/\jk d uu mJ gs ls cs/\jk d Ff pY gh lh ck) (fun k=>own.length-k) 0 ?_ ?_ ?_
 ·exact .cons Z (.cons' Z (int_eq (by simp[tZ])) (.of Z))
 ·exact⟨Nat.zero_le _,by simp[tZ],e,Nat.le_refl _,(hL.hS.le e),(hL.hH.le e)⟩
 rintro k d ⟨hk,hs,j,m,n,o⟩
 have htk:=ht k
 refine Rn 1 Z (Sq ?_)
 by_cases l:(k:Int)<(own.length:Int)
 ·refine Cy Z (dT l) (Nb (Rn 2 Z (Rg (Yn 3 Z (Yc Z (J3 (k:Int) d (hL.le j) hb hw (ho k) (by omega)) fun y f=>?_)))))
  have s:=j.trans f
  refine Yp Z (Yn 1 Z (W.nil (Lp 1 Z Z ?_)))
  have t:=(n.le f)
  have u:=(o.le f)
  refine E.again (k+1) (.cons Z (.cons' Z (int_eq (by rw[EO])) (.of Z))) ?_ ?_
  ·exact⟨by omega,by rw[EO];omega,s,by have:=m;have:=f.size;omega,t,u⟩
  first|omega|(simp only[];omega)
 refine Cn Z (dF l) (Ex (Ry 2 Z Z Z ?_))
 have ek:k=own.length:=(by omega);subst ek;exact⟨rfl,j⟩
theorem Ul {gh cs:Nat}{own:List Int}(ch:Int)(fee:jw){s:Seat}(w:World)(hL:mr w gp gs gh A c cs ck own ls lh lost)(hb:∀x∈lh,0<=x.2.2.am)(hq:∀ch side,jA lh ch side<=1125899906842624)(hco:((0<=fee.a/\fee.a<=1125899906842624)/\0<=fee.b/\fee.b<=1125899906842624))(hs:iO ch ls=some s)(hbz:¬jA lh ch 0+jA lh ch 1=0):Calls prog 20 #[.pointer (some ⟨gp,0,none⟩),J ch,.agg (jq fee).toArray] w fun r w'=>iX w w' (LF gp gs gh A c)/\r= .returned (J 14)/\mr w' gp gs gh A c cs ck own ls lh lost:=by
 have L:=hL.hp
 have N:=hL.hO
 have O:=hL.hS
 have P:=hL.hH
 have l:=hL.ps
 have m:=hL.ph
 have n:=hL.sh
 have o:=hL.op
 have t:=hL.os
 have u:=hL.oh
 refine En func20 Z (Sr (Yv Z fun Q R Y (S:ik R Q 35 (jq fee).toArray) f=>Yx 1 Z (Rr 3 Z ?_)))
 have y:=(L.le f)
 refine Yk (.map (some gs)) Z y Z (Yn 1 Z ?_)
 rcases optG (iO ch ls)with k|⟨B,k⟩
 ·rw[hs]at k;cases k
 have C:=(O.le f)
 refine Wr (.as (.mV (key:=ch) underlying126 qG z52 Z Z C) (by rw[k]<;>rfl)) Z (Yn 1 Z (Wa (.extract (v:= .agg (iV B).toArray) Z Z) Z (Yn 1 Z (W.ab Z z52 wu (iI.one B) fun aa U ac ad d=>Yx 1 Z (Sq (Bk (Sr (Yi 0 Z ?_))))))))
 have D:=(S.le d)
 refine Yk (J fee.a) Z D Z (Yc Z (by have q:=tF fee.a U;rw[show og fee.a=true from jY.2 (by first|exact hco.1|exact hco.2)]at q;exact q) fun V e=>?_)
 refine Yn 2 Z (Yi 1 Z (Yk (J fee.b) Z (D.le e) Z (Yc Z (by have q:=tF fee.b V;rw[show og fee.b=true from jY.2 (by first|exact hco.1|exact hco.2)]at q;exact q) fun X i=>?_)))
 refine Yx 3 Z (Cf Z (Rn 3 Z (Cf Z (Rr 2 Z ?_))))
 have F:=(y.le (d.trans (e.trans i)))
 have H:=(N.le (f.trans (d.trans (e.trans i))))
 have I:=(C.le (d.trans (e.trans i)))
 have K:=(P.le (f.trans (d.trans (e.trans i))))
 refine Yc Z (by have q:=Oc ch X (mr.mk F H I K l m n o t u) hb (hq _ 0) (hq _ 1);rw[dF hbz]at q;exact q) fun ae j=>?_
 refine Yx 2 Z (Ct Z (Rn 1 Z (Rt (E.jc (E.il (E.iC Z Z ?_))))))
 exact⟨((((((iX.refl w (LF gp gs gh A c)).le f).le d).le e).le i).le j),rfl,⟨(F.le j),(H.le j),(I.le j),(K.le j),l,m,n,o,t,u⟩⟩
theorem Ih {d:Int}:og (max d (Ld d))=true↔ -1125899906842624<=d/\d<=1125899906842624:=by
 rw[jY]
 unfold Ld
 split<;>omega
theorem Qe {gh cs:Nat}{own:List Int}(ch:Int)(d fee:jw)(w:World)(hL:mr w gp gs gh A c cs ck own ls lh lost)(hd:∀k,k<2-> -9223372036854775808<=d.ix k/\d.ix k<=9223372036854775807)(hs:∀x∈ls,o7 own.length x.2.2)(hw:∀i,0<=own.getD i 0/\own.getD i 0<=1125899906842624)(hl:0<=lost/\lost<=1125899906842624):Calls prog 23 #[.pointer (some ⟨gp,0,none⟩),J ch,.agg (jq d).toArray,.agg (jq fee).toArray] w fun r w'=>iX w w' (LF gp gs gh A c)/\((¬Pm d fee/\r= .returned (J 1)/\mr w' gp gs gh A c cs ck own ls lh lost)\/(Pm d fee/\iO ch ls=none/\r= .returned (J 5)/\mr w' gp gs gh A c cs ck own ls lh lost)\/(Pm d fee/\∃s,iO ch ls=some s/\(((∃k,k<2/\BC own s d fee k)/\r= .returned (J 8)/\mr w' gp gs gh A c cs ck own ls lh lost)\/((∀k,k<2->¬BC own s d fee k)/\r= .returned (J 0)/\mr w' gp gs gh A c cs ck (ZQ own (qm s d 2) d fee 2) (oJ ch (qm s d 2) ls) lh (yg lost fee 2))))):=by
 have ax:=hL.hp
 have aj:=hL.hO
 have aT:=hL.hS
 have aU:=hL.hH
 have F:=hL.ps
 have O:=hL.ph
 have P:=hL.sh
 have Q:=hL.op
 have H:=hL.os
 have R:=hL.oh
 refine En func23 Z (Sr (Yv Z fun ac aV bw (aW:ik aV ac 35 (jq d).toArray) S=>Yv Z fun I ay bx (aX:ik ay I 35 (jq fee).toArray) X=>Yx 1 Z (Sq (Sr ?_))))
 have f3:=(aW.le X)
 refine Yh Z f3 (Yx 1 Z (Bk ?_))
 refine WC.loop (ι:=Nat) (fun k=>[(0,.pointer (some ⟨gp,0,none⟩)),(1,J ch),(6,.pointer (some ⟨ac,0,none⟩)),(7,.pointer (some ⟨I,0,none⟩)),(17,.agg (jq d).toArray),(18,J (k:Int))]) (fun k t=>(k<=2)/\(∀i,i<k->(-1125899906842624<=d.ix i/\d.ix i<=1125899906842624)/\0<=fee.ix i/\fee.ix i<=1125899906842624)/\iX w t (LF gp gs gh A c)/\ay.heap.size<=t.heap.size/\ik t gp 129 #[.slice A own.length c,.map (some gs),.map (some gh),J (lost)]/\iy t 0 3 iv 1 A own.length c own/\jk t uu mJ gs ls cs/\jk t Ff pY gh lh ck/\ik t ac 35 (jq d).toArray/\ik t I 35 (jq fee).toArray) (fun k=>2-k) 0 ?_ ?_ ?_
 ·exact .of Z
 ·exact⟨Nat.zero_le _,fun i hi=>by omega,(((iX.refl w (LF gp gs gh A c)).le S).le X),Nat.le_refl _,(ax.le (S.trans X)),(aj.le (S.trans X)),(aT.le (S.trans X)),(aU.le (S.trans X)),f3,aX⟩
 rintro k t ⟨hk,hall,ae,aY,B,K,y,L,ak,al⟩
 refine Rn 1 Z (Sq ?_)
 by_cases c0:(k:Int)<2
 ·refine Cy Z (dT c0) (Nb (Rr 1 Z (Wa (.xQ (v:= J (d.ix k)) k underlying35 nC yH Z Z Z (by omega) (CJ d (by omega))) Z (Yx 2 Z (Rr 2 Z (Wa (.Ld underlying3 Z (hd k (by omega))) Z (Wr (.max2 Z Z) Z (Yc Z (tF (max (d.ix k) (Ld (d.ix k))) t) fun aZ j=>?_))))))))
  have L8:=ae.le j
  refine Yn 1 Z ?_
  by_cases az:(og (max (d.ix k) (Ld (d.ix k))))=true
  ·refine Yq 1 Z (congrArg not az) (Yn 1 Z (Yi k Z ?_))
   have f9:=(al.le j)
   refine Yk (J (fee.ix k)) Z f9 (Lv fee (by omega)) (Yc Z (tF (fee.ix k) aZ) fun bz n=>?_)
   have aA:=L8.le n
   refine Yx 2 Z ?_
   by_cases c1:(og (fee.ix k))=true
   ·refine Cn Z (congrArg not c1) (WC.skip (Lp 1 Z Z (E.again (k+1) (.of Z) ?_ ?_)))
    ·exact⟨by omega,fun i hi=>(Nat.lt_succ_iff_lt_or_eq.1 hi).elim (hall i) (fun hh=>by subst hh;exact⟨Ih.1 (by assumption),jY.1 (by assumption)⟩),aA,by have:=aY;have:=j.size;have:=n.size;omega,(B.le (j.trans n)),(K.le (j.trans n)),(y.le (j.trans n)),(L.le (j.trans n)),(ak.le (j.trans n)),(f9.le n)⟩
    first|omega|(simp only[];omega)
   refine Cy Z (congrArg not (Bool.eq_false_iff.2 c1)) (Rn 1 Z (Rt (E.jc (E.il (E.il (E.jc (E.il (E.iC Z Z ?_))))))))
   exact⟨aA,.inl ⟨(fun h=>by have hh:=h k (by omega);first|(exact absurd (Ih.2 hh.1) (by assumption))|(exact absurd (jY.2 hh.2) (by assumption))),rfl,⟨(B.le (j.trans n)),(K.le (j.trans n)),(y.le (j.trans n)),(L.le (j.trans n)),F,O,P,Q,H,R⟩⟩⟩
  refine Yq 1 Z (congrArg not (Bool.eq_false_iff.2 az)) (Yx 6 Z (Ct Z (Rn 1 Z (Rt (E.jc (E.il (E.il (E.jc (E.il ?_)))))))))
  refine E.iC Z Z ?_
  exact⟨L8,.inl ⟨(fun h=>by have hh:=h k (by omega);first|(exact absurd (Ih.2 hh.1) (by assumption))|(exact absurd (jY.2 hh.2) (by assumption))),rfl,⟨(B.le j),(K.le j),(y.le j),(L.le j),F,O,P,Q,H,R⟩⟩⟩
 refine Cn Z (dF c0) (Ex (Sr ?_))
 have hok:Pm d fee:=fun i hi=>hall i (by omega)
 refine Yn 3 Z (Yk (.map (some gs)) Z B Z (Yn 1 Z ?_))
 rcases optG (iO ch ls)with C|⟨e,C⟩
 ·refine Wr (.as (.mV (key:=ch) underlying126 qG z52 Z Z y) (by rw[C]<;>rfl)) Z (Yn 1 Z (Wa (.extract (v:= .agg (iV iB).toArray) Z Z) Z (Yn 1 Z (W.ab Z z52 wu (iI.one iB) fun bA bB bC bD ad=>Yx 1 Z (Sq (Rn 2 Z (Ct Z (Rn 1 Z ?_))))))))
  refine Rt (E.il (E.iC Z Z ?_))
  exact⟨(ae.le ad),.inr (.inl ⟨hok,C,rfl,⟨(B.le ad),(K.le ad),(y.le ad),(L.le ad),F,O,P,Q,H,R⟩⟩)⟩
 obtain⟨bh,Vt⟩:=pU C
 have hso:o7 own.length e:=hs _ Vt
 refine Wr (.as (.mV (key:=ch) underlying126 qG z52 Z Z y) (by rw[C]<;>rfl)) Z (Yn 1 Z (Wa (.extract (v:= .agg (iV e).toArray) Z Z) Z (Yn 1 Z (W.ab Z z52 wu (iI.one e) fun U aB a0 (a1:ik aB U 52 (iV e).toArray) V=>Yx 1 Z (Sq (Rn 2 Z (Cf Z (Sn ?_))))))))
 refine Sq (Sr ?_)
 have aC:=(ak.le V)
 refine Yh Z aC (Yx 1 Z (Bk ?_))
 refine WC.loop (ι:=Nat) (fun k2=>[(0,.pointer (some ⟨gp,0,none⟩)),(1,J ch),(6,.pointer (some ⟨ac,0,none⟩)),(7,.pointer (some ⟨I,0,none⟩)),(11,.pointer (some ⟨U,0,none⟩)),(47,.agg (jq d).toArray),(48,J (k2:Int))]) (fun k2 o=>(k2<=2)/\(∀i,i<k2->¬BC own e d fee i)/\iX w o (LF gp gs gh A c)/\aB.heap.size<=o.heap.size/\ik o gp 129 #[.slice A own.length c,.map (some gs),.map (some gh),J (lost)]/\iy o 0 3 iv 1 A own.length c own/\jk o uu mJ gs ls cs/\jk o Ff pY gh lh ck/\ik o ac 35 (jq d).toArray/\ik o I 35 (jq fee).toArray/\ik o U 52 (iV (qm e d k2)).toArray) (fun k2=>2-k2) 0 ?_ ?_ ?_
 ·exact .of Z
 ·exact⟨Nat.zero_le _,fun i hi=>by omega,(ae.le V),Nat.le_refl _,(B.le V),(K.le V),(y.le V),(L.le V),aC,(al.le V),a1⟩
 rintro k2 o ⟨bE,hno,aD,a2,an,ao,af,ah,aE,aF,ap⟩
 have aG:=hok k2
 have hse:=fun h=>(jH hso (k:=k2) h)
 refine Rn 1 Z (Sq ?_)
 by_cases c3:(k2:Int)<2
 ·refine Cy Z (dT c3) (Nb (Rr 1 Z (Wa (.xQ (v:= J (d.ix k2)) k2 underlying35 nC yH Z Z Z (by omega) (CJ d (by omega))) Z (Yx 2 Z (Rr 2 Z (Yi k2 Z (Yk (J ((qm e d k2).h k2)) Z ap (nX (qm e d k2) (by omega)) (Yn 1 Z (Wa (.add Z Z (by rw[KO (by omega)];have:=hse (by omega);have:=aG (by omega);omega)) Z ?_)))))))))
  refine Yn 1 Z (Yi k2 Z (W.jR Z Z (Ef.store nC Z Z ap (by simp[iI.len,-List.getD_eq_getElem?_getD];omega) Z ?_)))
  intro aH aq m
  have aq:ik aH U 52 (iV ((qm e d k2).setH k2 (((qm e d k2).h k2)+(d.ix k2)))).toArray:=aq.cast (xf (qm e d k2) (((qm e d k2).h k2)+(d.ix k2)) (by omega))
  have a3:iX w aH (LF gp gs gh A c):=aD.ch m (fun i hi hlt=>by cases hi;exact absurd hlt (by have:=ae.size;have:=a0;omega))
  refine Nx (Sq (WC.draw [0,1,2,3,4,5,6,7,8,9,10,11,12,13,14,15,16,17,18,19,20,21,22] mixed (by kernel_rfl) fun bF l=>?_))
  have ar:=a3.le l
  refine Xn 2 Z (Xi k2 Z ?_)
  have au:=(aq.le l)
  refine Xk (J (((qm e d k2).setH k2 (((qm e d k2).h k2)+(d.ix k2))).h k2)) Z au (nX ((qm e d k2).setH k2 (((qm e d k2).h k2)+(d.ix k2))) (by omega)) (Xn 1 Z ?_)
  by_cases aI:(((qm e d k2).setH k2 (((qm e d k2).h k2)+(d.ix k2))).h k2)<0
  ·refine Xq 1 Z (dT aI) (Xx 17 Z (Ct Z (Rn 1 Z (Rt (E.jc (E.il (E.il (E.jc (E.il ?_)))))))))
   have a4:=((ao.cb m (K.rn (by omega))).le l)
   have a5:=((an.cn m (by have:=B.lt;omega)).le l)
   have a6:=((af.cn m (by have:=y.lt;omega)).le l)
   have a7:=((ah.cn m (by have:=L.lt;omega)).le l)
   refine E.iC Z Z ?_
   exact⟨ar,.inr (.inr ⟨hok,_,C,.inl ⟨⟨k2,by omega,(by unfold BC;simp only[yN (show k2<2 by omega),KO (show k2<2 by omega),GG,vU]at*;omega)⟩,rfl,⟨a5,a4,a6,a7,F,O,P,Q,H,R⟩⟩⟩)⟩
  refine Xq 1 Z (dF aI) (Xn 3 Z ?_)
  have av:=((an.cn m (by have:=B.lt;omega)).le l)
  refine Xk (.slice A own.length c) Z av Z (Xn 2 Z (Xi k2 Z (Xk (J (((qm e d k2).setH k2 (((qm e d k2).h k2)+(d.ix k2))).p k2)) Z au (N9 ((qm e d k2).setH k2 (((qm e d k2).h k2)+(d.ix k2))) (by omega)) (F7 Z (.MO ((e.p k2).toNat) underlying48 nC Z Z (aj.vec.isSome iQ (by omega)) (by rw[GG,vU];have:=(hse (by omega)).1;omega) (by have:=(hse (by omega)).1;omega)) ?_))))
  have aw:=((ao.cb m (K.rn (by omega))).le l)
  refine Gdg Z (.o9 (v:= J (own.getD ((e.p k2).toNat) 0)) yH Z aw.vec iQ (jN own 0 (by omega)) Z) (Xn 2 Z (Xi k2 Z ?_))
  have aJ:=((aF.cn m (by have:=al.lt;omega)).le l)
  refine Xk (J (fee.ix k2)) Z aJ (Lv fee (by omega)) (F7 Z (.add Z Z (by have:=aG (by omega);omega)) (Xx 2 Z ?_))
  by_cases c4:(own.getD ((e.p k2).toNat) 0)<((d.ix k2)+(fee.ix k2))
  ·refine Cy Z (dT c4) (Rn 1 Z (Rt (E.jc (E.il (E.il (E.jc (E.il ?_)))))))
   have a8:=((af.cn m (by have:=y.lt;omega)).le l)
   have a9:=((ah.cn m (by have:=L.lt;omega)).le l)
   refine E.iC Z Z ?_
   exact⟨ar,.inr (.inr ⟨hok,_,C,.inl ⟨⟨k2,by omega,(by unfold BC;simp only[yN (show k2<2 by omega),KO (show k2<2 by omega),GG,vU]at*;omega)⟩,rfl,⟨av,aw,a8,a9,F,O,P,Q,H,R⟩⟩⟩)⟩
  refine Cn Z (dF c4) (WC.skip (Lp 1 Z Z ?_))
  have ba:=((af.cn m (by have:=y.lt;omega)).le l)
  have bb:=((ah.cn m (by have:=L.lt;omega)).le l)
  have bc:=((aE.cn m (by have:=ak.lt;omega)).le l)
  refine E.again (k2+1) (.of Z) ?_ ?_
  ·exact⟨by omega,fun i hi=>(Nat.lt_succ_iff_lt_or_eq.1 hi).elim (hno i) (fun hh=>by subst hh;unfold BC;simp only[yN (show i<2 by omega),KO (show i<2 by omega),GG,vU]at*;omega),ar,by have:=a2;have:=m.size;have:=l.size;omega,av,aw,ba,bb,bc,aJ,au⟩
  first|omega|(simp only[];omega)
 refine Cn Z (dF c3) (Ex (Sq (Sr (Yh Z aE (Yx 1 Z (Bk ?_))))))
 refine WC.loop (ι:=Nat) (fun f=>[(0,.pointer (some ⟨gp,0,none⟩)),(1,J ch),(7,.pointer (some ⟨I,0,none⟩)),(11,.pointer (some ⟨U,0,none⟩)),(84,.agg (jq d).toArray),(85,J (f:Int))]) (fun f D=>(f<=2)/\iX w D (LF gp gs gh A c)/\o.heap.size<=D.heap.size/\ik D gp 129 #[.slice A own.length c,.map (some gs),.map (some gh),J (yg lost fee f)]/\iy D 0 3 iv 1 A own.length c (ZQ own (qm e d k2) d fee f)/\jk D uu mJ gs ls cs/\jk D Ff pY gh lh ck/\ik D I 35 (jq fee).toArray/\ik D U 52 (iV (qm e d k2)).toArray) (fun f=>2-f) 0 ?_ ?_ ?_
 ·exact .of Z
 ·exact⟨Nat.zero_le _,aD,Nat.le_refl _,an,ao,af,ah,aF,ap⟩
 rintro f D ⟨bd,aK,be,aL,aM,aN,aO,bf,aP⟩
 have hfl:=VH (lost:=lost) (fee:=fee) bd hl (hok 0 (by omega)).2 (hok 1 (by omega)).2
 refine Rn 1 Z (Sq ?_)
 by_cases c5:(f:Int)<2
 ·refine Cy Z (dT c5) (Nb (Rr 1 Z (Wa (.xQ (v:= J (d.ix f)) f underlying35 nC yH Z Z Z (by omega) (CJ d (by omega))) Z (Yx 2 Z (WC.draw [0,1,2,3,4,5,6,7] mixed (by kernel_rfl) fun bg N=>Xn 1 Z ?_)))))
  have aQ:=(aP.le N)
  refine Xh Z aQ (Xn 3 Z (Xi f Z ?_))
  have aR:=(bf.le N)
  refine Xk (J (fee.ix f)) Z aR (Lv fee (by omega)) (Xd Z (Lu (own:=(ZQ own (qm e d k2) d fee f)) (lost:=(yg lost fee f)) (qm e d k2) f (d.ix f) (fee.ix f) bg (aL.le N) (aM.le N) Q (by omega) (by rw[vU];exact(jH hso (by omega)).1) (by have:=(hok f (by omega)).1;omega) ((hok f (by omega)).2) (by rw[acW (by omega) (by rw[vU];exact hso.1.1) (by rw[vU];exact hso.2.1.1) (by rw[vU,vU];exact hso.2.2.1)];have:=hw ((qm e d k2).p f).toNat;omega) (by omega)) ?_)
  rintro _ bG ⟨rfl,bi,bj,Y⟩
  refine noT (by kernel_rfl) ?_
  have bk:=(aK.le N).sub Y (fun i hi hlt=>Or.elim hi (fun hi=>(by subst hi;exact Or.inl Z)) (fun hi=>((fun i hi=>Or.inr (Or.inr (Or.inr hi))) i hi)))
  refine G.nil (Lp 1 Z Z ?_)
  have _:=S.size
  have bl:=(aR.ji Y (fun hF=>Or.elim hF (fun hF=>(show I≠gp from by have:=ax.lt;omega) hF) (fun hF=>(aj.rn (by omega)) hF)))
  have bm:=(aQ.ji Y (fun hF=>Or.elim hF (fun hF=>(show U≠gp from by have:=B.lt;omega) hF) (fun hF=>(K.rn (by omega)) hF)))
  refine E.again (f+1) (.of Z) ?_ ?_
  ·exact⟨by omega,bk,by have:=be;have:=N.size;have:=Y.size;omega,bi,bj,((aN.le N).ji Y (fun hF=>Or.elim hF (fun hF=>(Ne.symm F) hF) (fun hF=>H hF))),((aO.le N).ji Y (fun hF=>Or.elim hF (fun hF=>(Ne.symm O) hF) (fun hF=>R hF))),bl,bm⟩
  first|omega|(simp only[];omega)
 refine Cn Z (dF c5) (Ex (Sq (WC.draw [0,1,2,3,4,5,6] mixed (by kernel_rfl) fun bH aa=>?_)))
 have bn:=aK.le aa
 refine Xn 3 Z ?_
 have aS:=(aL.le aa)
 refine Xk (.map (some gs)) Z aS Z (Xn 1 Z (Xh Z (aP.le aa) (G.jR Z Z Z Z (Ef.F9 (key:=ch) (u:=(qm e d k2)) underlying126 qG Z Z Z (aN.le aa) Ig C fun bo bp ai=>noT (by kernel_rfl) ?_))))
 have bq:iX w bo (LF gp gs gh A c):=bn.ch ai (fun i hi _=>by cases hi;exact Or.inr (Or.inl Z))
 refine Gx (Rn 1 Z (Rt ?_))
 have bs:=((aM.le aa).ch ai (fun q hq=>by cases hq;exact H))
 have bt:=(aS.ch ai (fun h=>(Ne.symm F) (oI h)))
 have bu:=((aO.le aa).ch ai (fun h=>P (oI h)))
 refine E.iC Z Z ?_
 have bv:k2=2:=(by omega);subst bv;have ek:f=2:=(by omega);subst ek;exact⟨bq,.inr (.inr ⟨hok,_,C,.inr ⟨(fun i hi=>hno i (by omega)),rfl,⟨(by rw[KP];exact bt),(by rw[KP];exact bs),bp,bu,F,O,P,Q,H,R⟩⟩⟩)⟩
theorem aid (D a n out:Nat)(h:n%2=1):((out+a)%D+(a+a)%D*(n/2))%D=(out+a*n)%D:=by
 have e:a*n=a+(a+a)*(n/2):=by
  have c:n=2*(n/2)+1:=by omega
  conv=>lhs;rw[c]
  rw[Nat.mul_add,Nat.mul_one,<-Nat.mul_assoc,Nat.mul_two,Nat.add_comm]
 rw[e,<-Nat.add_assoc,Nat.add_mod,Nat.mod_mod,Nat.mul_mod,Nat.mod_mod,<-Nat.mul_mod,<-Nat.add_mod]
theorem aie (D a n out:Nat)(h:¬n%2=1):(out+(a+a)%D*(n/2))%D=(out+a*n)%D:=by
 have e:a*n=(a+a)*(n/2):=by
  have c:n=2*(n/2):=by omega
  conv=>lhs;rw[c]
  rw[<-Nat.mul_assoc,Nat.mul_two]
 rw[e,Nat.add_mod,Nat.mul_mod,Nat.mod_mod,<-Nat.mul_mod,<-Nat.add_mod]
theorem aaH (D a out:Nat)(h:out<D):(out+a*0)%D=out:=by rw[Nat.mul_zero,Nat.add_zero,Nat.mod_eq_of_lt h]
def qH (n b m:Nat):Nat:=(2^(8-m)*n+b/2^m)%2305843009213688668
theorem aaI (n b m:Nat):qH n b m<2305843009213688668:=Nat.mod_lt _ (by decide)
theorem Qf (n b:Nat)(hn:n<2305843009213688668)(hb:b<256):n=qH n b 8:=by
 rw[qH,Nat.div_eq_of_lt (by simpa using hb),Nat.sub_self,Nat.pow_zero,Nat.one_mul,Nat.add_zero,Nat.mod_eq_of_lt hn]
theorem Um (n b m:Nat)(h1:0<m)(h8:m<=8):(2*qH n b m+b/2^(m-1)%2)%2305843009213688668=qH n b (m-1):=by
 have e1:2^(8-(m-1))=2*2^(8-m):=by rw[show 8-(m-1)=(8-m)+1 by omega,Nat.pow_succ,Nat.mul_comm]
 have e2:b/2^(m-1)=2*(b/2^m)+b/2^(m-1)%2:=by
  have:b/2^m=b/2^(m-1)/2:=by rw[Nat.div_div_eq_div_mul,<-Nat.pow_succ,show(m-1).succ=m by omega]
  rw[this];omega
 have e3:2^(8-(m-1))*n+b/2^(m-1)=2*(2^(8-m)*n+b/2^m)+b/2^(m-1)%2:=by
  rw[e1,Nat.mul_add,Nat.mul_assoc,Nat.add_assoc,<-e2]
 rw[qH,qH,e3,Nat.add_mod,Nat.mul_mod,Nat.mod_mod,<-Nat.mul_mod,<-Nat.add_mod]
theorem XE (n b:Nat):qH n b 0=(256*n+b)%2305843009213688668:=by rw[qH,Nat.pow_zero,Nat.div_one]
theorem DX (a b:Nat)(ha:a<M)(hb:b<18446744073709551616)(w:World):Calls prog 228 #[.int .u64 (a:Int),.int .u64 (b:Int)] w fun e w'=>e= .returned (.int .u64 ((a*b%M:Nat):Int))/\Le w w':=by
 refine En func228 Z (Rn 1 Z (Rn 1 Z (Sq (Bk (WC.loop (ι:=Nat×Nat×Nat) (fun⟨x,y,out⟩=>[(0,.int .u64 (x:Int)),(1,.int .u64 (y:Int)),(5,.int .u64 (out:Int))]) (fun⟨x,y,out⟩ wl=>Le w wl/\x<4611686018427377339/\y<18446744073709551616/\out<4611686018427377339/\(out+x*y)%4611686018427377339=a*b%4611686018427377339) (fun⟨x,y,out⟩=>y) (a,b,0) ?_ ?_ ?_)))))
 ·exact .of Z
 ·exact⟨(Le.refl w),ha,hb,by decide,by rw[Nat.zero_add]⟩
 rintro⟨x,y,out⟩ wl ⟨Ll,hx,hy,ho,hi⟩
 refine Sq (Rn 2 Z (WC.cond Z (fun c=>?_) (fun c=>?_)))
 ·refine Sn (Bk (Sq (Rr 1 Z (Wa (.BQ y 2 (y%2) Z Z Z Z (by decide) Z) Z (Yx 1 Z (WC.cond Z (fun d=>?_) (fun d=>?_)))))))
  ·refine Rg (Yn 2 Z (Wa (.addN out x (out+x) Z Z Z Z (Nat.mod_eq_of_lt (by omega))) Z (Wa (.BQ (out+x) 4611686018427377339 ((out+x)%4611686018427377339) Z Z Z Z (by decide) Z) Z (Yx 1 Z (Rr 2 Z (Wa (.addN x x (x+x) Z Z Z Z (Nat.mod_eq_of_lt (by omega))) Z (Wa (.BQ (x+x) 4611686018427377339 ((x+x)%4611686018427377339) Z Z Z Z (by decide) Z) Z (Yx 1 Z (Rg ?_)))))))))
   refine Yn 1 Z (Wa (.Py y 2 (y/2) Z Z Z Z (by omega) (by omega) Z) Z (Yn 1 Z (W.nil (E.jD (E.again ((x+x)%4611686018427377339,y/2,(out+x)%4611686018427377339) (.of Z) ?_ ?_)))))
   ·exact⟨Ll,Nat.mod_lt _ (by decide),by omega,Nat.mod_lt _ (by decide),by rw[aid _ x y out (by omega)];exact hi⟩
   first|omega|(simp only[];omega)
  refine Sn (Rr 2 Z (Wa (.addN x x (x+x) Z Z Z Z (Nat.mod_eq_of_lt (by omega))) Z (Wa (.BQ (x+x) 4611686018427377339 ((x+x)%4611686018427377339) Z Z Z Z (by decide) Z) Z (Yx 1 Z (Rg (Yn 1 Z (Wa (.Py y 2 (y/2) Z Z Z Z (by omega) (by omega) Z) Z (Yn 1 Z (W.nil ?_)))))))))
  refine E.jD ?_
  refine E.again ((x+x)%4611686018427377339,y/2,out) (.of Z) ?_ ?_
  ·exact⟨Ll,Nat.mod_lt _ (by decide),by omega,ho,by rw[aie _ x y out (by omega)];exact hi⟩
  first|omega|(simp only[];omega)
 have f:y=0:=by omega
 subst f
 rw[aaH _ _ _ ho]at hi
 refine Ex (Rn 2 Z (Rt (E.mP Z Z ?_)))
 exact⟨by rw[hi];rfl,Ll⟩
theorem J6 (a n:Nat)(ha:a<M)(hn:n<18446744073709551616)(w:World):Calls prog 202 #[.int .u64 (a:Int),.int .u64 (n:Int)] w fun e w'=>e= .returned (.int .u64 (pw a n:Int))/\Le w w':=by
 refine En func202 Z (Rn 1 Z (Rn 1 Z (Sq (Bk (WC.loop (ι:=Nat×Nat×Nat) (fun⟨b,m,out⟩=>[(0,.int .u64 (b:Int)),(1,.int .u64 (m:Int)),(5,.int .u64 (out:Int))]) (fun⟨b,m,out⟩ wl=>Le w wl/\b<M/\m<18446744073709551616/\out<M/\out*b^m%M=pw a n) (fun⟨b,m,out⟩=>m) (a,n,1) ?_ ?_ ?_)))))
 ·exact .of Z
 ·exact⟨(Le.refl w),ha,hn,Gw,MB a n hn⟩
 rintro⟨b,m,out⟩ wl ⟨Ll,hb,hm,ho,hi⟩
 refine Sq (Rn 2 Z (WC.cond Z (fun i=>?_) (fun i=>?_)))
 ·have c:b<18446744073709551616:=Nat.lt_trans hb (by decide)
  refine Sn (Bk (Sq (Rr 1 Z (Wa (.BQ m 2 (m%2) Z Z Z Z (by decide) Z) Z (Yx 1 Z (WC.cond Z (fun j=>?_) (fun j=>?_)))))))
  ·refine Rg (Yn 2 Z (Yc Z (DX out b ho c wl) fun k l=>?_))
   have o:=Ll.trans l
   refine Yx 1 Z (Rr 2 Z (Yc Z (DX b b hb c k) fun s d=>?_))
   have f:=o.trans d
   refine Yx 1 Z (Rg (Yn 1 Z (Wa (.Py m 2 (m/2) Z Z Z Z (by omega) (by omega) Z) Z (Yn 1 Z (W.nil (E.jD (E.again (b*b%M,m/2,out*b%M) (.of Z) ?_ ?_)))))))
   ·exact⟨f,Nat.mod_lt _ (by decide),by omega,Nat.mod_lt _ (by decide),by rw[step1 b m out (by omega)];exact hi⟩
   first|omega|(simp only[];omega)
  refine Sn (Rr 2 Z (Yc Z (DX b b hb c wl) fun s d=>?_))
  have f:=Ll.trans d
  refine Yx 1 Z (Rg (Yn 1 Z (Wa (.Py m 2 (m/2) Z Z Z Z (by omega) (by omega) Z) Z (Yn 1 Z (W.nil (E.jD (E.again (b*b%M,m/2,out) (.of Z) ?_ ?_)))))))
  ·exact⟨f,Nat.mod_lt _ (by decide),by omega,ho,by rw[step0 b m out (by omega)];exact hi⟩
  first|omega|(simp only[];omega)
 have t:m=0:=by omega
 subst t
 rw[VB b out ho]at hi
 refine Ex (Rn 2 Z (Rt (E.mP Z Z ?_)))
 exact⟨by rw[hi],Ll⟩
theorem Ii (p:Nat)(hp:p<18446744073709551616)(w:World):Calls prog 155 #[.int .u64 (p:Int)] w fun e w'=>e= .returned (.bool (right p))/\Le w w':=by
 refine En func155 Z ?_
 have c:=Le.refl w
 refine Rn 1 Z (Rr 1 Z ?_)
 by_cases f:0<p
 ·refine Yt 1 Z (Yn 2 Z ?_)
  by_cases d:p<4611686018427377339
  ·refine Yt 1 Z (Yn 3 Z (Yc Z (J6 p 2305843009213688669 d (by decide) w) fun k i=>?_))
   have j:=c.trans i
   refine Yx 3 Z (Rt (E.mP Z Z ?_))
   exact⟨by rw[right,dT f,dT (show p<M from d),Bool.true_and,Bool.true_and,<-agv];rfl,j⟩
  refine Yf 1 Z (Yx 7 Z (Rt (E.mP Z Z ?_)))
  exact⟨by rw[right,dF (show¬p<M from d),Bool.and_false,Bool.false_and],c⟩
 refine Yf 1 Z (Yx 10 Z (Rt (E.mP Z Z ?_)))
 exact⟨by rw[right,dF f,Bool.false_and,Bool.false_and],c⟩
theorem Un (p:Nat)(hp:p<18446744073709551616)(w:World):Calls prog 203 #[.int .u64 (p:Int)] w fun e w'=>e= .returned (.int .u64 (taken p:Int))/\Le w w':=by
 refine En func203 Z ?_
 have f:=Le.refl w
 refine Rn 1 Z (Sq (Rr 1 Z (Yc Z (Ii p hp w) fun j i=>?_)))
 have d:=f.trans i
 refine Nx (WC.yh Z (fun c=>?_) (fun c=>?_))
 ·refine Rn 2 Z (Rt (E.il (E.mP Z Z ?_)))
  exact⟨by rw[taken,if_pos c],d⟩
 refine Sn (Rn 1 Z (Rt (E.mP Z Z ?_)))
 exact⟨by rw[taken,if_neg (by rw[c];simp)];rfl,d⟩
theorem aaJ (p:Nat):taken p<M:=((oP _).1 (vD p)).2.1
theorem Uo (p k:Nat)(hp:p<18446744073709551616)(w:World):Calls prog 151 #[.int .u64 (p:Int),.int .u64 (k:Int)] w fun e w'=>e= .returned (.int .u64 (scale p k:Int))/\Le w w':=by
 refine En func151 Z ?_
 have c:=Le.refl w
 refine Rn 1 Z (Rr 1 Z (Yc Z (Un p hp w) fun d f=>?_))
 have i:=c.trans f
 refine Yn 1 Z (Wa (.BQ k 2305843009213688669 (k%2305843009213688669) Z Z Z Z (by decide) Z) Z (Yc Z (J6 (taken p) (k%2305843009213688669) (aaJ p) (by omega) d) fun m j=>?_))
 have l:=i.trans j
 refine Yx 1 Z (Rt (E.mP Z Z ?_))
 exact⟨rfl,l⟩
theorem zi (k:Nat)(w:World):Calls prog 101 #[.int .u64 (k:Int)] w fun e w'=>e= .returned (.int .u64 (base k:Int))/\Le w w':=by
 refine En func101 Z ?_
 have c:=Le.refl w
 refine Rn 1 Z (Rr 1 Z (Yc Z (Uo 4 k (by decide) w) fun i d=>?_))
 have f:=c.trans d
 refine Yx 1 Z (Rt (E.mP Z Z ?_))
 exact⟨rfl,f⟩
theorem XF (h:List (BitVec 8))(hh:h.length=32)(w:World):Calls prog 99 #[.agg (h.map jf).toArray] w fun e w'=>e= .returned (.int .u64 (kD h:Int))/\Le w w':=by
 refine En func99 Z ?_
 have i:=Le.refl w
 refine Sr (Yv Z fun c d t j f=>?_)
 have u:=i.trans f
 refine Yx 1 Z (Rn 1 Z (Sq (Rn 1 Z (Bk (WC.loop (ι:=Nat) (fun k=>[(1,.pointer (some ⟨c,0,none⟩)),(3,.int .u64 (ku 0 (h.take k):Int)),(4,J (k:Int))]) (fun k wl=>k<=32/\Le d wl) (fun k=>32-k) 0 ?_ ?_ ?_)))))
 ·exact .of Z
 ·exact⟨by omega,Le.refl _⟩
 rintro k wl ⟨hk,Ll⟩
 have hlt:ku 0 (h.take k)<2305843009213688668:=zK _ 0 (by decide)
 refine Sq (Rn 2 Z (WC.cond Z (fun l=>?_) (fun l=>?_)))
 ·have hb:h[k]? =some (h.getD k 0):=by rw[List.getElem?_eq_getElem (by omega),List.getD_eq_getElem?_getD,List.getElem?_eq_getElem (by omega)];rfl
  have hbl:=(h.getD k 0).isLt
  refine Nb (Rn 1 Z (Bk (WC.loop (ι:=Nat) (fun m=>[(1,.pointer (some ⟨c,0,none⟩)),(3,.int .u64 (qH (ku 0 (h.take k)) ((h.getD k 0).toNat) m:Int)),(4,J (k:Int)),(5,J ((m:Int)-1))]) (fun m wm=>m<=8/\Le d wm) (fun m=>m) 8 ?_ ?_ ?_)))
  ·exact .cons Z (.cons' Z (int_eq (congrArg Nat.cast (Qf _ _ hlt hbl))) (.of Z))
  ·exact⟨by omega,Ll⟩
  rintro m wm ⟨hm,Lm⟩
  have hbt:=aaI (ku 0 (h.take k)) ((h.getD k 0).toNat) m
  refine Sq (Rn 2 Z (WC.cond Z (fun n=>?_) (fun n=>?_)))
  ·have v:0<m:=by omega
   have x:(h.getD k 0).toNat/2^(m-1)%2<2:=Nat.mod_lt _ (by decide)
   have y:(h.getD k 0).toNat/2^(m-1)<=(h.getD k 0).toNat:=Nat.div_le_self _ _
   refine Nb (Rr 1 Z (Yo k Z (Yl Z (j.le Lm) (JB h (by omega)) (Wr (.VU (rG underlying5) underlying53 Z) Z (Yn 1 Z (Wr (.vW (rG underlying3) underlying259 Z (IntWalk.u64_in _ (by omega))) Z (Wa (.wO ((h.getD k 0).toNat) (m-1) ((h.getD k 0).toNat/2^(m-1)) Z Z Z (by omega) (by show m-1<=64;omega) Z) Z (Wa (.MV ((h.getD k 0).toNat/2^(m-1)) 1 ((h.getD k 0).toNat/2^(m-1)%2) Z Z Z Z (by omega) (by omega) (VZ _)) Z (Yx 1 Z ?_)))))))))
   refine Rg (Yn 1 Z (Wa (.mulN 2 (qH (ku 0 (h.take k)) ((h.getD k 0).toNat) m) (2*qH (ku 0 (h.take k)) ((h.getD k 0).toNat) m) Z Z Z Z (by omega)) Z (Yn 1 Z (Wa (.addN (2*qH (ku 0 (h.take k)) ((h.getD k 0).toNat) m) ((h.getD k 0).toNat/2^(m-1)%2) (2*qH (ku 0 (h.take k)) ((h.getD k 0).toNat) m+(h.getD k 0).toNat/2^(m-1)%2) Z Z Z Z (by omega)) Z (Wa (.BQ (2*qH (ku 0 (h.take k)) ((h.getD k 0).toNat) m+(h.getD k 0).toNat/2^(m-1)%2) 2305843009213688668 ((2*qH (ku 0 (h.take k)) ((h.getD k 0).toNat) m+(h.getD k 0).toNat/2^(m-1)%2)%2305843009213688668) Z Z Z Z (by decide) Z) Z (Yn 1 Z (W.nil (E.jD (E.iM ?_)))))))))
   refine Rg (Yn 1 Z (Yp Z (Yn 1 Z (W.nil (E.again (m-1) (.cons Z (.cons' Z (int_eq (congrArg Nat.cast (Um _ _ m (by omega) hm))) (.cons Z (.cons' Z (int_eq (by omega)) (.nil _))))) ?_ ?_)))))
   ·exact⟨by omega,Lm⟩
   first|omega|(simp only[];omega)
  have o:m=0:=by omega
  subst o
  refine WC.exit (E.jW (E.jW (E.rQ (E.jD (E.iM (Rg (Yn 1 Z (Yp Z (Yn 1 Z ?_)))))))))
  refine W.nil (E.again (k+1) (.cons Z (.cons' Z (int_eq (congrArg Nat.cast (by rw[EN h k 0 _ hb,XE];rfl))) (.cons Z (.nil _)))) ?_ ?_)
  ·exact⟨by omega,Lm⟩
  first|omega|(simp only[];omega)
 have s:k=32:=by omega
 subst s
 refine Ex (Rr 1 Z (Wa (.addN (ku 0 (h.take 32)) 1 (ku 0 (h.take 32)+1) Z Z Z Z (Nat.mod_eq_of_lt (by omega))) Z (Yx 1 Z (Rt (E.mP Z Z ?_)))))
 exact⟨by rw[kD,List.take_of_length_le (by omega)],f.trans Ll⟩
open Go.Fv Go.KJ
theorem qp (ps:List (List Byte))(k:Nat)(q:List Byte)(h:ps[k]? =some q):(ps.take (k+1)).flatten=(ps.take k).flatten++q:=by
 rw[List.take_add_one,h];simp
theorem qV:∀(ps:List (List Byte)) (k:Nat),(ps.take k).flatten.length<=ps.flatten.length
 |[],k=>by simp
 |p::ps,0=>by simp
 |p::ps,k+1=>by
  have:=qV ps k
  simp only[List.take_succ_cons,List.flatten_cons,List.length_append];omega
theorem aaK (m:Nat)(h0:0<m)(hm:m<=1000000)(w:World):Calls prog 234 #[.slice none 0 0,J (m:Int)] w fun e w'=>∃A c,e= .returned (.slice A 0 c)/\Own w' w.heap.size 5 1 A 0 c []/\Le w w':=by
 refine En func234 Z ?_
 have d:=Le.refl w
 refine Rn 1 Z (Sq (Rn 2 Z (WC.yh Z (fun h=>absurd h (by simp)) (fun _=>?_))))
 refine Sn (Sq (Rr 2 Z (Wr (.cap underlying78 Z Z) Z (Yn 2 Z (Yp Z (Yp Z (Yx 1 Z (Rn 2 Z (WC.yh Z (fun _=>?_) (fun h=>absurd h (by simp;omega)))))))))))
 refine Rg (Yn 2 Z (Wr (.cap underlying78 Z Z) Z (Wa (.Fy 0 underlying78 yC Z Z Z (by decide)) Z (Yn 1 Z (W.ef Z Z Z (Ef.aac m underlying78 underlying3 xD Z Z (Own.nil _ _ _ _ _) Z (by omega) h0 (by omega) (by unfold maxLen;omega) (Nat.le_refl _) ?_))))))
 intro f i j k l o
 have n:Le w j:=d.ja l (fun q hq=>by simp[jI]at hq)
 refine Yn 2 Z (Wa (.Fy 0 underlying78 yC Z Z Z (Nat.zero_le _)) Z (Yx 1 Z (Rn 2 Z (Rt (E.mP Z Z ?_)))))
 exact⟨f,i,rfl,(k.front 0 (Nat.zero_le _)).cast Z (by simp),n⟩
theorem J7 {vs:List Value}{ps:List (List Byte)}(w:World)(hV:Sl w 1 A n vs)(hP:Parts w vs ps)(h0:0<ps.flatten.length)(hT:ps.flatten.length<=1000000)(hn:n<=1000):Calls prog 210 #[.slice A n c] w fun e w'=>∃A' c',e= .returned (.slice A' ps.flatten.length c')/\Own w' w.heap.size 5 1 A' ps.flatten.length c' (ps.flatten.map jf)/\Le w w':=by
 have hvl:=hV.1
 rw[Nat.mul_one]at hvl
 have hpl:=hP.1
 have hgr:∀w,Calls prog 234 #[.slice none 0 0,J ((ps.take n).flatten.length:Int)] w fun e w'=>∃A c,e= .returned (.slice A 0 c)/\Own w' w.heap.size 5 1 A 0 c []/\Le w w':=fun w=>by
  rw[List.take_of_length_le (by omega)]
  exact aaK _ h0 hT w
 refine En func210 Z (Rn 1 Z (Rn 1 Z (Sq (Rn 3 Z (Bk (WC.loop (ι:=Nat) (fun k=>[(0,.slice A n c),(3,J ((ps.take k).flatten.length:Int)),(9,.slice A n c),(10,J (n:Int)),(11,J (k:Int))]) (fun k wl=>k<=n/\Le w wl) (fun k=>n-k) 0 ?_ ?_ ?_))))))
 ·exact .of Z
 ·exact⟨Nat.zero_le _,(Le.refl w)⟩
 rintro k wl ⟨hk,Ll⟩
 have hle:=qV ps k
 refine Rn 1 Z (Sq (WC.cond Z (fun o=>?_) (fun o=>?_)))
 ·obtain⟨q,hq⟩:∃q,ps[k]? =some q:=⟨_,List.getElem?_eq_getElem (by omega)⟩
  obtain⟨v,hv⟩:∃v,vs[k]? =some v:=⟨_,List.getElem?_eq_getElem (by omega)⟩
  obtain⟨Aq,cq,rfl,m⟩:=hP.2 k v q hv hq
  have i:=qV ps (k+1)
  rw[qp ps k q hq,List.length_append]at i
  refine Nb (Sr (Yu k Z (hV.isSome (j:=k) (by omega) (by decide)) (Wr (.j3 WK Z (hV.le Ll) hv) Z (Yx 1 Z (Rr 3 Z (Yp Z (Yx 1 Z (Rn 2 Z (WC.yh Z (fun h=>absurd h (by simp;omega)) (fun _=>?_))))))))))
  refine WC.skip (Lp 1 Z Z (E.again (k+1) (.cons Z (.cons' Z (int_eq (by rw[qp ps k q hq,List.length_append,Int.natCast_add])) (.of Z))) ?_ ?_))
  ·exact⟨by omega,Ll⟩
  first|omega|(simp only[];omega)
 have hkn:n=k:=by omega
 subst hkn
 rw[List.take_of_length_le (by omega)]at hle
 refine Ex (Rr 1 Z (Yd Z (hgr wl) ?_))
 rintro _ K ⟨s,t,rfl,l,u⟩
 have x:=Ll.trans u
 have l:=l.mono Ll.size
 refine Yx 1 Z (Sq (Rn 3 Z (Bk (WC.loop (ι:=Nat×Option Addr×Nat) (fun⟨k,d,f⟩=>[(6,.slice d ((ps.take k).flatten.length) f),(25,.slice A n c),(26,J (n:Int)),(27,J (k:Int))]) (fun⟨k,d,f⟩ wm=>k<=n/\Le w wm/\Own wm w.heap.size 5 1 d ((ps.take k).flatten.length) f ((ps.take k).flatten.map jf)) (fun⟨k,d,f⟩=>n-k) (0,s,t) ?_ ?_ ?_))))
 ·exact .of Z
 ·exact⟨Nat.zero_le _,x,l⟩
 rintro⟨k,d,f⟩ wm ⟨hk,Lm,om⟩
 refine Rn 1 Z (Sq (WC.cond Z (fun y=>?_) (fun y=>?_)))
 ·obtain⟨q,hq⟩:∃q,ps[k]? =some q:=⟨_,List.getElem?_eq_getElem (by omega)⟩
  obtain⟨v,hv⟩:∃v,vs[k]? =some v:=⟨_,List.getElem?_eq_getElem (by omega)⟩
  obtain⟨Aq,cq,rfl,m⟩:=hP.2 k v q hv hq
  have i:=qV ps (k+1)
  rw[qp ps k q hq,List.length_append]at i
  refine Nb (Sr (Yu k Z (hV.isSome (j:=k) (by omega) (by decide)) (Wr (.j3 WK Z (hV.le Lm) hv) Z (Yx 1 Z (Rg (Yn 2 Z (W.ef Z Z Z (Ef.append underlying78 xD Z om Z ((m.le Lm).src underlying78 _) (by omega) (by unfold maxLen;omega) Lm.size ?_))))))))
  intro B C D F H L
  have I:Le w D:=Lm.ja H (fun q hq=>(om.row hq).1)
  refine Yn 1 Z (W.nil (Lp 1 Z Z (E.again (k+1,B,C) (.cons' Z (oK (by rw[qp ps k q hq,List.length_append])) (.of Z)) ?_ ?_)))
  ·exact⟨by omega,I,F.cast (by rw[qp ps k q hq,List.length_append]) (by rw[qp ps k q hq,List.map_append])⟩
  first|omega|(simp only[];omega)
 have hkn:n=k:=by omega
 subst hkn
 rw[List.take_of_length_le (by omega)]at om
 refine Ex (Rn 2 Z (Rt (E.mP Z Z ?_)))
 exact⟨d,f,by rw[List.take_of_length_le (by omega)],om,Lm⟩
theorem aaL (a b:Nat)(ha:a<2305843009213688669)(hb:b<2305843009213688669)(w:World):Calls prog 213 #[.int .u64 (a:Int),.int .u64 (b:Int)] w fun e w'=>e= .returned (.int .u64 (((a+b)%q:Nat):Int))/\Le w w':=by
 refine En func213 Z (WC.sr (Yn 1 Z (W.nx (WC.sr (Yn 2 Z (Wa (.addN a b (a+b) Z Z Z Z (Nat.mod_eq_of_lt (by omega))) Z (Wa (.BQ (a+b) 2305843009213688669 ((a+b)%2305843009213688669) Z Z Z Z (by decide) Z) Z (Yn 1 Z (W.nx ?_)))))))))
 refine WC.ret (E.mP Z Z ?_)
 exact⟨rfl,(Le.refl w)⟩
theorem aaM (a b:Nat)(w:World):Calls prog 176 #[.int .u64 (a:Int),.int .u64 (b:Int)] w fun e w'=>e= .returned (.int .u64 (lq a b:Int))/\Le w w':=by
 refine En func176 Z ?_
 have c:=Le.refl w
 refine Rn 1 Z (Rr 1 Z (Yc Z (RS a w) fun d f=>?_))
 have i:=c.trans f
 refine Yn 1 Z (Yc Z (RS b d) fun j k=>?_)
 have l:=i.trans k
 refine Yc Z (aaL (a%q) (b%q) (Nat.mod_lt _ (by decide)) (Nat.mod_lt _ (by decide)) j) fun o m=>?_
 have n:=l.trans m
 refine Yx 1 Z (Rt (E.mP Z Z ?_))
 exact⟨rfl,n⟩
open Go.yA
def sS (s:yA.BF):List Value:=[.int .u64 (s.r:Nat),.int .u64 (s.s:Nat)]
theorem qQ:kM sS 2:=⟨fun _=>rfl,fun x v hv=>by simp[sS]at hv;rcases hv with rfl|rfl<;>rfl,by decide⟩
theorem aaN (l:List Nat):Jg l<18446744073709551616:=by
 have key:∀(l:List Nat) (o:Nat),o<M->l.foldl (fun o p=>o*taken p%M) o<M:=by
  intro l
  induction l with
  |nil=>intro o h;exact h
  |cons p l ih=>intro o h;exact ih _ (Nat.mod_lt _ (by decide))
 exact Nat.lt_trans (key l 1 (by decide)) (by decide)
theorem Uq {xs:List Nat}(h:k<xs.length):Jg (xs.take (k+1))=Jg (xs.take k)*taken (xs.getD k 0)%M:=by
 rw[List.take_add_one,jN xs 0 h]
 simp[Jg,-List.getD_eq_getElem?_getD]
theorem aaO (p:Nat):MJ p<18446744073709551616:=Nat.lt_trans (aey _ _ (by decide)) (by decide)
theorem zU (p k:Nat):scale p k<18446744073709551616:=Nat.lt_trans (VC p k) (by decide)
theorem nD (k:Nat):base k<18446744073709551616:=zU 4 k
theorem aif {a b T:Nat}(h1:a<T)(h2:b<T)(h3:c<T):∀x∈[a,b,c],x<T:=by
 intro x hx
 simp only[List.mem_cons,List.not_mem_nil,or_false]at hx
 rcases hx with rfl|rfl|rfl<;>assumption
theorem tO (a b:Nat):tY a b<18446744073709551616:=Nat.lt_trans (Nat.mod_lt _ (by decide)) (by decide:M<18446744073709551616)
theorem DY (m:Nat)(w:World):Calls prog 135 #[.int .u64 (m:Int)] w fun e w'=>∃g,e= .returned (.slice (some ⟨g,0,none⟩) 8 8)/\w.heap.size<=g/\ik w' g 5 ((vB m).map jf).toArray/\Le w w':=by
 refine En func135 Z ?_
 have j:=Le.refl w
 refine Rn 1 Z (Sr (W.ef Z Z Z (Ef.makeSlice 8 8 underlying78 xD Z Z Z Z (by decide) (by decide) (by decide) fun c y f l n=>?_)))
 have o:=j.trans n
 refine Yx 1 Z (Sq (Rn 3 Z (Bk (WC.loop (ι:=Nat) (fun k=>[(0,.int .u64 (m:Int)),(3,.slice (some ⟨c,0,none⟩) 8 8),(7,J 8),(8,J (k:Int))]) (fun k wl=>k<=8/\Le w wl/\ik wl c 5 (((rH m k)++List.replicate (8-k) 0#8).map jf).toArray) (fun k=>8-k) 0 ?_ ?_ ?_))))
 ·exact .of Z
 ·exact⟨by omega,o,l.cast (aab 8)⟩
 rintro k wl ⟨i,Ll,d⟩
 have hbl:(rH m k).length=k:=by simp[rH,iL];omega
 refine Rn 1 Z (Sq (WC.cond Z (fun s=>?_) (fun s=>?_)))
 ·refine Nb (Rn 2 Z (Rg (Yn 4 Z (Yp Z (Yp Z (Wa (.Pw m (56-8*k) Z Z Z (by omega) (by show 56-8*k<=64;omega)) Z (Wr (.toU8 (m>>>(56-8*k)) (rG underlying53) underlying5 Z Z) Z (Wa (.VV k underlying78 yC Z Z Z (by omega)) Z (W.jR Z Z ?_)))))))))
  refine Ef.store yC Z Z d (by simp;omega) Z ?_
  intro t u v
  have x:Le w t:=Ll.ja v (fun q hq=>by cases hq;exact f)
  refine W.nil (Lp 1 Z Z (E.again (k+1) (.of Z) ?_ ?_))
  ·exact⟨by omega,x,u.cast (by rw[GV jf (rH m k) 0#8 _ 8 k hbl (by omega),xE m k (by omega)])⟩
  first|omega|(simp only[];omega)
 have i:k=8:=by omega
 subst i
 have d:ik wl c 5 ((vB m).map jf).toArray:=d
 refine Ex (Rn 2 Z (Rt (E.mP Z Z ?_)))
 exact⟨c,rfl,f,d,Ll⟩
theorem RZ (rr p:Nat)(m:List (BitVec 8))(hm:m.length=32)(w:World):Calls prog 178 #[.int .u64 (rr:Int),.int .u64 (p:Int),.agg (m.map jf).toArray] w fun r w'=>r= .returned (.int .u64 (vG rr p m:Int))/\Le w w':=by
 refine En func178 Z (WC.sr (Yv Z fun i t K (u:ik t i 23 (m.map jf).toArray) x=>Yn 1 Z (W.nx (WC.seq (WC.draw [0,2,4,1,3,5,6,7,8] mixed (by kernel_rfl) fun y j=>Xn 2 Z (Ga Z (.Be underlying23 yC Z) (Xd Z (DY rr y) ?_)))))))
 rintro _ A ⟨B,rfl,L,C,e⟩
 refine⟨fun _=>e,?_⟩
 refine Xd Z (DY p A) ?_
 rintro _ N ⟨D,rfl,O,F,d⟩
 refine⟨fun _=>d,?_⟩
 refine G.ef Z Z Z Z Z (Ef.lQ [_,_,_] underlying266 FC Z (by intro v hv;simp at hv;rcases hv with rfl|rfl|rfl<;>rfl) Z (by decide) (by decide) ?_)
 intro H k P f c
 refine⟨fun _=>c,?_⟩
 have f:ik k H 78 #[.slice (some ⟨B,0,none⟩) 8 8,.slice (some ⟨D,0,none⟩) 8 8,.slice (some ⟨i,0,none⟩) 32 32]:=f
 refine Xc Z (Ib _ acX k (ps:=[vB rr,vB p,m]) Z (f.sl (s:=1) (n:=3) Z) (.cons ((C.le (d.trans c)).sb (iL _)) (.cons ((F.le c).sb (iL _)) (.cons ((u.le (j.trans (e.trans (d.trans c)))).sb hm) (.nil _)))) (by rw[ZU,(iL _),(iL _),hm];decide)) fun I l=>Xc Z (Gg (tag acX [vB rr,vB p,m]) (jG _ _) I) fun Q o=>Xx 1 Z (WC.ret (E.iC Z Z ?_))
 exact⟨rfl,((((((((Le.refl w).trans x).trans j).trans e).trans d).trans c).trans l).trans o)⟩
theorem aaP (k:Nat)(w:World):Calls prog 133 #[.int .u64 (k:Int)] w fun r w'=>r= .returned (.bool (BG k))/\Le w w':=by
 refine En func133 Z (Rn 1 Z (Rr 1 Z (Yc Z (JZ k w) fun f e=>?_)))
 have d:=(Le.refl w).trans e
 by_cases c:k<q
 ·refine Dt c Z Z (Yy 4 Z Z Z ?_)
  exact⟨(by first|rfl|(simp[BG,c];done)|(simp[BG,c];omega)|(simp[BG,c];split<;>first|(exfalso;omega)|(simp;done)|(simp;omega))),d⟩
 refine Df c Z Z (Yy 4 Z Z Z ?_)
 exact⟨(by first|rfl|(simp[BG,c];done)|(simp[BG,c];omega)|(simp[BG,c];split<;>first|(exfalso;omega)|(simp;done)|(simp;omega))),d⟩
theorem Ur (k n:Nat)(m:List (BitVec 8))(hm:m.length=32)(t:Nat)(ht:t<18446744073709551616)(w:World):Calls prog 134 #[.int .u64 (k:Int),.int .u64 (n:Int),.agg (m.map jf).toArray,.int .u64 (t:Int)] w fun r w'=>r= .returned (.agg (sS (Tj k n m t)).toArray)/\Le w w':=by
 refine En func134 Z (Sr (Yv Z fun I K ae (B:ik K I 23 (m.map jf).toArray) L=>?_))
 have c:=(Le.refl w).trans L
 refine Yz Z z75 fun d C f (N:ik C d 75 (sS iY).toArray) D=>Nx (Rr 1 Z (Yc Z (pF n C) fun O i=>Yn 1 Z (Yc Z (Lt (base n) t (nD _) (by first|assumption|omega|decide) O) fun af j=>Yn 1 Z (W.jR Z Z (Ef.store Cs Z Z (N.le (i.trans j)) (by first|decide|(simp;done)|simp[qQ.len]) Z ?_)))))
 intro P l F
 have l:ik P d 75 (sS (yA.BF.mk (tY (base n) t) 0)).toArray:=l
 refine Nx (Sq (WC.draw [0,1,2,3,5,7,4,6,8,9,10,11] mixed (by kernel_rfl) fun Q o=>Xn 2 Z ?_))
 have H:=(l.le o)
 refine Xk (.int .u64 (tY (base n) t:Int)) Z H Z (Xn 1 Z ?_)
 have R:=(((B.le (D.trans (i.trans j))).cn F (by have:=B.lt;omega)).le o)
 refine Gd Z (.jM ug (by simp[hm]) Z R) (Xn 1 Z (Xc Z (pF k Q) fun S s=>Xc Z (RZ (tY (base n) t) (base k) m hm S) fun U u=>Xc Z (aaB (vG (tY (base n) t) (base k) m) k U) fun V x=>Xc Z (aaM n (Fw (vG (tY (base n) t) (base k) m) k) V) fun ah y=>Xn 1 Z (G.jR Z Z Z Z (Ef.store WJ Z Z (H.le (s.trans (u.trans (x.trans y)))) (by first|decide|(simp;done)|simp[qQ.len]) Z ?_))))
 intro X e Y
 refine noT (by kernel_rfl) ?_
 have e:ik X d 75 (sS (yA.BF.mk (tY (base n) t) (lq n (Fw (vG (tY (base n) t) (base k) m) k)))).toArray:=e
 refine Gx (Sr (Yh Z e (Yw Z e (qQ.one (yA.BF.mk (tY (base n) t) (lq n (Fw (vG (tY (base n) t) (base k) m) k)))) ?_)))
 intro aa A ac
 have A:ik aa d 75 (sS (yA.BF.mk (tY (base n) t) (lq n (Fw (vG (tY (base n) t) (base k) m) k)))).toArray:=A
 have ad:=((((((((((c.trans D).trans i).trans j).tb F c f).trans o).trans s).trans u).trans x).trans y).tb Y c f).tb ac c f
 refine Nx (Re Z (lV Z A TS (by rfl)) ?_)
 exact⟨by unfold Tj;rfl,ad⟩
theorem CK (k:Nat)(m:List (BitVec 8))(hm:m.length=32)(w:World):Calls prog 82 #[.int .u64 (k:Int),.agg (m.map jf).toArray] w fun r w'=>r= .returned (.agg (sS (nR k m)).toArray)/\Le w w':=by
 refine En func82 Z (Sr (Yv Z fun B N ae (O:ik N B 23 (m.map jf).toArray) P=>?_))
 have i:=(Le.refl w).trans P
 refine Yz Z z75 fun j C D (F:ik C j 75 (sS iY).toArray) H=>Nx (Sq (Rr 1 Z (Yc Z (aaP k C) fun af e=>?_)))
 have I:=(i.trans H).trans e
 refine Yx 1 Z ?_
 by_cases c:(BG k)=true
 ·refine Cn Z (congrArg not c) (Sn (Sq (WC.draw [0,1,3,7,2,4,5,6,8,9] mixed (by kernel_rfl) fun Q l=>Xn 2 Z (Ga Z (.Be underlying23 yC Z) ?_))))
  have K:=(O.le (H.trans (e.trans l)))
  refine Gd Z (.jM ug (by simp[hm]) Z K) (Xd Z (DY k Q) ?_)
  rintro _ ah ⟨R,rfl,ai,S,f⟩
  refine⟨fun _=>f,?_⟩
  refine G.ef Z Z Z Z Z (Ef.lQ [_,_] underlying266 FC Z (by intro v hv;simp at hv;rcases hv with rfl|rfl<;>rfl) Z (by decide) (by decide) ?_)
  intro U L aj o d
  refine⟨fun _=>d,?_⟩
  have o:ik L U 78 #[.slice (some ⟨R,0,none⟩) 8 8,.slice (some ⟨B,0,none⟩) 32 32]:=o
  refine Xc Z (Ib _ Dq L (ps:=[vB k,m]) Z (o.sl (s:=1) (n:=2) Z) (.cons ((S.le d).sb (iL _)) (.cons ((K.le (f.trans d)).sb hm) (.nil _))) (by rw[RO,(iL _),hm];decide)) fun V t=>Xc Z (Gg (tag Dq [vB k,m]) (jG _ _) V) fun X u=>Xc Z (Ur k (kD (tag Dq [vB k,m])) m hm 1 (by first|assumption|omega|decide) X) fun ak x=>Xw Z (F.le (e.trans (l.trans (f.trans (d.trans (t.trans (u.trans x))))))) (qQ.one (Tj k (kD (tag Dq [vB k,m])) m 1)) ?_
  intro Y y aa
  refine noT (by kernel_rfl) ?_
  have y:ik Y j 75 (sS (Tj k (kD (tag Dq [vB k,m])) m 1)).toArray:=y
  refine Gx (Re Z (lV Z y TS (by rfl)) ?_)
  exact⟨(by first|rfl|(simp[nR,sK,iY,c];done)|(simp[nR,sK,iY,c];omega)|(simp[nR,sK,iY,c];split<;>first|(exfalso;omega)|(simp;done)|(simp;omega))),(((((((I.trans l).trans f).trans d).trans t).trans u).trans x).tb aa i D)⟩
 refine Cy Z (congrArg not (Bool.eq_false_iff.2 c)) (Sr (Wa (.iF (sS (⟨0,0⟩)) ah8 z75 Z Z) Z (Yw Z (F.le e) (qQ.one (⟨0,0⟩)) ?_)))
 intro ac A ad
 have A:ik ac j 75 (sS (⟨0,0⟩)).toArray:=A
 refine Nx (Rt (E.il (E.iC Z (lV Z A TS (by rfl)) ?_)))
 exact⟨(by first|rfl|(simp[nR,sK,iY,c];done)|(simp[nR,sK,iY,c];omega)|(simp[nR,sK,iY,c];split<;>first|(exfalso;omega)|(simp;done)|(simp;omega))),(I.tb ad i D)⟩
theorem adI (p:Nat)(hp:p<18446744073709551616)(w:World):Calls prog 211 #[.int .u64 (p:Int)] w fun r w'=>r= .returned (.int .u64 (MJ p:Int))/\Le w w':=by
 refine En func211 Z (Rn 1 Z (Rr 1 Z (Yc Z (Cw p (by first|assumption|omega|decide) w) fun c d=>Yc Z (Ie (taken p) 2305843009213688668 (Cz _) (by decide) c) fun f e=>Yy 1 Z Z Z ?_)))
 exact⟨rfl,(((Le.refl w).trans d).trans e)⟩
theorem adJ {xs:List Nat}(w:World)(hV:Vec w su 1 A n xs)(hs:∀x∈xs,x<18446744073709551616)(hn:n<=1000000):Calls prog 159 #[.slice A n c] w fun r w'=>r= .returned (.int .u64 (Jg xs:Int))/\Le w w':=by
 have hl:=hV.1
 refine En func159 Z (Rn 1 Z (Rn 1 Z (Sq (Rn 3 Z (Bk (WC.loop (ι:=Nat) (fun k=>[(3,.int .u64 (((Jg (xs.take k)):Nat):Int)),(6,.slice A n c),(7,J (n:Int)),(8,J (k:Int))]) (fun k d=>(k<=n)/\Le w d/\w.heap.size<=d.heap.size) (fun k=>n-k) 0 ?_ ?_ ?_))))))
 ·exact .of Z
 ·exact⟨Nat.zero_le _,(Le.refl w),Nat.le_refl _⟩
 rintro k d ⟨hk,e,l⟩
 refine Rn 1 Z (Sq ?_)
 by_cases f:(k:Int)<(n:Int)
 ·refine Cy Z (dT f) (Nb (Sr (Ys k Z (hV.isSome iT (by omega)) (Wr (.o9 (v:= .int .u64 (((xs.getD k 0):Nat):Int)) yD Z (hV.le e) iT (jN xs 0 (by omega)) Z) Z (Yx 1 Z (Rg (Yn 2 Z (Yc Z (Cw (xs.getD k 0) (getD_lt hs (by decide) _) d) fun m i=>Yc Z (ze (Jg (xs.take k)) (taken (xs.getD k 0)) (aaN _) (Cz _) m) fun o j=>?_))))))))
  refine Yn 1 Z (W.nil (Lp 1 Z Z (E.again (k+1) (.cons' Z (int_eq (by rw[Uq (by omega)])) (.of Z)) ?_ ?_)))
  ·exact⟨by omega,((e.trans i).trans j),by have:=l;have:=i.size;have:=j.size;omega⟩
  first|omega|(simp only[];omega)
 refine Cn Z (dF f) (Ex (Ry 2 Z Z Z ?_))
 exact⟨by rw[List.take_of_length_le (by omega)],e⟩
theorem Us (p:Nat)(m:List (BitVec 8))(hm:m.length=32)(t:Nat)(s:yA.BF)(hp:p<18446744073709551616)(ht:t<18446744073709551616)(hr:s.r<18446744073709551616)(w:World):Calls prog 174 #[.int .u64 (p:Int),.agg (m.map jf).toArray,.int .u64 (t:Int),.agg (sS s).toArray] w fun r w'=>r= .returned (.bool (jX p m t s))/\Le w w':=by
 refine En func174 Z (Sr (Yv Z fun V X aq (Y:ik X V 23 (m.map jf).toArray) aa=>Yv Z fun ac I ar (ad:ik I ac 75 (sS s).toArray) K=>?_))
 have L:=((Le.refl w).trans aa).trans K
 refine Yx 1 Z (Sq (Rr 2 Z ?_))
 by_cases c:(p:Int)=1
 ·refine Dt c Z Z (Yx 21 Z (Ct Z (Rn 1 Z (Rt (E.il (E.iC Z Z ?_))))))
  exact⟨(by first|rfl|(simp[jX,c];done)|(simp[jX,c];omega)|(simp[jX,c];split<;>first|(exfalso;omega)|(simp;done)|(simp;omega))|(have i:¬p=1:=(by omega);simp[jX,i,Int.natCast_inj,c];done)),L⟩
 refine Df c Z Z (Yn 1 Z (Yc Z (lC p (by first|assumption|omega|decide) I) fun ae k=>?_))
 have N:=L.trans k
 refine Yn 2 Z ?_
 by_cases d:(right p)=true
 ·refine Yq 1 Z (congrArg not d) (Yn 1 Z (Yc Z (lC t (by first|assumption|omega|decide) ae) fun af l=>?_))
  have O:=N.trans l
  refine Yn 2 Z ?_
  by_cases e:(right t)=true
  ·refine Yq 1 Z (congrArg not e) (Yn 1 Z ?_)
   have P:=(ad.le (k.trans l))
   refine Yk (.int .u64 (s.r:Int)) Z P Z (Yc Z (lC s.r (by first|assumption|omega|decide) af) fun ah n=>?_)
   have Q:=O.trans n
   refine Yn 2 Z ?_
   by_cases f:(right s.r)=true
   ·refine Yq 1 Z (congrArg not f) (Yn 1 Z ?_)
    have R:=(P.le n)
    refine Yk (.int .u64 (s.s:Int)) Z R Z (Yc Z (JZ s.s ah) fun au o=>?_)
    have S:=Q.trans o
    refine Yx 2 Z ?_
    by_cases j:s.s<q
    ·refine Cn Z (congrArg not (dT j)) (Sn (Sq (WC.draw [0,1,2,3,4,5,6,9,7,8,10,11,12,13] mixed (by kernel_rfl) fun w3 u=>Xn 1 Z ?_)))
     have x:=(R.le (o.trans u))
     refine Xk (.int .u64 (s.r:Int)) Z x Z (Xn 2 Z (Xk (.int .u64 (s.r:Int)) Z x Z (Xn 1 Z (Gd Z (.jM ug (by simp[hm]) Z (Y.le (K.trans (k.trans (l.trans (n.trans (o.trans u))))))) (Xn 1 Z (Xc Z (RZ s.r p m hm w3) fun ai y=>Xc Z (CE p (vG s.r p m) (by first|assumption|omega|decide) ai) fun aj A=>Xc Z (adI t (by first|assumption|omega|decide) aj) fun ak B=>G.ef Z Z Z Z Z ?_))))))
     refine Ef.iw (len:=3) [_,_,_] underlying187 wy Z (by simp[Value.cells]) Z (by decide) (by decide) ?_
     intro U C al D F
     refine⟨fun _=>F,?_⟩
     have D:ik C U 60 (([s.r,scale p (vG s.r p m),MJ t]).map su).flatten.toArray:=D
     have an:iy C ak.heap.size 60 su 1 (some ⟨U,0,none⟩) 3 3 ([s.r,scale p (vG s.r p m),MJ t]):=D.j4 al iT Z Z (by decide)
     refine Xc Z (adJ C an.vec (aif hr (zU _ _) (aaO _)) (by decide)) fun ao H=>Xx 1 Z (Rr 1 Z (Yk (.int .u64 (s.s:Int)) Z (x.le (y.trans (A.trans (B.trans (F.trans H))))) Z (Yc Z (pF s.s ao) fun av ap=>Yy 3 Z Z Z ?_)))
     exact⟨(by first|rfl|(simp[jX,c,d,e,f,j];done)|(simp[jX,c,d,e,f,j];omega)|(simp[jX,c,d,e,f,j];split<;>first|(exfalso;omega)|(simp;done)|(simp;omega))|(have i:¬p=1:=(by omega);simp[jX,i,Int.natCast_inj,c,d,e,f,j];done)),(((((((S.trans u).trans y).trans A).trans B).trans F).trans H).trans ap)⟩
    refine Cy Z (congrArg not (dF j)) (Rn 1 Z (Rt (E.il (E.iC Z Z ?_))))
    exact⟨(by first|rfl|(simp[jX,c,d,e,f,j];done)|(simp[jX,c,d,e,f,j];omega)|(simp[jX,c,d,e,f,j];split<;>first|(exfalso;omega)|(simp;done)|(simp;omega))|(have i:¬p=1:=(by omega);simp[jX,i,Int.natCast_inj,c,d,e,f,j];done)),S⟩
   refine Yq 1 Z (congrArg not (Bool.eq_false_iff.2 f)) (Yx 5 Z (Ct Z (Rn 1 Z (Rt (E.il (E.iC Z Z ?_))))))
   exact⟨(by first|rfl|(simp[jX,c,d,e,f];done)|(simp[jX,c,d,e,f];omega)|(simp[jX,c,d,e,f];split<;>first|(exfalso;omega)|(simp;done)|(simp;omega))|(have i:¬p=1:=(by omega);simp[jX,i,Int.natCast_inj,c,d,e,f];done)),Q⟩
  refine Yq 1 Z (congrArg not (Bool.eq_false_iff.2 e)) (Yx 11 Z (Ct Z (Rn 1 Z (Rt (E.il (E.iC Z Z ?_))))))
  exact⟨(by first|rfl|(simp[jX,c,d,e];done)|(simp[jX,c,d,e];omega)|(simp[jX,c,d,e];split<;>first|(exfalso;omega)|(simp;done)|(simp;omega))|(have i:¬p=1:=(by omega);simp[jX,i,Int.natCast_inj,c,d,e];done)),O⟩
 refine Yq 1 Z (congrArg not (Bool.eq_false_iff.2 d)) (Yx 16 Z (Ct Z (Rn 1 Z (Rt (E.il (E.iC Z Z ?_))))))
 exact⟨(by first|rfl|(simp[jX,c,d];done)|(simp[jX,c,d];omega)|(simp[jX,c,d];split<;>first|(exfalso;omega)|(simp;done)|(simp;omega))|(have i:¬p=1:=(by omega);simp[jX,i,Int.natCast_inj,c,d];done)),N⟩
theorem DZ (p:Nat)(m:List (BitVec 8))(hm:m.length=32)(s:yA.BF)(hp:p<18446744073709551616)(hr:s.r<18446744073709551616)(w:World):Calls prog 132 #[.int .u64 (p:Int),.agg (m.map jf).toArray,.agg (sS s).toArray] w fun r w'=>r= .returned (.bool (nN p m s))/\Le w w':=by
 refine En func132 Z (Sr (Yv Z fun e f o (i:ik f e 23 (m.map jf).toArray) j=>Yv Z fun k c t (l:ik c k 75 (sS s).toArray) d=>Yx 1 Z (Rr 1 Z (Wr (.jM ug (by simp[hm]) Z (i.le d)) Z (Yh Z l (Yc Z (Us p m hm 1 s (by first|assumption|omega|decide) (by first|assumption|omega|decide) hr c) fun u n=>Yy 1 Z Z Z ?_))))))
 exact⟨rfl,((((Le.refl w).trans j).trans d).trans n)⟩
theorem Od (xs:List (BitVec 8))(b:BitVec 8):xs.length+1=(xs++[b]).length:=by simp
theorem Ij (n:Nat):0<(jF n).length:=by rw[jF];split<;>simp
theorem XG (h:n<128):jF n=[BitVec.ofNat 8 n]:=by rw[jF,dif_pos h]
theorem Ut (h:¬n<128):jF n=BitVec.ofNat 8 (n%128+128)::jF (n/128):=by rw[jF,dif_neg h]
variable {B:Option Addr}{m:Nat}{xs ys:List (BitVec 8)}
theorem Lx (w:World)(hV:Vec w jv 1 A n xs)(hn:n<=100000)(hU:Vec w jv 1 B m ys)(hm:m<=100000)(h0:0<m):Calls prog 172 #[.slice A n c,.slice B m d] w fun r w'=>∃A' c',r= .returned (.slice A' (xs++ys).length c')/\iy w' w.heap.size 5 jv 1 A' (xs++ys).length c' (xs++ys)/\Le w w':=by
 have hl:=hV.1
 have u:=hU.1
 refine En func172 Z (Rn 1 Z (Rr 2 Z (W.ef Z Z Z (Ef.lQ [_,_] underlying266 FC Z (by intro v hv;simp at hv;rcases hv with rfl|rfl<;>rfl) Z (by decide) (by decide) ?_))))
 intro j i x f k
 have e:=(Le.refl w).trans k
 have f:ik i j 78 #[.slice A n c,.slice B m d]:=f
 refine Yd Z (J7 i (f.sl (s:=1) (n:=2) Z) (.cons (tC (hV.le e)) (.cons (tC (hU.le e)) (.nil _))) (by simp;omega) (by simp;omega) (by decide)) ?_
 rintro _ y ⟨C,D,rfl,l,o⟩
 have t:=DC l
 refine Yy 1 Z Z Z ?_
 exact⟨_,_,by simp only[List.flatten_cons,List.flatten_nil,List.append_nil],(t.mono e.size).cast (by simp) (by simp),(e.trans o)⟩
theorem XH (n:Nat)(hn:n<=9223372036854775807)(w:World):Calls prog 173 #[J (n:Int)] w fun r w'=>∃A' c',r= .returned (.slice A' (jF n).length c')/\iy w' w.heap.size 5 jv 1 A' (jF n).length c' (jF n)/\Le w w':=by
 have hrl:=jy n (by omega)
 refine En func173 Z ?_
 have d:=Le.refl w
 refine Rn 1 Z (Rn 1 Z (Sq (Bk (WC.loop (ι:=Nat×(List (BitVec 8))×(Option Addr)×Nat) (fun⟨a,xs,Aa,ca⟩=>[(0,J (a:Int)),(3,.slice Aa xs.length ca)]) (fun⟨a,xs,Aa,ca⟩ c=>(a<=n)/\(xs++jF a=jF n)/\Le w c/\w.heap.size<=c.heap.size/\iy c w.heap.size 5 jv 1 Aa xs.length ca xs) (fun⟨a,xs,Aa,ca⟩=>a) (n,[],none,0) ?_ ?_ ?_))))
 ·exact .of Z
 ·exact⟨Nat.le_refl _,rfl,d,Nat.le_refl _,(iy.nil w w.heap.size 5 jv 1 none)⟩
 rintro⟨a,xs,Aa,ca⟩ c ⟨ha,hx,k,B,l⟩
 have m:w.heap.size<=c.heap.size:=by omega
 have hxl:xs.length+(jF a).length=(jF n).length:=by rw[<-hx,List.length_append]
 have hrp:=Ij a
 refine Sq (Rn 2 Z ?_)
 by_cases o:128<=(a:Int)
 ·refine Cy Z (dT o) (Nb (Rg (Yn 2 Z (Wa (.rem Z Z (by omega)) Z (Yp Z (Wr (.toU8 ((a%128)+128) (rG underlying3) underlying5 Z (by omega)) Z (W.ef Z Z Z (Ef.iw (len:=1) [_] underlying78 xD Z (by simp[Value.cells,jf]) Z (by decide) (by decide) ?_))))))))
  intro s t C e f
  have e:ik t s 5 (([BitVec.ofNat 8 ((a%128)+128)]).map jv).flatten.toArray:=e
  have N:iy t c.heap.size 5 jv 1 (some ⟨s,0,none⟩) 1 1 ([BitVec.ofNat 8 ((a%128)+128)]):=e.j4 C kE Z Z (by decide)
  have u:=(l.le f)
  have _:=f.size
  refine W.ef Z Z Z (Ef.vJ (a:=(BitVec.ofNat 8 ((a%128)+128))) underlying78 xD underlying78 kE Z u Z e (by omega) (by unfold maxLen;omega) (by have:=m;omega) ?_)
  intro D F O H v P
  refine Yn 1 Z (W.nil (E.jD (E.iM (Rg (Yn 1 Z (Wa (.quo Z Z (by omega)) Z (Yn 1 Z (W.nil (E.again (a/128,(xs++[BitVec.ofNat 8 (a%128+128)]),D,F) (.cons' Z (int_eq (by omega)) (.cons' Z (oK (Od xs (BitVec.ofNat 8 (a%128+128)))) (.nil _))) ?_ ?_)))))))))
  ·exact⟨by omega,by rw[<-hx,Ut (n:=a) (by omega)];simp,((k.trans f).ja v (fun q hq=>Nat.le_trans d.size (u.row hq).1)),by have:=B;have:=v.size;omega,(H.cast (Od xs (BitVec.ofNat 8 (a%128+128))) Z)⟩
  first|omega|(simp only[];omega)
 refine Cn Z (dF o) (Ex (Rr 2 Z (Wr (.toU8 a (rG underlying3) underlying5 Z Z) Z (W.ef Z Z Z (Ef.iw (len:=1) [_] underlying78 xD Z (by simp[Value.cells,jf]) Z (by decide) (by decide) ?_)))))
 intro x y I i j
 have i:ik y x 5 (([BitVec.ofNat 8 a]).map jv).flatten.toArray:=i
 have Q:iy y c.heap.size 5 jv 1 (some ⟨x,0,none⟩) 1 1 ([BitVec.ofNat 8 a]):=i.j4 I kE Z Z (by decide)
 have A:=(l.le j)
 refine W.ef Z Z Z (Ef.vJ (a:=(BitVec.ofNat 8 a)) underlying78 xD underlying78 kE Z A Z i (by omega) (by unfold maxLen;omega) (by have:=m;have:=j.size;omega) ?_)
 intro R S U K L V
 refine Yy 1 Z Z Z ?_
 have hend:xs++[BitVec.ofNat 8 a]=jF n:=by rw[<-hx,XG (n:=a) (by omega)]
 exact⟨_,_,by rw[<-hend,List.length_append];rfl,(K.mono d.size).cast (by rw[<-hend,List.length_append];rfl) hend,((k.trans j).ja L (fun q hq=>Nat.le_trans d.size (A.row hq).1))⟩
theorem wC (i:Nat)(hi:i<=9223372036854775807){A:Option Addr}{n c:Nat}{xs:List (BitVec 8)}(w:World)(hV:Vec w jv 1 A n xs)(hn:n<=100000):Calls prog 130 #[.slice A n c,J (i:Int)] w fun r w'=>∃A' c',r= .returned (.slice A' (xs++jF i).length c')/\iy w' w.heap.size 5 jv 1 A' (xs++jF i).length c' (xs++jF i)/\Le w w':=by
 have hl:=hV.1
 refine En func130 Z (Rn 1 Z (Sq (Rn 2 Z (Cn Z (dF (by omega)) (Sn (Rr 2 Z (Yd Z (XH i (by omega) w) ?_)))))))
 rintro _ e ⟨m,o,rfl,f,j⟩
 have d:=(Le.refl w).trans j
 have s:=jy i (by omega)
 have t:=Ij i
 refine Yd Z (Lx e (hV.le d) (by omega) f.vec (by omega) (by omega)) ?_
 rintro _ u ⟨v,x,rfl,k,l⟩
 refine Yy 1 Z Z Z ?_
 exact⟨_,_,rfl,(k.mono d.size),(d.trans l)⟩
theorem R3 {w:World}{g t:Nat}(h:ik w g t (xs.map jf).toArray)(hl:xs.length=n):Vec w jv 1 (some ⟨g,0,none⟩) n xs:=⟨hl,by
 rw[wR]
 have:=h.sl (s:=1) (n:=n) (by simp[hl])
 simpa using this⟩
theorem R4 (m:List (BitVec 8))(hm:m.length=32)(w:World)(hV:Vec w jv 1 A n xs)(hn:n<=100000):Calls prog 131 #[.slice A n c,.agg (m.map jf).toArray] w fun r w'=>∃A' c',r= .returned (.slice A' (xs++m).length c')/\iy w' w.heap.size 5 jv 1 A' (xs++m).length c' (xs++m)/\Le w w':=by
 have hl:=hV.1
 refine En func131 Z (Sr (Yv Z fun f e o (i:ik e f 23 (m.map jf).toArray) j=>?_))
 have d:=(Le.refl w).trans j
 refine Yx 1 Z (Rr 1 Z (Wa (.Be underlying23 yC Z) Z (Yd Z (Lx e (hV.le d) (by omega) (R3 i hm) (by omega) (by omega)) ?_)))
 rintro _ s ⟨t,u,rfl,k,l⟩
 refine Yy 1 Z Z Z ?_
 exact⟨_,_,rfl,(k.mono d.size),(d.trans l)⟩
theorem aaQ (w:World)(hV:Vec w jv 1 A n xs)(hn:n<=100000)(hU:Vec w jv 1 B m ys)(hm:m<=100000):Calls prog 180 #[.slice A n c,.slice B m d] w fun r w'=>∃A' c',r= .returned (.slice A' [xs,jF m,ys].flatten.length c')/\iy w' w.heap.size 5 jv 1 A' [xs,jF m,ys].flatten.length c' [xs,jF m,ys].flatten/\Le w w':=by
 have hl:=hV.1
 have D:=hU.1
 refine En func180 Z (Rn 1 Z (Rr 3 Z (Yd Z (XH m (by omega) w) ?_)))
 rintro _ F ⟨k,l,rfl,o,t⟩
 have H:=jy m (by omega)
 have I:=Ij m
 refine Yn 1 Z (W.ef Z Z Z (Ef.lQ [_,_,_] underlying266 FC Z (by intro v hv;simp at hv;rcases hv with rfl|rfl|rfl<;>rfl) Z (by decide) (by decide) ?_))
 intro u i K f j
 have e:=((Le.refl w).trans t).trans j
 have f:ik i u 78 #[.slice A n c,.slice k ((jF m).length) l,.slice B m d]:=f
 refine Yd Z (J7 i (f.sl (s:=1) (n:=3) Z) (.cons (tC (hV.le e)) (.cons (tC (o.le j).vec) (.cons (tC (hU.le e)) (.nil _)))) (by simp;omega) (by simp;omega) (by decide)) ?_
 rintro _ L ⟨N,O,rfl,x,y⟩
 have C:=DC x
 refine Yy 1 Z Z Z ?_
 exact⟨_,_,rfl,(C.mono e.size),(e.trans y)⟩
end Go.Proofs.YtkpmaajniagncaaGreatDoor
