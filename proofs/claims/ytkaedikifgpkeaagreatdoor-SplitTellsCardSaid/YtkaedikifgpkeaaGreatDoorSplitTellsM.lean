/- SplitTells: for every input the law answers true and leaves its arguments as they were. -/
import Derived.Test.YtkaedikifgpkeaaGreatDoorSplitTellsL
import Derived.Lib.Mul64
set_option linter.unusedVariables false
set_option linter.unusedSimpArgs false
namespace Go.Proofs.YtkaedikifgpkeaaGreatDoor
open Tryz
open Go Go.Sx
set_option maxRecDepth 20000
structure Hid (p:Prop):Prop where
  out:p
theorem abm (c V T K h l y Y U v e1 e0 R Q1 Q2:Nat)(hc:0<c)(hcV:c*V=T)(hK:K*K=T)(hy:0<y)(hY:Y=y*c)(hU:U=h*c+l/V)(hv:v=l*c%T)(h1:e1=v/K)(h0:e0=v%K)(hR:R=(U*K+e1)%Y)(hQ1:Q1=(U*K+e1)/Y)(hQ2:Q2=(R*K+e0)/Y):
    (R*K+e0)%Y/c=(h*T+l)%y/\Q1*K+Q2=(h*T+l)/y:=by
  have j:0<Y:=by rw[hY];exact Nat.mul_pos hy hc
  have k:K*e1+e0=v:=by rw[h1,h0];exact Nat.div_add_mod v K
  have m:T*(l/V)+v=l*c:=by
    have:l*c/T=l/V:=by rw[<-hcV,Nat.mul_comm c V];exact Nat.mul_div_mul_right l V hc
    rw[<-this,hv];exact Nat.div_add_mod _ _
  have e:(U*K+e1)*K+e0=(h*T+l)*c:=by
    rw[Nat.add_mul,Nat.mul_assoc,hK,Nat.mul_comm e1,Nat.add_assoc,k,hU,Nat.add_mul,Nat.mul_comm (l/V),Nat.add_assoc,m,Nat.add_mul,Nat.mul_right_comm]
  have n:Y*Q1+R=U*K+e1:=by rw[hQ1,hR];exact Nat.div_add_mod _ _
  have d:Y*Q2+(R*K+e0)%Y=R*K+e0:=by rw[hQ2];exact Nat.div_add_mod _ _
  have b:(R*K+e0)%Y<Y:=Nat.mod_lt _ j
  obtain⟨r,hr⟩:∃r,r=(R*K+e0)%Y:=⟨_,rfl⟩
  rw[<-hr]at d b ⊢
  obtain⟨N,hN⟩:∃N,N=h*T+l:=⟨_,rfl⟩
  rw[<-hN]at e ⊢
  obtain⟨G,hG⟩:∃G,G=Q1*K+Q2:=⟨_,rfl⟩
  rw[<-hG]
  have o:y*G*c+r=N*c:=by
    rw[<-e,<-n,Nat.add_mul,Nat.add_assoc,<-d,hG,hY,Nat.mul_right_comm,Nat.mul_add,Nat.mul_assoc (y*c),Nat.add_assoc]
  have s:y*G<=N:=Nat.le_of_mul_le_mul_right (by omega) hc
  obtain⟨D,hD⟩:=Nat.le.dest s
  have f:r=D*c:=by rw[<-hD,Nat.add_mul]at o;omega
  have i:D<y:=by rw[f,hY]at b;exact Nat.lt_of_mul_lt_mul_right b
  rw[f,Nat.mul_div_cancel _ hc,<-hD,Nat.mul_add_mod,Nat.mod_eq_of_lt i,Nat.mul_add_div hy,Nat.div_eq_of_lt i]
  exact⟨rfl,rfl⟩
theorem abn (s t h l y:Nat)(hst:2^s*2^t=18446744073709551616)(hY2:9223372036854775808<=y*2^s)(hY1:y*2^s<18446744073709551616)(hh:h<y)(hl:l<18446744073709551616):
    ∃Y H G U v,Hid (y*2^s%18446744073709551616=Y)/\Hid (h*2^s%18446744073709551616=H)/\Hid (l/2^t=G)/\Hid (H|||G=U)/\Hid (l*2^s%18446744073709551616=v)/\9223372036854775808<=Y/\Y<18446744073709551616/\U<Y/\v<18446744073709551616/\H<18446744073709551616/\G<18446744073709551616/\
      ∀e1 e0 R Q1 Q2,e1=v/4294967296->e0=v%4294967296->R=(U*4294967296+e1)%Y->Q1=(U*4294967296+e1)/Y->Q2=(R*4294967296+e0)/Y->
        Hid ((R*4294967296+e0)%Y/2^s=(h*18446744073709551616+l)%y)/\Hid ((Q1*4294967296%18446744073709551616+Q2)%18446744073709551616=(h*18446744073709551616+l)/y):=by
  have hS:2^s<=18446744073709551616:=by rw[<-hst];exact Nat.le_mul_of_pos_right _ (Nat.two_pow_pos t)
  have hG:l/2^t<2^s:=by rw[Nat.div_lt_iff_lt_mul (Nat.two_pow_pos t),hst];exact hl
  have hHY:h*2^s+2^s<=y*2^s:=by rw[<-Nat.succ_mul];exact Nat.mul_le_mul_right _ hh
  have hH:h*2^s%18446744073709551616=h*2^s:=Nat.mod_eq_of_lt (Nat.lt_of_le_of_lt (Nat.le_trans (Nat.le_add_right _ _) hHY) hY1)
  have hor:h*2^s|||l/2^t=h*2^s+l/2^t:=by rw[Nat.mul_comm h];exact(Nat.two_pow_add_eq_or_of_lt hG h).symm
  refine⟨y*2^s,h*2^s,l/2^t,h*2^s+l/2^t,l*2^s%18446744073709551616,⟨Nat.mod_eq_of_lt hY1⟩,⟨hH⟩,⟨rfl⟩,⟨hor⟩,⟨rfl⟩,hY2,hY1,Nat.lt_of_lt_of_le (Nat.add_lt_add_left hG _) hHY,Nat.mod_lt _ (by decide),by rw[<-hH];exact Nat.mod_lt _ (by decide),Nat.lt_of_lt_of_le hG hS,?_⟩
  intro e1 e0 R Q1 Q2 b c hR d e
  obtain⟨f,i⟩:=abm (2^s) (2^t) 18446744073709551616 4294967296 h l y _ _ _ e1 e0 R Q1 Q2 (Nat.two_pow_pos s) hst (by decide) (by omega) rfl rfl rfl b c hR d e
  refine⟨⟨f⟩,⟨?_⟩⟩
  rw[Nat.mod_add_mod,i]
  apply Nat.mod_eq_of_lt
  rw[Nat.div_lt_iff_lt_mul (by omega)]
  exact Nat.lt_of_lt_of_le (show h*18446744073709551616+l<(h+1)*18446744073709551616 from by rw[Nat.succ_mul];exact Nat.add_lt_add_left hl _) (by rw[Nat.mul_comm 18446744073709551616 y];exact Nat.mul_le_mul_right _ hh)
theorem Iq (x y:Nat)(hx:x<18446744073709551616)(hy:y<18446744073709551616)(w:World):Calls prog 213 #[.int .u64 ((x:Nat):Int),.int .u64 ((y:Nat):Int)] w fun e w'=>e= .returned (.tuple #[.int .u64 ((x*y/18446744073709551616:Nat):Int),.int .u64 ((x*y%18446744073709551616:Nat):Int)])/\Le w w':=by
 obtain⟨d,f,h,c⟩:=Go.Lib.mul64_hi x y hx hy
 have i:x*y/18446744073709551616<18446744073709551616:=by
  rw[Nat.div_lt_iff_lt_mul (by decide)]
  exact Nat.mul_lt_mul'' hx hy
 have ha:=Go.Lib.half_mul_le (a:=x/4294967296) (b:=y/4294967296) (by omega) (by omega)
 have hb:=Go.Lib.half_mul_le (a:=x/4294967296) (b:=y%4294967296) (by omega) (by omega)
 have hc:=Go.Lib.half_mul_le (a:=x%4294967296) (b:=y/4294967296) (by omega) (by omega)
 refine enter func213 rfl rfl (Sr (Wn 2 rfl (Nx (Sr (Wn 1 rfl (Wa (.J5 x 4294967295 (x%4294967296) rfl rfl rfl rfl (by omega) (by omega) (mask32 _)) rfl (Wn 1 rfl (Nx (Sr (Wn 1 rfl (Wa (.qW x 32 (x/4294967296) rfl rfl rfl rfl (by decide) rfl) rfl (Wn 1 rfl (Nx (Sr (Wn 1 rfl ?_)))))))))))))))
 refine Wa (.J5 y 4294967295 (y%4294967296) rfl rfl rfl rfl (by omega) (by omega) (mask32 _)) rfl (Wn 1 rfl (Nx (Sr (Wn 1 rfl (Wa (.qW y 32 (y/4294967296) rfl rfl rfl rfl (by decide) rfl) rfl (Wn 1 rfl (Nx (Sr (Wn 2 rfl (Wa (.mulN (x%4294967296) (y%4294967296) ((x%4294967296)*(y%4294967296)) rfl rfl rfl rfl (Nat.mod_eq_of_lt d)) rfl (Wn 1 rfl (Nx (Sr (Wn 2 rfl ?_))))))))))))))
 refine Wa (.mulN (x/4294967296) (y%4294967296) ((x/4294967296)*(y%4294967296)) rfl rfl rfl rfl (Nat.mod_eq_of_lt (by omega))) rfl (Wn 1 rfl (Wa (.qW ((x%4294967296)*(y%4294967296)) 32 ((x%4294967296)*(y%4294967296)/4294967296) rfl rfl rfl rfl (by decide) rfl) rfl (Wa (.addN ((x/4294967296)*(y%4294967296)) ((x%4294967296)*(y%4294967296)/4294967296) ((x/4294967296)*(y%4294967296)+(x%4294967296)*(y%4294967296)/4294967296) rfl rfl rfl rfl (Nat.mod_eq_of_lt f)) rfl (Wn 1 rfl (Nx (Sr (Wn 1 rfl ?_)))))))
 refine Wa (.J5 ((x/4294967296)*(y%4294967296)+(x%4294967296)*(y%4294967296)/4294967296) 4294967295 (((x/4294967296)*(y%4294967296)+(x%4294967296)*(y%4294967296)/4294967296)%4294967296) rfl rfl rfl rfl (by omega) (by omega) (mask32 _)) rfl (Wn 1 rfl (Nx (Sr (Wn 1 rfl (Wa (.qW ((x/4294967296)*(y%4294967296)+(x%4294967296)*(y%4294967296)/4294967296) 32 (((x/4294967296)*(y%4294967296)+(x%4294967296)*(y%4294967296)/4294967296)/4294967296) rfl rfl rfl rfl (by decide) rfl) rfl (Wn 1 rfl (Nx (Sr (Wn 3 rfl ?_)))))))))
 refine Wa (.mulN (x%4294967296) (y/4294967296) ((x%4294967296)*(y/4294967296)) rfl rfl rfl rfl (Nat.mod_eq_of_lt (by omega))) rfl (Wa (.addN (((x/4294967296)*(y%4294967296)+(x%4294967296)*(y%4294967296)/4294967296)%4294967296) ((x%4294967296)*(y/4294967296)) (((x/4294967296)*(y%4294967296)+(x%4294967296)*(y%4294967296)/4294967296)%4294967296+(x%4294967296)*(y/4294967296)) rfl rfl rfl rfl (Nat.mod_eq_of_lt h)) rfl (Wn 1 rfl (Nx (Sr (Wn 2 rfl (Wa (.mulN (x/4294967296) (y/4294967296) ((x/4294967296)*(y/4294967296)) rfl rfl rfl rfl (Nat.mod_eq_of_lt (by omega))) rfl (Wn 1 rfl ?_)))))))
 refine Wa (.addN ((x/4294967296)*(y/4294967296)) (((x/4294967296)*(y%4294967296)+(x%4294967296)*(y%4294967296)/4294967296)/4294967296) ((x/4294967296)*(y/4294967296)+((x/4294967296)*(y%4294967296)+(x%4294967296)*(y%4294967296)/4294967296)/4294967296) rfl rfl rfl rfl (Nat.mod_eq_of_lt (by omega))) rfl (Wn 1 rfl ?_)
 refine Wa (.qW (((x/4294967296)*(y%4294967296)+(x%4294967296)*(y%4294967296)/4294967296)%4294967296+(x%4294967296)*(y/4294967296)) 32 ((((x/4294967296)*(y%4294967296)+(x%4294967296)*(y%4294967296)/4294967296)%4294967296+(x%4294967296)*(y/4294967296))/4294967296) rfl rfl rfl rfl (by decide) rfl) rfl ?_
 refine Wa (.addN ((x/4294967296)*(y/4294967296)+((x/4294967296)*(y%4294967296)+(x%4294967296)*(y%4294967296)/4294967296)/4294967296) ((((x/4294967296)*(y%4294967296)+(x%4294967296)*(y%4294967296)/4294967296)%4294967296+(x%4294967296)*(y/4294967296))/4294967296) (x*y/18446744073709551616) rfl rfl rfl rfl ((Nat.mod_eq_of_lt (by rw[c];exact i)).trans c)) rfl ?_
 refine Wn 1 rfl (Nx (Sr (Wn 2 rfl (Wa (.mulN x y (x*y%18446744073709551616) rfl rfl rfl rfl rfl) rfl (Wn 1 rfl (Nx (Rt (E.V6 rfl rfl rfl ?_))))))))
 exact⟨rfl,(Le.refl w)⟩

def TI:ByteArray:=⟨[0,1,2,2,3,3,3,3,4,4,4,4,4,4,4,4,5,5,5,5,5,5,5,5,5,5,5,5,5,5,5,5,6,6,6,6,6,6,6,6,6,6,6,6,6,6,6,6,6,6,6,6,6,6,6,6,6,6,6,6,6,6,6,6,7,7,7,7,7,7,7,7,7,7,7,7,7,7,7,7,7,7,7,7,7,7,7,7,7,7,7,7,7,7,7,7,7,7,7,7,7,7,7,7,7,7,7,7,7,7,7,7,7,7,7,7,7,7,7,7,7,7,7,7,7,7,7,7,8,8,8,8,8,8,8,8,8,8,8,8,8,8,8,8,8,8,8,8,8,8,8,8,8,8,8,8,8,8,8,8,8,8,8,8,8,8,8,8,8,8,8,8,8,8,8,8,8,8,8,8,8,8,8,8,8,8,8,8,8,8,8,8,8,8,8,8,8,8,8,8,8,8,8,8,8,8,8,8,8,8,8,8,8,8,8,8,8,8,8,8,8,8,8,8,8,8,8,8,8,8,8,8,8,8,8,8,8,8,8,8,8,8,8,8,8,8,8,8,8,8,8,8,8,8,8,8].toArray⟩

theorem len8:∀m,16<=m->m<64->TI[m]? =some (if m<32 then 5 else 6):=by
  have h:∀m:Fin 64,16<=m.val->TI[m.val]? =some (if m.val<32 then 5 else 6):=by decide+kernel
  exact fun m b c=>h ⟨m,c⟩ b

theorem Qu (y:Nat)(h1:1152921504606846976<=y)(h2:y<4611686018427387904)(w:World):Calls prog 227 #[.int .u64 ((y:Nat):Int)] w fun e w'=>e= .returned (.int .i64 (if y<2305843009213693952 then 61 else 62))/\Le w w':=by
 refine enter func227 rfl rfl (Sr (Wn 1 rfl (Nx (Sq (Sr (Wn 2 rfl (Nx (WC.oV rfl (fun _=>?_) (fun h=>absurd h (by simp;omega))))))))))
 refine Sr (Wn 1 rfl (Wa (.qW y 32 (y/4294967296) rfl rfl rfl rfl (by decide) rfl) rfl (Wn 1 rfl (Nx (WC.region (Wn 1 rfl (Nx (Sq (Sr (Wn 2 rfl (Nx (WC.oV rfl (fun _=>?_) (fun h=>absurd h (by simp;omega))))))))))))))
 refine Sr (Wn 1 rfl (Wa (.qW (y/4294967296) 16 (y/281474976710656) rfl rfl rfl rfl (by decide) (by omega)) rfl (Wn 1 rfl (Nx (WC.region (Wn 1 rfl (Wa (.add rfl rfl (by omega)) rfl (Wn 1 rfl (Nx (Sq (Sr (Wn 2 rfl (Nx (WC.oV rfl (fun _=>?_) (fun h=>absurd h (by simp;omega))))))))))))))))
 refine Sr (Wn 1 rfl (Wa (.qW (y/281474976710656) 8 (y/72057594037927936) rfl rfl rfl rfl (by decide) (by omega)) rfl (Wn 1 rfl (Nx (WC.region (Wn 1 rfl (Wa (.add rfl rfl (by omega)) rfl (Wn 1 rfl (Nx (Sr (Wn 2 rfl (Wr (.toU8 (y/72057594037927936) (lY underlying24) underlying5 rfl rfl) rfl ?_))))))))))))
 refine Wa (.Py (y/72057594037927936) (if y/72057594037927936<32 then 5 else 6) underlying9 rfl rfl (by rw[BitVec.toNat_ofNat,Nat.mod_eq_of_lt (by omega)]) (len8 (y/72057594037927936) (by omega) (by omega))) rfl ?_
 refine Wr (.yh (lY underlying5) underlying3 rfl (IntWalk.i64_in _ (by split<;>decide))) rfl ?_
 refine Wa (.add rfl rfl (by split<;>decide)) rfl ?_
 refine Wn 1 rfl (Nx (Rt (E.jQ rfl rfl ?_)))
 exact⟨by congr 2;split<;>split<;>simp_all<;>omega,(Le.refl w)⟩

theorem Mk (y:Nat)(h1:1152921504606846976<=y)(h2:y<4611686018427387904)(w:World):Calls prog 225 #[.int .u64 ((y:Nat):Int)] w fun e w'=>e= .returned (.int .i64 (if y<2305843009213693952 then 3 else 2))/\Le w w':=by
 refine enter func225 rfl rfl ?_
 have b:=Le.refl w
 refine Sr (Wn 1 rfl (Nx (Sr (Wn 1 rfl (W.cl VK rfl rfl (Qu y h1 h2 w) ?_)))))
 rintro _ f ⟨rfl,c⟩
 have d:=b.trans c
 refine Wa (.sub rfl rfl (by split<;>omega)) rfl ?_
 refine Wn 1 rfl (Nx (Rt (E.jQ rfl rfl ?_)))
 exact⟨by congr 2;split<;>rfl,d⟩

theorem FX (s t h l y:Nat)(hs:s+t=64)(hst:2^s*2^t=18446744073709551616)(h1:9223372036854775808<=y*2^s)(h2:y*2^s<18446744073709551616)(hy:0<y)(hh:h<y)(hl:l<18446744073709551616)(hy2:y<18446744073709551616)(hlz:∀w,Calls prog 225 #[.int .u64 ((y:Nat):Int)] w (fun e w'=>e= .returned (.int .i64 (s:Int))/\Le w w'))(w:World):Calls prog 217 #[.int .u64 ((h:Nat):Int),.int .u64 ((l:Nat):Int),.int .u64 ((y:Nat):Int)] w fun e w'=>e= .returned (.tuple #[.int .u64 (((h*18446744073709551616+l)/y:Nat):Int),.int .u64 (((h*18446744073709551616+l)%y:Nat):Int)])/\Le w w':=by
 obtain⟨Y,Hn,Gn,U,v,fY,fH,fG,fU,fv,abI,abJ,hU,T,V,X,fin⟩:=abn s t h l y hst h1 h2 hh hl
 obtain⟨a,ha⟩:∃a,a=Y/4294967296:=⟨_,rfl⟩
 obtain⟨b,C⟩:∃b,b=Y%4294967296:=⟨_,rfl⟩
 obtain⟨i,D⟩:∃i,i=v/4294967296:=⟨_,rfl⟩
 obtain⟨d,u⟩:∃d,d=v%4294967296:=⟨_,rfl⟩
 have hY:Y=a*4294967296+b:=by omega
 have Z:2147483648<=a:=by omega
 have aa:a<4294967296:=by omega
 have m:b<4294967296:=by omega
 have ab:i<4294967296:=by omega
 have ac:d<4294967296:=by omega
 obtain⟨R,hR⟩:∃R,R=(U*4294967296+i)%Y:=⟨_,rfl⟩
 obtain⟨c,j⟩:∃c,c=(U*4294967296+i)/Y:=⟨_,rfl⟩
 obtain⟨f,k⟩:∃f,f=(R*4294967296+d)/Y:=⟨_,rfl⟩
 have ZW:R<Y:=by rw[hR];exact Nat.mod_lt _ (by omega)
 obtain⟨hfin,abo⟩:=fin i d R c f D u hR j k
 refine enter func217 rfl rfl ?_
 have x:=Le.refl w
 refine Sr (Wn 2 rfl (Nx (Sq (Sr (Wn 2 rfl (Nx (WC.oV rfl (fun h=>absurd h (by simp;omega)) (fun _=>?_))))))))
 refine Sn (Sq (Sr (Wn 3 rfl (Nx (WC.oV rfl (fun h=>absurd h (by simp;omega)) (fun _=>?_))))))
 refine Sn (Sq (Sr (Wn 2 rfl (Nx (WC.cond rfl (fun F=>?_) (fun F=>?_))))))
 ·have H:h=0:=by omega
  subst H
  refine Sq (WC.draw [0,1,2,3,4,5,6,7] mixed (by kernel_rfl) fun w6 I=>?_)
  have J:=x.trans I
  refine G.run 2 rfl (Ga rfl (.tF l y (l/y) rfl rfl rfl rfl (by omega) (by omega) rfl) (G.run 2 rfl (Ga rfl (.om l y (l%y) rfl rfl rfl rfl (by omega) rfl) (G.run 2 rfl (G.nil (E.eY (Rt (E.eX (E.V6 rfl rfl rfl ?_)))))))))
  exact⟨by rw[Nat.zero_mul,Nat.zero_add],J⟩
 refine Sn (Sr (Wn 1 rfl (W.cl Zq rfl rfl (hlz w) ?_)))
 rintro _ ad ⟨rfl,K⟩
 have L:=x.trans K
 refine Wr (.yh (lY underlying3) underlying154 rfl (IntWalk.u64_in _ (by omega))) rfl (Wn 1 rfl (Nx (Sr (Wn 2 rfl (Wa (.Px y s Y rfl rfl rfl rfl (show s<=64 by omega) fY.out) rfl (Wn 1 rfl (Nx (Sr (Wn 1 rfl (Wa (.qW Y 32 a rfl rfl rfl rfl (by decide) (by omega)) rfl (Wn 1 rfl (Nx (Sr (Wn 1 rfl ?_))))))))))))))
 refine Wa (.J5 Y 4294967295 b rfl rfl rfl rfl (by omega) (by omega) ((mask32 _).trans C.symm)) rfl (Wn 1 rfl (Nx (Sr (Wn 2 rfl (Wa (.Px h s Hn rfl rfl rfl rfl (show s<=64 by omega) fH.out) rfl (Wn 2 rfl (Wa (.xq 64 s t rfl rfl rfl rfl (by omega) (by omega)) rfl (Wa (.qW l t Gn rfl rfl rfl rfl (show t<=64 by omega) fG.out) rfl ?_))))))))
 refine Wa (.orE Hn Gn U rfl rfl rfl rfl (by omega) (by omega) fU.out) rfl (Wn 1 rfl (Nx (Sr (Wn 2 rfl (Wa (.Px l s v rfl rfl rfl rfl (show s<=64 by omega) fv.out) rfl (Wn 1 rfl (Nx (Sr (Wn 1 rfl (Wa (.qW v 32 i rfl rfl rfl rfl (by decide) (by omega)) rfl (Wn 1 rfl (Nx (Sr (Wn 1 rfl ?_))))))))))))))
 refine Wa (.J5 v 4294967295 d rfl rfl rfl rfl (by omega) (by omega) ((mask32 _).trans u.symm)) rfl (Wn 1 rfl (Nx (Sr (Wn 2 rfl (Wa (.tF U a (U/a) rfl rfl rfl rfl (by omega) (by omega) rfl) rfl (Wn 1 rfl (Nx (Sr (Wn 3 rfl (Wa (.mulN (U/a) a (U/a*a) rfl rfl rfl rfl (Nat.mod_eq_of_lt (Nat.lt_of_le_of_lt (Nat.div_mul_le_self _ _) (by omega)))) rfl (Wa (.xq U (U/a*a) (U%a) rfl rfl rfl rfl (Nat.le_trans (Nat.div_mul_le_self _ _) (by omega)) (LJ U a (by omega))) rfl ?_)))))))))))
 refine Wn 1 rfl (Nx (WC.cut (ι:=Unit) (fun()=>[(2,.int .u64 ((Y:Nat):Int)),(8,.int .u64 ((s:Nat):Int)),(9,.int .u64 ((a:Nat):Int)),(10,.int .u64 ((b:Nat):Int)),(11,.int .u64 ((U:Nat):Int)),(13,.int .u64 ((i:Nat):Int)),(14,.int .u64 ((d:Nat):Int)),(15,.int .u64 ((c:Nat):Int))]) (fun() z=>Le w z) ?_ ?_))
 ·refine WC.block (WC.loop (ι:=Nat×Nat) (fun⟨qh,rh⟩=>[(2,.int .u64 ((Y:Nat):Int)),(8,.int .u64 ((s:Nat):Int)),(9,.int .u64 ((a:Nat):Int)),(10,.int .u64 ((b:Nat):Int)),(11,.int .u64 ((U:Nat):Int)),(13,.int .u64 ((i:Nat):Int)),(14,.int .u64 ((d:Nat):Int)),(15,.int .u64 ((qh:Nat):Int)),(16,.int .u64 ((rh:Nat):Int))]) (fun⟨qh,rh⟩ wl=>Le w wl/\qh*a+rh=U/\c<=qh/\rh<4294967296/\qh<=4294967297) (fun⟨qh,rh⟩=>qh) (U/a,U%a) ?_ ?_ ?_)
  ·exact .of rfl
  ·exact⟨L,by rw[Nat.mul_comm];exact Nat.div_add_mod _ _,by rw[j];exact Eh hY (by omega) hU (by omega),Nat.lt_of_lt_of_le (Nat.mod_lt _ (by omega)) (by omega),Eg hY (by omega) (by omega) hU⟩
  rintro⟨qh,rh⟩ wl ⟨Ll,hi,hq,hr,N⟩
  refine Sq (Sr (Wn 2 rfl ?_))
  by_cases hb:4294967296<=qh
  ·refine Wn 1 rfl (W.skip rfl rfl rfl (dT (by omega)) rfl rfl (W.skip rfl rfl rfl (dT (by omega)) rfl rfl (W.skip rfl rfl rfl (dT (by omega)) rfl rfl (W.skip rfl rfl rfl (dT (by omega)) rfl rfl (W.skip rfl rfl rfl (dT (by omega)) rfl rfl ?_)))))
   refine W.skip rfl rfl rfl (dT (by omega)) rfl rfl (W.skip rfl rfl rfl (dT (by omega)) rfl rfl (W.skip rfl rfl rfl (dT (by omega)) rfl rfl (Wa (.mM rfl (dT (by omega)) rfl) rfl ?_)))
   have hgt:c<qh:=by rw[j];exact Fv hY hU (by omega) hi (by omega)
   have hd:qh*a=(qh-1)*a+a:=by rw[<-Nat.succ_mul];congr 1;omega
   have hinv:(qh-1)*a+(rh+a)=U:=by omega
   refine Nx (WC.gL rfl (Sn (WC.block (Sr (Wn 1 rfl (Wa (.xq qh 1 (qh-1) rfl rfl rfl rfl (by omega) (by omega)) rfl (Wn 1 rfl (Nx (Sr (Wn 2 rfl (Wa (.addN rh a (rh+a) rfl rfl rfl rfl (by omega)) rfl (Wn 1 rfl (Nx (Sr (Wn 2 rfl (Nx (WC.cond rfl (fun n=>?_) (fun n=>?_))))))))))))))))))
   ·have hqe:qh-1=c:=Nat.le_antisymm (by rw[j];exact AA hY (by omega) m hinv (by omega) (by omega)) (by omega)
    refine WC.exit (E.SL rfl (E.fC (E.gW (E.meet () (.cons rfl (.cons rfl (.cons rfl (.cons rfl (.cons rfl (.cons rfl (.cons rfl (.cons' rfl (int_eq (by rw[hqe])) (.nil _))))))))) ?_))))
    exact Ll
   refine WC.skip (E.gI (E.again (qh-1,rh+a) (.of rfl) ?_ ?_))
   ·exact⟨Ll,hinv,by omega,by omega,by omega⟩
   first|omega|(simp only[];omega)
  refine Wn 1 rfl (W.yg (Any.rd (.move rfl) _) rfl rfl rfl (dF (by omega)) rfl rfl (W.yg (Any.rd (.move rfl) _) rfl rfl rfl (dF (by omega)) rfl rfl ?_))
  have TJ:qh*b<18446744073709551616:=Nat.lt_of_le_of_lt (Nat.mul_le_mul (show qh<=4294967295 by omega) (show b<=4294967295 by omega)) (by decide)
  refine W.yg (Any.rd (.mulN qh b (qh*b) rfl rfl rfl rfl (Nat.mod_eq_of_lt TJ)) _) rfl rfl rfl (dF (by omega)) rfl rfl (W.yg (Any.rd (.move rfl) _) rfl rfl rfl (dF (by omega)) rfl rfl (W.yg (Any.rd (.mulN 4294967296 rh (4294967296*rh) rfl rfl rfl rfl (by omega)) _) rfl rfl rfl (dF (by omega)) rfl rfl (W.yg (Any.rd (.move rfl) _) rfl rfl rfl (dF (by omega)) rfl rfl (W.yg (Any.rd (.addN (4294967296*rh) i (4294967296*rh+i) rfl rfl rfl rfl (by omega)) _) rfl rfl rfl (dF (by omega)) rfl rfl (W.yg (Any.rd (.gtr rfl rfl) _) rfl rfl rfl (dF (by omega)) rfl rfl ?_)))))
  refine Wa (.mO rfl (dF (by omega)) rfl) rfl (Nx (WC.cond rfl (fun O=>?_) (fun O=>?_)))
  ·have hgt:c<qh:=by rw[j];exact Fv hY hU (by omega) hi (by omega)
   have hd:qh*a=(qh-1)*a+a:=by rw[<-Nat.succ_mul];congr 1;omega
   have hinv:(qh-1)*a+(rh+a)=U:=by omega
   refine Sn (WC.block (Sr (Wn 1 rfl (Wa (.xq qh 1 (qh-1) rfl rfl rfl rfl (by omega) (by omega)) rfl (Wn 1 rfl (Nx (Sr (Wn 2 rfl (Wa (.addN rh a (rh+a) rfl rfl rfl rfl (by omega)) rfl (Wn 1 rfl (Nx (Sr (Wn 2 rfl (Nx (WC.cond rfl (fun n=>?_) (fun n=>?_))))))))))))))))
   ·have hqe:qh-1=c:=Nat.le_antisymm (by rw[j];exact AA hY (by omega) m hinv (by omega) (by omega)) (by omega)
    refine WC.exit (E.SL rfl (E.fC (E.gW (E.meet () (.cons rfl (.cons rfl (.cons rfl (.cons rfl (.cons rfl (.cons rfl (.cons rfl (.cons' rfl (int_eq (by rw[hqe])) (.nil _))))))))) ?_))))
    exact Ll
   refine WC.skip (E.gI (E.again (qh-1,rh+a) (.of rfl) ?_ ?_))
   ·exact⟨Ll,hinv,by omega,by omega,by omega⟩
   first|omega|(simp only[];omega)
  have hqe:qh=c:=Nat.le_antisymm (by rw[j];exact J6 hY (by omega) hi (by omega)) hq
  refine WC.exit (E.fC (E.fC (E.gW (E.meet () (.cons rfl (.cons rfl (.cons rfl (.cons rfl (.cons rfl (.cons rfl (.cons rfl (.cons' rfl (int_eq (by rw[hqe])) (.nil _))))))))) ?_))))
  exact Ll
 rintro⟨⟩ z P
 refine Sr (Wn 1 rfl (Wa (.mulN U 4294967296 (U*4294967296%18446744073709551616) rfl rfl rfl rfl rfl) rfl (Wn 1 rfl (Wa (.addN (U*4294967296%18446744073709551616) i ((U*4294967296+i)%18446744073709551616) rfl rfl rfl rfl (by rw[Nat.mod_add_mod])) rfl ?_))))
 refine Wn 2 rfl (Wa (.mulN c Y (c*Y%18446744073709551616) rfl rfl rfl rfl rfl) rfl (Wa (.xq ((U*4294967296+i)%18446744073709551616) (c*Y%18446744073709551616) R rfl rfl rfl rfl (Nat.le_of_lt (Nat.mod_lt _ (by decide))) ((Hu Y _ _ j (by omega) (by omega)).trans hR.symm)) rfl (Wn 1 rfl (Nx (Sr (Wn 2 rfl (Wa (.tF R a (R/a) rfl rfl rfl rfl (by omega) (by omega) rfl) rfl (Wn 1 rfl (Nx (Sr (Wn 3 rfl ?_)))))))))))
 refine Wa (.mulN (R/a) a (R/a*a) rfl rfl rfl rfl (Nat.mod_eq_of_lt (Nat.lt_of_le_of_lt (Nat.div_mul_le_self _ _) (by omega)))) rfl (Wa (.xq R (R/a*a) (R%a) rfl rfl rfl rfl (Nat.le_trans (Nat.div_mul_le_self _ _) (by omega)) (LJ R a (by omega))) rfl (Wn 1 rfl (Nx (WC.cut (ι:=Unit) (fun()=>[(2,.int .u64 ((Y:Nat):Int)),(8,.int .u64 ((s:Nat):Int)),(9,.int .u64 ((a:Nat):Int)),(10,.int .u64 ((b:Nat):Int)),(14,.int .u64 ((d:Nat):Int)),(17,.int .u64 ((R:Nat):Int)),(15,.int .u64 ((c:Nat):Int)),(18,.int .u64 ((f:Nat):Int))]) (fun() A=>Le w A) ?_ ?_))))
 ·refine WC.block (WC.loop (ι:=Nat×Nat) (fun⟨qh,rh⟩=>[(2,.int .u64 ((Y:Nat):Int)),(8,.int .u64 ((s:Nat):Int)),(9,.int .u64 ((a:Nat):Int)),(10,.int .u64 ((b:Nat):Int)),(14,.int .u64 ((d:Nat):Int)),(17,.int .u64 ((R:Nat):Int)),(15,.int .u64 ((c:Nat):Int)),(18,.int .u64 ((qh:Nat):Int)),(16,.int .u64 ((rh:Nat):Int))]) (fun⟨qh,rh⟩ wl=>Le w wl/\qh*a+rh=R/\f<=qh/\rh<4294967296/\qh<=4294967297) (fun⟨qh,rh⟩=>qh) (R/a,R%a) ?_ ?_ ?_)
  ·exact .of rfl
  ·exact⟨P,by rw[Nat.mul_comm];exact Nat.div_add_mod _ _,by rw[k];exact Eh hY (by omega) ZW (by omega),Nat.lt_of_lt_of_le (Nat.mod_lt _ (by omega)) (by omega),Eg hY (by omega) (by omega) ZW⟩
  rintro⟨qh,rh⟩ wl ⟨Ll,hi,hq,hr,N⟩
  refine Sq (Sr (Wn 2 rfl ?_))
  by_cases hb:4294967296<=qh
  ·refine Wn 1 rfl (W.skip rfl rfl rfl (dT (by omega)) rfl rfl (W.skip rfl rfl rfl (dT (by omega)) rfl rfl (W.skip rfl rfl rfl (dT (by omega)) rfl rfl (W.skip rfl rfl rfl (dT (by omega)) rfl rfl (W.skip rfl rfl rfl (dT (by omega)) rfl rfl ?_)))))
   refine W.skip rfl rfl rfl (dT (by omega)) rfl rfl (W.skip rfl rfl rfl (dT (by omega)) rfl rfl (W.skip rfl rfl rfl (dT (by omega)) rfl rfl (Wa (.mM rfl (dT (by omega)) rfl) rfl ?_)))
   have hgt:f<qh:=by rw[k];exact Fv hY ZW (by omega) hi (by omega)
   have hd:qh*a=(qh-1)*a+a:=by rw[<-Nat.succ_mul];congr 1;omega
   have hinv:(qh-1)*a+(rh+a)=R:=by omega
   refine Nx (WC.gL rfl (Sn (WC.block (Sr (Wn 1 rfl (Wa (.xq qh 1 (qh-1) rfl rfl rfl rfl (by omega) (by omega)) rfl (Wn 1 rfl (Nx (Sr (Wn 2 rfl (Wa (.addN rh a (rh+a) rfl rfl rfl rfl (by omega)) rfl (Wn 1 rfl (Nx (Sr (Wn 2 rfl (Nx (WC.cond rfl (fun o=>?_) (fun o=>?_))))))))))))))))))
   ·have hqe:qh-1=f:=Nat.le_antisymm (by rw[k];exact AA hY (by omega) m hinv (by omega) (by omega)) (by omega)
    refine WC.exit (E.SL rfl (E.fC (E.gW (E.meet () (.cons rfl (.cons rfl (.cons rfl (.cons rfl (.cons rfl (.cons rfl (.cons rfl (.cons' rfl (int_eq (by rw[hqe])) (.nil _))))))))) ?_))))
    exact Ll
   refine WC.skip (E.gI (E.again (qh-1,rh+a) (.of rfl) ?_ ?_))
   ·exact⟨Ll,hinv,by omega,by omega,by omega⟩
   first|omega|(simp only[];omega)
  refine Wn 1 rfl (W.yg (Any.rd (.move rfl) _) rfl rfl rfl (dF (by omega)) rfl rfl (W.yg (Any.rd (.move rfl) _) rfl rfl rfl (dF (by omega)) rfl rfl ?_))
  have TJ:qh*b<18446744073709551616:=Nat.lt_of_le_of_lt (Nat.mul_le_mul (show qh<=4294967295 by omega) (show b<=4294967295 by omega)) (by decide)
  refine W.yg (Any.rd (.mulN qh b (qh*b) rfl rfl rfl rfl (Nat.mod_eq_of_lt TJ)) _) rfl rfl rfl (dF (by omega)) rfl rfl (W.yg (Any.rd (.move rfl) _) rfl rfl rfl (dF (by omega)) rfl rfl (W.yg (Any.rd (.mulN 4294967296 rh (4294967296*rh) rfl rfl rfl rfl (by omega)) _) rfl rfl rfl (dF (by omega)) rfl rfl (W.yg (Any.rd (.move rfl) _) rfl rfl rfl (dF (by omega)) rfl rfl (W.yg (Any.rd (.addN (4294967296*rh) d (4294967296*rh+d) rfl rfl rfl rfl (by omega)) _) rfl rfl rfl (dF (by omega)) rfl rfl (W.yg (Any.rd (.gtr rfl rfl) _) rfl rfl rfl (dF (by omega)) rfl rfl ?_)))))
  refine Wa (.mO rfl (dF (by omega)) rfl) rfl (Nx (WC.cond rfl (fun Q=>?_) (fun Q=>?_)))
  ·have hgt:f<qh:=by rw[k];exact Fv hY ZW (by omega) hi (by omega)
   have hd:qh*a=(qh-1)*a+a:=by rw[<-Nat.succ_mul];congr 1;omega
   have hinv:(qh-1)*a+(rh+a)=R:=by omega
   refine Sn (WC.block (Sr (Wn 1 rfl (Wa (.xq qh 1 (qh-1) rfl rfl rfl rfl (by omega) (by omega)) rfl (Wn 1 rfl (Nx (Sr (Wn 2 rfl (Wa (.addN rh a (rh+a) rfl rfl rfl rfl (by omega)) rfl (Wn 1 rfl (Nx (Sr (Wn 2 rfl (Nx (WC.cond rfl (fun o=>?_) (fun o=>?_))))))))))))))))
   ·have hqe:qh-1=f:=Nat.le_antisymm (by rw[k];exact AA hY (by omega) m hinv (by omega) (by omega)) (by omega)
    refine WC.exit (E.SL rfl (E.fC (E.gW (E.meet () (.cons rfl (.cons rfl (.cons rfl (.cons rfl (.cons rfl (.cons rfl (.cons rfl (.cons' rfl (int_eq (by rw[hqe])) (.nil _))))))))) ?_))))
    exact Ll
   refine WC.skip (E.gI (E.again (qh-1,rh+a) (.of rfl) ?_ ?_))
   ·exact⟨Ll,hinv,by omega,by omega,by omega⟩
   first|omega|(simp only[];omega)
  have hqe:qh=f:=Nat.le_antisymm (by rw[k];exact J6 hY (by omega) hi (by omega)) hq
  refine WC.exit (E.fC (E.fC (E.gW (E.meet () (.cons rfl (.cons rfl (.cons rfl (.cons rfl (.cons rfl (.cons rfl (.cons rfl (.cons' rfl (int_eq (by rw[hqe])) (.nil _))))))))) ?_))))
  exact Ll
 rintro⟨⟩ A S
 refine Sr (Wn 1 rfl (Wa (.mulN c 4294967296 (c*4294967296%18446744073709551616) rfl rfl rfl rfl rfl) rfl (Wn 1 rfl (Wa (.addN (c*4294967296%18446744073709551616) f ((c*4294967296%18446744073709551616+f)%18446744073709551616) rfl rfl rfl rfl rfl) rfl (Wn 1 rfl (Wa (.mulN R 4294967296 (R*4294967296%18446744073709551616) rfl rfl rfl rfl rfl) rfl ?_))))))
 refine Wn 1 rfl (Wa (.addN (R*4294967296%18446744073709551616) d ((R*4294967296+d)%18446744073709551616) rfl rfl rfl rfl (by rw[Nat.mod_add_mod])) rfl ?_)
 refine Wn 2 rfl (Wa (.mulN f Y (f*Y%18446744073709551616) rfl rfl rfl rfl rfl) rfl (Wa (.xq ((R*4294967296+d)%18446744073709551616) (f*Y%18446744073709551616) ((R*4294967296+d)%Y) rfl rfl rfl rfl (Nat.le_of_lt (Nat.mod_lt _ (by decide))) (Hu Y _ _ k (by omega) (by omega))) rfl (Wn 1 rfl (Wa (.qW ((R*4294967296+d)%Y) s ((h*18446744073709551616+l)%y) rfl rfl rfl rfl (show s<=64 by omega) hfin.out) rfl (Wn 2 rfl (Nx (Rt ?_)))))))
 refine E.V6 rfl rfl rfl ?_
 exact⟨by rw[abo.out],S⟩

theorem Ir (h l y:Nat)(h1:1152921504606846976<=y)(h2:y<4611686018427387904)(hl:l<18446744073709551616)(w:World):Calls prog 200 #[.int .u64 ((h:Nat):Int),.int .u64 ((l:Nat):Int),.int .u64 ((y:Nat):Int)] w fun e w'=>e= .returned (.int .u64 (((h*18446744073709551616+l)%y:Nat):Int))/\Le w w':=by
 have hd:∀w,Calls prog 217 #[.int .u64 ((h%y:Nat):Int),.int .u64 ((l:Nat):Int),.int .u64 ((y:Nat):Int)] w fun e w'=>e= .returned (.tuple #[.int .u64 (((h%y*18446744073709551616+l)/y:Nat):Int),.int .u64 (((h*18446744073709551616+l)%y:Nat):Int)])/\Le w w':=fun w=>by
  rw[show(h*18446744073709551616+l)%y=(h%y*18446744073709551616+l)%y by rw[Nat.add_mod (h%y*_),Nat.mul_mod (h%y),Nat.mod_mod,<-Nat.mul_mod,<-Nat.add_mod]]
  by_cases hs:y<2305843009213693952
  ·exact FX 3 61 (h%y) l y rfl (by decide) (by omega) (by omega) (by omega) (Nat.mod_lt _ (by omega)) hl (by omega) (fun w=>by have:=Mk y h1 h2 w;rw[if_pos hs]at this;exact this) w
  exact FX 2 62 (h%y) l y rfl (by decide) (by omega) (by omega) (by omega) (Nat.mod_lt _ (by omega)) hl (by omega) (fun w=>by have:=Mk y h1 h2 w;rw[if_neg hs]at this;exact this) w
 refine enter func200 rfl rfl ?_
 have b:=Le.refl w
 refine Sr (Wn 1 rfl (Nx (Sr (Wn 2 rfl (Wa (.om h y (h%y) rfl rfl rfl rfl (by omega) rfl) rfl (Wn 2 rfl (W.cl VJ rfl rfl (hd w) ?_)))))))
 rintro _ f ⟨rfl,c⟩
 have d:=b.trans c
 refine Wn 1 rfl (Wa (.extract rfl rfl) rfl (Wa (.extract rfl rfl) rfl (Wn 2 rfl (Nx (Sr (Wn 2 rfl (Nx (Rt (E.jQ rfl rfl ?_)))))))))
 exact⟨rfl,d⟩
end Go.Proofs.YtkaedikifgpkeaaGreatDoor

namespace Go.Proofs.YtkaedikifgpkeaaGreatDoor
open Tryz
open Go Go.Sx
set_option maxRecDepth 20000
theorem ZA:∀m,8<=m->m<16->TI[m]? =some 4:=by
  have h:∀m:Fin 16,8<=m.val->TI[m.val]? =some 4:=by decide+kernel
  exact fun m b c=>h ⟨m,c⟩ b

theorem Qv (y:Nat)(h1:524288<=y)(h2:y<1048576)(w:World):Calls prog 227 #[.int .u64 ((y:Nat):Int)] w fun e w'=>e= .returned (.int .i64 20)/\Le w w':=by
 refine enter func227 rfl rfl (Sr (Wn 1 rfl (Nx (Sq (Sr (Wn 2 rfl (Nx (WC.oV rfl (fun h=>absurd h (by simp;omega)) (fun _=>?_)))))))))
 refine Sn (Sq (Sr (Wn 2 rfl (Nx (WC.oV rfl (fun _=>?_) (fun h=>absurd h (by simp;omega)))))))
 refine Sr (Wn 1 rfl (Wa (.qW y 16 (y/65536) rfl rfl rfl rfl (by decide) (by omega)) rfl (Wn 1 rfl (Nx (WC.region (Wn 1 rfl (Wa (.add rfl rfl (by omega)) rfl (Wn 1 rfl (Nx (Sq (Sr (Wn 2 rfl (Nx (WC.oV rfl (fun h=>absurd h (by simp;omega)) (fun _=>?_)))))))))))))))
 refine Sn (Sr (Wn 2 rfl (Wr (.toU8 (y/65536) (lY underlying24) underlying5 rfl rfl) rfl (Wa (.Py (y/65536) 4 underlying9 rfl rfl (by rw[BitVec.toNat_ofNat,Nat.mod_eq_of_lt (by omega)]) (ZA (y/65536) (by omega) (by omega))) rfl ?_))))
 refine Wr (.yh (lY underlying5) underlying3 rfl (IntWalk.i64_in _ (by decide))) rfl (Wa (.add rfl rfl (by decide)) rfl (Wn 1 rfl (Nx (Rt (E.jQ rfl rfl ?_)))))
 exact⟨rfl,(Le.refl w)⟩

theorem TK (y:Nat)(h1:524288<=y)(h2:y<1048576)(w:World):Calls prog 225 #[.int .u64 ((y:Nat):Int)] w fun e w'=>e= .returned (.int .i64 44)/\Le w w':=by
 refine enter func225 rfl rfl ?_
 have b:=Le.refl w
 refine Sr (Wn 1 rfl (Nx (Sr (Wn 1 rfl (W.cl VK rfl rfl (Qv y h1 h2 w) ?_)))))
 rintro _ f ⟨rfl,c⟩
 have d:=b.trans c
 refine Wa (.sub rfl rfl (by decide)) rfl (Wn 1 rfl (Nx (Rt (E.jQ rfl rfl ?_))))
 exact⟨rfl,d⟩

theorem NJ (h l y:Nat)(h1:524288<=y)(h2:y<1048576)(hh:h<y)(hl:l<18446744073709551616)(w:World):Calls prog 217 #[.int .u64 ((h:Nat):Int),.int .u64 ((l:Nat):Int),.int .u64 ((y:Nat):Int)] w fun e w'=>e= .returned (.tuple #[.int .u64 (((h*18446744073709551616+l)/y:Nat):Int),.int .u64 (((h*18446744073709551616+l)%y:Nat):Int)])/\Le w w':=FX 44 20 h l y rfl (by decide) (by omega) (by omega) (by omega) hh hl (by omega) (TK y h1 h2) w
end Go.Proofs.YtkaedikifgpkeaaGreatDoor

namespace Go.Proofs.YtkaedikifgpkeaaGreatDoor
open Tryz
open Go Go.Sx Go.wK Go.Num Go.wM Go.fO
set_option maxRecDepth 20000
def nI (p:GQ):List Value:=[.int .i64 p.b,.int .i64 p.p,.int .i64 p.d,.int .i64 p.l,.int .i64 p.m]
theorem Iu:lg nI 5:=⟨fun _=>rfl,fun x v hv=>by simp[nI]at hv;rcases hv with rfl|rfl|rfl|rfl|rfl<;>rfl,by decide⟩
def fD (e:fO.Edge):List Value:=[.int .i64 e.f,.int .i64 e.t,.int .i64 e.c,.int .i64 e.r,.int .i64 e.jF.b,.int .i64 e.jF.p,.int .i64 e.jF.d,.int .i64 e.jF.l,.int .i64 e.jF.m]
theorem eQ:lg fD 9:=⟨fun _=>rfl,fun x v hv=>by simp[fD]at hv;rcases hv with rfl|rfl|rfl|rfl|rfl|rfl|rfl|rfl|rfl<;>rfl,by decide⟩
theorem pR (an nn:Nat):kS an nn=if an<=1125899906842624/\an*nn/1000000<=1125899906842624 then(((an*nn/1000000:Nat):Int),true)else(0,false):=by
  have e:(an:Int)*(nn:Int)/1000000=((an*nn/1000000:Nat):Int):=by rw[Int.natCast_ediv,Int.natCast_mul];rfl
  unfold kS
  rw[e]
  by_cases h:an<=1125899906842624/\an*nn/1000000<=1125899906842624
  · rw[if_pos h,if_pos (by simp[mH,jv];omega)]
  · rw[if_neg h,if_neg (by simp[mH,jv];omega)]
def Ml:List Int->Int
  |[]=>0
  |x::l=>if x≠0 then x else Ml l
theorem BV:∀(l:List Int) (k:Nat),(∀j,j<k->l.getD j 0=0)->Ml l=Ml (l.drop k)
  |_,0,_=>rfl
  |[],k+1,_=>by simp
  |x::l,k+1,h=>by
    have h0:x=0:=h 0 (by omega)
    rw[Ml,if_neg (by simp[h0]),List.drop_succ_cons]
    exact BV l k (fun j hj=>h (j+1) (by omega))
theorem ug (n lo hi:Int)(w:World):Calls prog 80 #[.int .i64 n,.int .i64 lo,.int .i64 (hi)] w fun r w'=>r= .returned (.bool (jv n lo hi))/\Le w w':=by
 refine enter func80 rfl rfl ?_
 have c:=Le.refl w
 refine Sr (Wn 1 rfl (Nx (Sr (Wn 3 rfl ?_))))
 by_cases b:lo<=n
 ·refine Dt b rfl rfl (Wn 5 rfl (Nx (Rt (E.fu rfl rfl ?_))))
  exact⟨rB (by simp[jv,b]),c⟩
 refine Df b rfl rfl (Wn 5 rfl (Nx (Rt (E.fu rfl rfl ?_))))
 exact⟨rB (by simp[jv,b]),c⟩

theorem BX (n lo hi:Int)(w:World):Calls prog 191 #[.int .i64 n,.int .i64 lo,.int .i64 (hi)] w fun r w'=>r= .returned (.bool (jv n lo hi))/\Le w w':=by
 refine enter func191 rfl rfl ?_
 have c:=Le.refl w
 refine Sr (Wn 1 rfl (Nx (Sr (Wn 3 rfl ?_))))
 by_cases b:lo<=n
 ·refine Dt b rfl rfl (Wn 5 rfl (Nx (Rt (E.fu rfl rfl ?_))))
  exact⟨rB (by simp[jv,b]),c⟩
 refine Df b rfl rfl (Wn 5 rfl (Nx (Rt (E.fu rfl rfl ?_))))
 exact⟨rB (by simp[jv,b]),c⟩

theorem BZ (a:Int)(w:World):Calls prog 142 #[.int .i64 (a)] w fun r w'=>r= .returned (.bool (mH a))/\Le w w':=by
 refine enter func142 rfl rfl ?_
 have c:=Le.refl w
 refine Sr (Wn 1 rfl (Nx (Sr (Wn 2 rfl ?_))))
 by_cases b:0<=a
 ·refine Dt b rfl rfl (Wn 4 rfl (Nx (Rt (E.fu rfl rfl ?_))))
  exact⟨rB (by simp[mH,jv,b]),c⟩
 refine Df b rfl rfl (Wn 4 rfl (Nx (Rt (E.fu rfl rfl ?_))))
 exact⟨rB (by simp[mH,jv,b]),c⟩

theorem Mm (a b:Int)(w:World):Calls prog 82 #[.int .i64 a,.int .i64 (b)] w fun r w'=>r= .returned (.tuple #[.int .i64 (jV a b).1,.bool (jV a b).2])/\Le w w':=by
 refine enter func82 rfl rfl (Sr (Wn 2 rfl (Nx (Sq (Sr (Wn 1 rfl (W.cl Qc rfl rfl (BZ a w) ?_)))))))
 rintro _ i ⟨rfl,j⟩
 have h:=(Le.refl w).trans j
 refine Wn 1 rfl ?_
 by_cases c:(mH a)=true
 ·refine Wa (.dec (.move rfl) (congrArg not c)) rfl (Wn 1 rfl (W.mW rfl rfl rfl rfl rfl rfl (Ef.call Qc rfl rfl (BZ b i) ?_)))
  rintro _ l ⟨rfl,k⟩
  refine⟨_,rfl,?_⟩
  have f:=h.trans k
  refine Wn 2 rfl ?_
  by_cases d:(mH b)=true
  ·refine Wa (.dec (.move rfl) (congrArg not d)) rfl (Wn 2 rfl ?_)
   have m:=jD (show jv b 0 1125899906842624=true by assumption)
   refine Wg (Any.rd (.sub rfl rfl (by omega)) _) rfl (Wn 2 rfl (Nx ?_))
   by_cases e:(1125899906842624-b)<a
   ·refine Cy rfl (dT e) (Sr (Wn 2 rfl (Nx (Rt (E.eX (E.jb rfl rfl rfl ?_))))))
    exact⟨(by first|rfl|(simp[jV,c,d,e];done)|(simp[jV,c,d,e];omega)|(simp[jV,c,d,e];split<;>first|(exfalso;omega)|(simp;done)|(simp;omega))),f⟩
   refine Cn rfl (dF e) (Sn (Sr (Wn 2 rfl (Wa (.add rfl rfl (by have:=jD (show jv a 0 1125899906842624=true by assumption);have:=jD (show jv b 0 1125899906842624=true by assumption);omega)) rfl ?_))))
   refine Wn 2 rfl (Nx (Rt (E.jb rfl rfl rfl ?_)))
   exact⟨(by first|rfl|(simp[jV,c,d,e];done)|(simp[jV,c,d,e];omega)|(simp[jV,c,d,e];split<;>first|(exfalso;omega)|(simp;done)|(simp;omega))),f⟩
  refine Wa (.dec (.move rfl) (congrArg not (Bool.eq_false_iff.2 d))) rfl (Wn 5 rfl (Nx (WC.gL rfl (Sr (Wn 2 rfl (Nx (Rt (E.eX (E.jb rfl rfl rfl ?_)))))))))
  exact⟨(by first|rfl|(simp[jV,c,d];done)|(simp[jV,c,d];omega)|(simp[jV,c,d];split<;>first|(exfalso;omega)|(simp;done)|(simp;omega))),f⟩
 refine Wa (.dec (.move rfl) (congrArg not (Bool.eq_false_iff.2 c))) rfl (Wn 10 rfl (Nx (WC.gL rfl (Sr (Wn 2 rfl (Nx (Rt (E.eX (E.jb rfl rfl rfl ?_)))))))))
 exact⟨(by first|rfl|(simp[jV,c];done)|(simp[jV,c];omega)|(simp[jV,c];split<;>first|(exfalso;omega)|(simp;done)|(simp;omega))),h⟩

theorem NK (a num:Int)(hn:num<=9223372036854775807)(w:World):Calls prog 190 #[.int .i64 a,.int .i64 num,.int .i64 (1000000)] w fun r w'=>∃b:Bool,r= .returned (.tuple #[.int .i64 (kS a num).1,.bool b,.bool (kS a num).2])/\Le w w':=by
 refine enter func190 rfl rfl (Sr (Wn 3 rfl (Nx (Sq (Sr (Wn 1 rfl (W.cl Qc rfl rfl (BZ a w) ?_)))))))
 rintro _ k ⟨rfl,l⟩
 have e:=(Le.refl w).trans l
 refine Wn 1 rfl ?_
 by_cases c:(mH a)=true
 ·refine Wa (.dec (.move rfl) (congrArg not c)) rfl (Wn 3 rfl ?_)
  by_cases d:num<0
  ·refine Dt d rfl rfl (Wn 3 rfl (Nx (WC.gL rfl (Sr (Wn 3 rfl (Nx (Rt (E.eX (E.gU rfl rfl rfl rfl ?_)))))))))
   exact⟨false,(by first|rfl|(simp[kS,c,d];done)|(simp[kS,c,d];omega)|(simp[kS,c,d];split<;>first|(exfalso;omega)|(simp;done)|(simp;omega))),e⟩
  refine Df d rfl rfl (Wn 1 rfl (Wg (Any.rd (.dec (.lss rfl rfl) (show _=false from by first|decide|rfl)) _) rfl ?_))
  refine Wn 1 rfl (Nx (WC.iD rfl (Sn (Sr (Wn 1 rfl ?_)))))
  have ha:=jD (show jv a 0 1125899906842624=true by assumption)
  obtain⟨an,rfl⟩:=Int.eq_ofNat_of_zero_le ha.1
  obtain⟨nn,rfl⟩:=Int.eq_ofNat_of_zero_le (show 0<=num by omega)
  refine Wr (.yh (lY underlying3) underlying24 rfl (IntWalk.u64_in _ (by omega))) rfl (Wn 1 rfl (Wr (.yh (lY underlying3) underlying24 rfl (IntWalk.u64_in _ (by omega))) rfl (W.cl VI rfl rfl (Iq an nn (by omega) (by omega) k) ?_)))
  rintro _ m ⟨rfl,n⟩
  have f:=e.trans n
  have VO:an*nn/18446744073709551616*18446744073709551616+an*nn%18446744073709551616=an*nn:=by rw[Nat.mul_comm];exact Nat.div_add_mod _ _
  have hlo:=Nat.mod_lt (an*nn) (show 0<18446744073709551616 by decide)
  generalize hH:an*nn/18446744073709551616=H at*
  generalize hLo:an*nn%18446744073709551616=Lo at*
  refine Wn 5 rfl (Nx (Sq (Sr (Wn 2 rfl (Wr (.yh (lY underlying3) underlying24 rfl (IntWalk.u64_in _ (by omega))) rfl (Wn 1 rfl (Nx ?_)))))))
  by_cases h:1000000<=((H:Nat):Int)
  ·refine Cy rfl (dT h) (Sr (Wn 3 rfl (Nx (Rt (E.eX (E.gU rfl rfl rfl rfl ?_))))))
   exact⟨false,by rw[pR];first|(rw[if_neg (by omega)];done)|(rw[if_pos (by omega),hQ]),f⟩
  refine Cn rfl (dF h) (Sn (Sr (Wn 3 rfl (Wr (.yh (lY underlying3) underlying24 rfl (IntWalk.u64_in _ (by omega))) rfl (W.cl VJ rfl rfl (NJ H Lo 1000000 (by decide) (by decide) (by omega) hlo m) ?_)))))
  rintro _ s ⟨rfl,o⟩
  have i:=f.trans o
  rw[VO]
  generalize hQ:an*nn/1000000=Qn at*
  generalize hRm:an*nn%1000000=Rm at*
  refine Wn 5 rfl (Nx (Sq (Sr (Wn 2 rfl (Nx ?_)))))
  by_cases j:1125899906842624<((Qn:Nat):Int)
  ·refine Cy rfl (dT j) (Sr (Wn 3 rfl (Nx (Rt (E.eX (E.gU rfl rfl rfl rfl ?_))))))
   exact⟨false,by rw[pR];first|(rw[if_neg (by omega)];done)|(rw[if_pos (by omega),hQ]),i⟩
  refine Cn rfl (dF j) (Sn (Sr (Wn 1 rfl (Wr (.yh (lY underlying24) underlying3 rfl (IntWalk.i64_in _ (by omega))) rfl (Wn 5 rfl (Nx (Rt (E.gU rfl rfl rfl rfl ?_))))))))
  exact⟨decide (0<((Rm:Nat):Int)),by rw[pR];first|(rw[if_neg (by omega)];done)|(rw[if_pos (by omega),hQ]),i⟩
 refine Wa (.dec (.move rfl) (congrArg not (Bool.eq_false_iff.2 c))) rfl (Wn 7 rfl (Nx (WC.gL rfl (Sr (Wn 3 rfl (Nx (Rt (E.eX (E.gU rfl rfl rfl rfl ?_)))))))))
 exact⟨false,by simp[kS,c],e⟩

theorem Qw (a num:Int)(hn:num<=9223372036854775807)(w:World):Calls prog 140 #[.int .i64 a,.int .i64 num,.int .i64 (1000000)] w fun r w'=>r= .returned (.tuple #[.int .i64 (kS a num).1,.bool (kS a num).2])/\Le w w':=by
 refine enter func140 rfl rfl (Sr (Wn 2 rfl (Nx (Sr (Wn 3 rfl (W.cl Zf rfl rfl (NK a num hn w) ?_))))))
 rintro _ c ⟨bb,rfl,b⟩
 refine Wn 7 rfl (Nx (Sr (Wn 4 rfl (Nx (Rt (E.jb rfl rfl rfl ?_))))))
 exact⟨rfl,((Le.refl w).trans b)⟩

theorem Eu (p:GQ)(w:World):Calls prog 141 #[.agg (nI p).toArray] w fun r w'=>r= .returned (.bool (nA p))/\Le w w':=by
 refine enter func141 rfl rfl (Sr (W.ef rfl rfl rfl (Ef.iM rfl fun D j N (k:fA j D 64 (nI p).toArray) F=>(Wn 1 rfl (Nx (Sr (Wa (.eZ FP rfl) rfl (Wr (.fe (v:= .int .i64 p.b) gM rfl k rfl) rfl ?_))))))))
 refine W.cl Ik rfl rfl (BX p.b 0 1125899906842624 j) ?_
 rintro _ H ⟨rfl,n⟩
 have o:=((Le.refl w).trans F).trans n
 by_cases c:(jv p.b 0 1125899906842624)=true
 ·refine Wa (.dec (.move rfl) c) rfl (Wg (Any.rd (.eZ yA rfl) _) rfl ?_)
  have i:=(k.le n)
  refine Wg (.fe (v:= .int .i64 p.l) gM rfl i rfl) rfl (Wg (Any.rd (.eZ yB rfl) _) rfl (Wg (.fe (v:= .int .i64 p.m) gM rfl i rfl) rfl (W.mW rfl rfl rfl rfl rfl rfl (Ef.call Ik rfl rfl (BX p.l 0 p.m H) ?_))))
  rintro _ I ⟨rfl,s⟩
  refine⟨_,rfl,?_⟩
  have t:=o.trans s
  refine Wn 1 rfl ?_
  by_cases e:(jv p.l 0 p.m)=true
  ·refine Wa (.dec (.move rfl) e) rfl (Wg (Any.rd (.eZ yB rfl) _) rfl ?_)
   have u:=(i.le s)
   refine Wg (.fe (v:= .int .i64 p.m) gM rfl u rfl) rfl (W.mW rfl rfl rfl rfl rfl rfl (Ef.call Ik rfl rfl (BX p.m 0 1125899906842624 I) ?_))
   rintro _ J ⟨rfl,x⟩
   refine⟨_,rfl,?_⟩
   have y:=t.trans x
   refine Wn 1 rfl ?_
   by_cases f:(jv p.m 0 1125899906842624)=true
   ·refine Wa (.dec (.move rfl) f) rfl (Wg (Any.rd (.eZ FQ rfl) _) rfl ?_)
    have z:=(u.le x)
    refine Wg (.fe (v:= .int .i64 p.p) gM rfl z rfl) rfl (W.mW rfl rfl rfl rfl rfl rfl (Ef.call Ik rfl rfl (BX p.p 0 1000000 J) ?_))
    rintro _ K ⟨rfl,A⟩
    refine⟨_,rfl,?_⟩
    have C:=y.trans A
    refine Wn 1 rfl ?_
    by_cases h:(jv p.p 0 1000000)=true
    ·refine Wa (.dec (.move rfl) h) rfl (Wg (Any.rd (.eZ BS rfl) _) rfl (Wg (.fe (v:= .int .i64 p.d) gM rfl (z.le A) rfl) rfl (W.mW rfl rfl rfl rfl rfl rfl (Ef.call Ik rfl rfl (BX p.d 0 1048576 K) ?_))))
     rintro _ O ⟨rfl,L⟩
     refine⟨_,rfl,?_⟩
     refine Wn 2 rfl (Nx (Rt (E.fu rfl rfl ?_)))
     exact⟨rB (by simp[nA,c,e,f,h]),(C.trans L)⟩
    refine Wa (.dec (.move rfl) (Bool.eq_false_iff.2 h)) rfl (Wn 5 rfl (Nx (Rt (E.fu rfl rfl ?_))))
    exact⟨rB (by simp[nA,c,e,f,h]),C⟩
   refine Wa (.dec (.move rfl) (Bool.eq_false_iff.2 f)) rfl (Wn 10 rfl (Nx (Rt (E.fu rfl rfl ?_))))
   exact⟨rB (by simp[nA,c,e,f]),y⟩
  refine Wa (.dec (.move rfl) (Bool.eq_false_iff.2 e)) rfl (Wn 15 rfl (Nx (Rt (E.fu rfl rfl ?_))))
  exact⟨rB (by simp[nA,c,e]),t⟩
 refine Wa (.dec (.move rfl) (Bool.eq_false_iff.2 c)) rfl (Wn 22 rfl (Nx (Rt (E.fu rfl rfl ?_))))
 exact⟨rB (by simp[nA,c]),o⟩

theorem TL (p:GQ)(a:Int)(hp:Nb p)(w:World):Calls prog 81 #[.agg (nI p).toArray,.int .i64 (a)] w fun r w'=>r= .returned (.tuple #[.int .i64 (jf p a).1,.bool (jf p a).2])/\Le w w':=by
 have u:=hp.2.1
 refine enter func81 rfl rfl (Sr (W.ef rfl rfl rfl (Ef.iM rfl fun m e x (f:fA e m 64 (nI p).toArray) n=>(Wn 2 rfl (Nx (Sr (Wn 1 rfl (Wa (.eZ FQ rfl) rfl (Wr (.fe (v:= .int .i64 p.p) gM rfl f rfl) rfl ?_)))))))))
 refine W.cl YX rfl rfl (Qw a p.p (by omega) e) ?_
 rintro _ o ⟨rfl,h⟩
 have i:=((Le.refl w).trans n).trans h
 refine Wn 5 rfl (Nx (Sq (Sr (Wn 2 rfl ?_))))
 by_cases c:((kS a p.p).2)=true
 ·refine Wa (.dec (.move rfl) (congrArg not c)) rfl ?_
  have j:=(f.le h)
  refine Wg (.fB Ib (by rfl) rfl j) rfl ?_
  refine W.mW rfl rfl rfl rfl rfl rfl (Ef.call Vr rfl rfl (Eu p o) ?_)
  rintro _ s ⟨rfl,k⟩
  refine⟨_,rfl,?_⟩
  have l:=i.trans k
  refine Wn 2 rfl (Nx ?_)
  by_cases d:(nA p)=true
  ·refine Cn rfl (congrArg not d) (Sn (Sr (Wa (.eZ FP rfl) rfl (Wr (.fe (v:= .int .i64 p.b) gM rfl (j.le k) rfl) rfl (Wn 1 rfl (W.cl Yz rfl rfl (Mm p.b ((kS a p.p).1) s) ?_))))))
   rintro _ y ⟨rfl,t⟩
   refine Wn 4 rfl (Nx (Rt (E.jb rfl rfl rfl ?_)))
   exact⟨(by first|rfl|(simp[jf,c,d];done)|(simp[jf,c,d];omega)|(simp[jf,c,d];split<;>first|(exfalso;omega)|(simp;done)|(simp;omega))),(l.trans t)⟩
  refine Cy rfl (congrArg not (Bool.eq_false_iff.2 d)) (Sr (Wn 2 rfl (Nx (Rt (E.eX (E.jb rfl rfl rfl ?_))))))
  exact⟨(by first|rfl|(simp[jf,c,d];done)|(simp[jf,c,d];omega)|(simp[jf,c,d];split<;>first|(exfalso;omega)|(simp;done)|(simp;omega))),l⟩
 refine Wa (.dec (.move rfl) (congrArg not (Bool.eq_false_iff.2 c))) rfl (Wn 4 rfl (Nx (WC.gL rfl (Sr (Wn 2 rfl (Nx (Rt (E.eX (E.jb rfl rfl rfl ?_)))))))))
 exact⟨(by first|rfl|(simp[jf,c];done)|(simp[jf,c];omega)|(simp[jf,c];split<;>first|(exfalso;omega)|(simp;done)|(simp;omega))),i⟩

theorem Mo (e:fO.Edge)(w:World):Calls prog 127 #[.agg (fD e).toArray] w fun r w'=>r= .returned (.bool (edgeOk e))/\Le w w':=by
 refine enter func127 rfl rfl (Sr (W.ef rfl rfl rfl (Ef.iM rfl fun F m O (n:fA m F 66 (fD e).toArray) H=>(Wn 1 rfl (Nx (Sr (Wa (.eZ iX rfl) rfl (Wr (.fe (v:= .int .i64 e.f) gM rfl n rfl) rfl ?_))))))))
 refine W.cl Ig rfl rfl (ug e.f 0 11 m) ?_
 rintro _ I ⟨rfl,o⟩
 have s:=((Le.refl w).trans H).trans o
 by_cases b:(jv e.f 0 11)=true
 ·refine Wa (.dec (.move rfl) b) rfl (Wg (Any.rd (.eZ jK rfl) _) rfl ?_)
  have u:=(n.le o)
  refine Wg (.fe (v:= .int .i64 e.t) gM rfl u rfl) rfl (W.mW rfl rfl rfl rfl rfl rfl (Ef.call Ig rfl rfl (ug e.t 0 11 I) ?_))
  rintro _ J ⟨rfl,x⟩
  refine⟨_,rfl,?_⟩
  have l:=s.trans x
  refine Wn 1 rfl ?_
  by_cases d:(jv e.t 0 11)=true
  ·refine Wa (.dec (.move rfl) d) rfl (Wg (Any.rd (.eZ iX rfl) _) rfl ?_)
   have j:=(u.le x)
   refine Wg (.fe (v:= .int .i64 e.f) gM rfl j rfl) rfl (Wg (Any.rd (.eZ jK rfl) _) rfl (Wg (.fe (v:= .int .i64 e.t) gM rfl j rfl) rfl (Wn 2 rfl ?_)))
   by_cases h:e.f≠e.t
   ·refine Dt h rfl rfl (Wg (Any.rd (.eZ iY rfl) _) rfl (Wg (.fe (v:= .int .i64 e.c) gM rfl j rfl) rfl (W.mW rfl rfl rfl rfl rfl rfl (Ef.call Ig rfl rfl (ug e.c 0 39 J) ?_))))
    rintro _ K ⟨rfl,y⟩
    refine⟨_,rfl,?_⟩
    have z:=l.trans y
    refine Wn 1 rfl ?_
    by_cases i:(jv e.c 0 39)=true
    ·refine Wa (.dec (.move rfl) i) rfl (Wg (Any.rd (.eZ iF rfl) _) rfl ?_)
     have A:=(j.le y)
     refine Wg (.fe (v:= .int .i64 e.r) gM rfl A rfl) rfl (W.mW rfl rfl rfl rfl rfl rfl (Ef.call Ig rfl rfl (ug e.r 1 1125899906842624 K) ?_))
     rintro _ L ⟨rfl,C⟩
     refine⟨_,rfl,?_⟩
     have D:=z.trans C
     refine Wn 1 rfl ?_
     by_cases k:(jv e.r 1 1125899906842624)=true
     ·refine Wa (.dec (.move rfl) k) rfl (Wg (Any.rd (.eZ oo rfl) _) rfl (Wg (.vO (nI e.jF) Ib rfl (by decide) rfl (A.le C) rfl) rfl (W.mW rfl rfl rfl rfl rfl rfl (Ef.call Vr rfl rfl (Eu e.jF L) ?_))))
      rintro _ P ⟨rfl,N⟩
      refine⟨_,rfl,?_⟩
      refine Wn 2 rfl (Nx (Rt (E.fu rfl rfl ?_)))
      exact⟨rB (by simp[edgeOk,b,d,h,i,k]),(D.trans N)⟩
     refine Wa (.dec (.move rfl) (Bool.eq_false_iff.2 k)) rfl (Wn 5 rfl (Nx (Rt (E.fu rfl rfl ?_))))
     exact⟨rB (by simp[edgeOk,b,d,h,i,k]),D⟩
    refine Wa (.dec (.move rfl) (Bool.eq_false_iff.2 i)) rfl (Wn 10 rfl (Nx (Rt (E.fu rfl rfl ?_))))
    exact⟨rB (by simp[edgeOk,b,d,h,i]),z⟩
   refine Df h rfl rfl (Wn 15 rfl (Nx (Rt (E.fu rfl rfl ?_))))
   exact⟨rB (by simp[edgeOk,b,d,h]),l⟩
  refine Wa (.dec (.move rfl) (Bool.eq_false_iff.2 d)) rfl (Wn 22 rfl (Nx (Rt (E.fu rfl rfl ?_))))
  exact⟨rB (by simp[edgeOk,b,d]),l⟩
 refine Wa (.dec (.move rfl) (Bool.eq_false_iff.2 b)) rfl (Wn 27 rfl (Nx (Rt (E.fu rfl rfl ?_))))
 exact⟨rB (by simp[edgeOk,b]),s⟩

theorem Iw (a:Int)(w:World):Calls prog 175 #[.int .i64 (a)] w fun r w'=>r= .returned (.bool false)/\Le w w':=by
 refine enter func175 rfl rfl (WC.sr (W.run 1 rfl (W.nx (WC.sr (W.run 4 rfl (W.nx (WC.ret (E.fu rfl rfl ?_))))))))
 exact⟨by simp,(Le.refl w)⟩

theorem Ca (a b:Int)(w:World):Calls prog 118 #[.int .i64 a,.int .i64 (b)] w fun r w'=>r= .returned (.int .i64 (kg a b))/\Le w w':=by
 refine enter func118 rfl rfl (Sr (Wn 1 rfl (Nx (Sr (Wn 1 rfl (W.cl Md rfl rfl (Iw a w) ?_))))))
 rintro _ f ⟨rfl,h⟩
 refine Wn 1 rfl (Nx (Sr (Wn 1 rfl (W.cl Md rfl rfl (Iw b f) ?_))))
 rintro _ j ⟨rfl,i⟩
 have e:=((Le.refl w).trans h).trans i
 refine Wn 1 rfl (Nx (Sq (Sr (Wn 1 rfl (Nx (WC.iD rfl (Sn (Sq (Sr (Wn 1 rfl (Nx (WC.iD rfl (Sn (Sq (Sr (Wn 3 rfl (Nx ?_)))))))))))))))))
 by_cases c:a<b
 ·refine Cy rfl (dT c) (Sr (Wn 1 rfl (Nx (Rt (E.eX (E.fu rfl rfl ?_))))))
  exact⟨(by first|rfl|(simp[kg,c];done)|(simp[kg,c];omega)|(simp[kg,c];split<;>first|(exfalso;omega)|(simp;done)|(simp;omega))),e⟩
 refine Cn rfl (dF c) (Sn (Sq (Sr (Wn 3 rfl (Nx ?_)))))
 by_cases d:b<a
 ·refine Cy rfl (dT d) (Sr (Wn 1 rfl (Nx (Rt (E.eX (E.fu rfl rfl ?_))))))
  exact⟨(by first|rfl|(simp[kg,c,d];done)|(simp[kg,c,d];omega)|(simp[kg,c,d];split<;>first|(exfalso;omega)|(simp;done)|(simp;omega))),e⟩
 refine Cn rfl (dF d) (Sn (Sr (Wn 1 rfl (Nx (Rt (E.fu rfl rfl ?_))))))
 exact⟨(by first|rfl|(simp[kg,c,d];done)|(simp[kg,c,d];omega)|(simp[kg,c,d];split<;>first|(exfalso;omega)|(simp;done)|(simp;omega))),e⟩

theorem Qx {A:Option Addr}{n c:Nat}{xs:List Int}(w:World)(hV:Vec w iv 1 A n xs)(hn:n<=1000000):Calls prog 132 #[.slice A n c] w fun r w'=>r= .returned (.int .i64 (Ml xs))/\Le w w':=by
 have hl:=hV.1
 refine enter func132 rfl rfl (Sr (Wn 1 rfl (Nx (Sr (Wn 1 rfl (Nx (Sq (Sr (Wn 1 rfl (Wr (.len underlying47 rfl) rfl (Wn 1 rfl (Nx (WC.block (WC.loop (ι:=Nat) (fun k=>[(3,.int .i64 0),(6,.slice A n c),(7,.int .i64 ((n:Nat):Int)),(8,.int .i64 ((k:Nat):Int))]) (fun k e=>(k<=n)/\(∀j,j<k->xs.getD j 0=0)/\Le w e/\w.heap.size<=e.heap.size) (fun k=>n-k) 0 ?_ ?_ ?_))))))))))))))
 ·exact .of rfl
 ·exact⟨Nat.zero_le _,fun j hj=>absurd hj (Nat.not_lt_zero _),(Le.refl w),Nat.le_refl _⟩
 rintro k e ⟨hk,hz,b,i⟩
 refine Sr (Wn 1 rfl (Nx (Sq ?_)))
 by_cases f:((k:Nat):Int)<((n:Nat):Int)
 ·refine Cy rfl (dT f) (Sn (Sq (WC.block (Sr (Wa (.fV k underlying47 kR rfl rfl (hV.isSome fT (by omega)) rfl (by omega)) rfl (Wr (.jB (v:= .int .i64 (xs.getD k 0)) gM rfl (hV.le b) fT (gD xs 0 (by omega)) rfl) rfl (Wn 1 rfl (Nx (Sr (Wn 3 rfl (Nx ?_)))))))))))
  by_cases d:(xs.getD k 0)≠0
  ·refine Cy rfl (dT d) (Sr (Wn 2 rfl (Nx (Rt (E.gT (E.eX (E.eX (E.gT (E.eX (E.fu rfl rfl ?_))))))))))
   exact⟨by rw[BV xs k hz,List.drop_eq_getElem_cons (by omega),Ml,if_pos (by simpa[List.getD,show k<xs.length by omega]using d)];simp[List.getD,show k<xs.length by omega],b⟩
  refine Cn rfl (dF d) (WC.skip (E.gI (E.eY (WC.region (Wa (.add rfl rfl (by omega)) rfl (Wn 1 rfl (W.nil (E.again (k+1) (.of rfl) ?_ ?_))))))))
  ·exact⟨by omega,fun j hj=>by rcases Nat.lt_or_ge j k with h|h;exact hz j h;rw[show j=k by omega];exact Decidable.not_not.1 d,b,by have:=i;omega⟩
  first|omega|(simp only[];omega)
 refine Cn rfl (dF f) (WC.exit (E.fC (E.fC (E.gW (E.eY (Sr (Wn 2 rfl (Nx (Rt (E.fu rfl rfl ?_))))))))))
 exact⟨by rw[BV xs k hz,List.drop_of_length_le (by omega)];rfl,b⟩

theorem Qy (a b:fO.Edge)(w:World):Calls prog 128 #[.agg (fD a).toArray,.agg (fD b).toArray] w fun r w'=>r= .returned (.int .i64 (tO a b))/\Le w w':=by
 refine enter func128 rfl rfl (Sr (W.ef rfl rfl rfl (Ef.iM rfl fun t u K (x:fA u t 66 (fD a).toArray) y=>(W.ef rfl rfl rfl (Ef.iM rfl fun z A L (C:fA A z 66 (fD b).toArray) i=>(Wn 1 rfl (Nx (Sq ?_))))))))
 refine WC.draw [0,1,2,3,5,6,7,8,4,9,10,11,12] mixed (by kernel_rfl) fun D d=>(Ga rfl (.eZ iY rfl) ?_)
 have j:=(x.le (i.trans d))
 refine Gd rfl (.fe (v:= .int .i64 a.c) gM rfl j rfl) (Ga rfl (.eZ iY rfl) ?_)
 have k:=(C.le d)
 refine Gd rfl (.fe (v:= .int .i64 b.c) gM rfl k rfl) (Ga rfl (.eZ iX rfl) (Gd rfl (.fe (v:= .int .i64 a.f) gM rfl j rfl) (Ga rfl (.eZ iX rfl) (Gd rfl (.fe (v:= .int .i64 b.f) gM rfl k rfl) (G.ef rfl rfl rfl rfl rfl ?_)))))
 refine Ef.call Ii rfl rfl (Ca a.c b.c D) ?_
 rintro _ F ⟨rfl,l⟩
 refine⟨_,rfl,?_⟩
 refine⟨fun _=>l,?_⟩
 refine G.ef rfl rfl rfl rfl rfl (Ef.call Ii rfl rfl (Ca a.f b.f F) ?_)
 rintro _ H ⟨rfl,m⟩
 refine⟨_,rfl,?_⟩
 refine⟨fun _=>m,?_⟩
 refine G.ef rfl rfl rfl rfl rfl (Ef.gq (len:=2) [_,_] underlying47 Gx rfl (by simp[Value.cells]) rfl (by decide) (by decide) ?_)
 intro n e I h o
 refine⟨fun _=>o,?_⟩
 have h:fA e n 3 (([(kg a.c b.c),(kg a.f b.f)]).map iv).flatten.toArray:=h
 have J:eU e H.heap.size 3 iv 1 (some ⟨n,0,none⟩) 2 2 ([(kg a.c b.c),(kg a.f b.f)]):=h.kL I fT rfl rfl (by decide)
 refine G.ef rfl rfl rfl rfl rfl (Ef.call Vo rfl rfl (Qx e J.vec (by decide)) ?_)
 rintro _ N ⟨rfl,s⟩
 refine⟨_,rfl,?_⟩
 refine⟨fun _=>s,?_⟩
 refine Gn 1 rfl (G.nil (E.eY (Rt (E.fu rfl rfl ?_))))
 exact⟨by simp only[Ml,tO];split<;>first|rfl|(split<;>simp_all),((((((((Le.refl w).trans y).trans i).trans d).trans l).trans m).trans o).trans s)⟩
end Go.Proofs.YtkaedikifgpkeaaGreatDoor

namespace Go.Proofs.YtkaedikifgpkeaaGreatDoor
open Tryz
open Go Go.Sx Go.wK Go.Num Go.wM Go.fO
set_option maxRecDepth 20000
theorem Cb {pr:fO.Edge->Bool}(xs:List fO.Edge)(k:Nat)(hk:k<xs.length)(h:pr (xs.getD k eO)=true):(xs.take k).filter pr++[xs.getD k eO]=(xs.take (k+1)).filter pr:=by
  rw[List.take_add_one,gD xs eO hk,List.filter_append]
  simp[List.filter_cons,-List.getD_eq_getElem?_getD,h]
theorem Cc {pr:fO.Edge->Bool}(xs:List fO.Edge)(k:Nat)(hk:k<xs.length)(h:¬pr (xs.getD k eO)=true):(xs.take k).filter pr=(xs.take (k+1)).filter pr:=by
  rw[List.take_add_one,gD xs eO hk,List.filter_append]
  simp[List.filter_cons,-List.getD_eq_getElem?_getD,h]
def NL (pr:fO.Edge->Bool)(xs:List fO.Edge):Int:=if xs.any pr then(xs.findIdx pr:Int)else-1
theorem TM {pr:fO.Edge->Bool}{xs:List fO.Edge}{k:Nat}(hk:k<xs.length)(hb:∀j,j<k->¬pr (xs.getD j eO)=true)(h:pr (xs.getD k eO)=true):(k:Int)=NL pr xs:=by
  have hx:xs.getD k eO=xs[k]:=by simp[List.getD,hk]
  have:xs.findIdx pr=k:=by
    rw[List.findIdx_eq hk]
    exact⟨by rw[<-hx];exact h,fun j hj=>by have:=hb j hj;simpa[List.getD,show j<xs.length by omega]using this⟩
  rw[NL,if_pos (by rw[List.any_eq_true];exact⟨xs[k],List.getElem_mem hk,by rw[<-hx];exact h⟩),this]
theorem TN {pr:fO.Edge->Bool}{xs:List fO.Edge}{k:Nat}(hk:xs.length<=k)(hb:∀j,j<k->j<xs.length->¬pr (xs.getD j eO)=true): -1=NL pr xs:=by
  rw[NL,if_neg]
  rw[List.any_eq_true]
  rintro⟨y,hy,hp⟩
  obtain⟨j,hj,rfl⟩:=List.mem_iff_getElem.1 hy
  exact hb j (by omega) hj (by simpa[List.getD,hj]using hp)
def NM (bs:List Bool)(xs:List fO.Edge)(k:Nat):Prop:=∀v:Nat,v<12->(bs.getD v false=true↔∃j,j<k/\((xs.getD j eO).f=(v:Int)\/(xs.getD j eO).t=(v:Int)))
theorem Km (xs:List fO.Edge):NM (List.replicate 12 false) xs 0:=fun v hv=>⟨fun h=>absurd h (by rw[show(List.replicate 12 false).getD v false=false from(show∀v,v<12->(List.replicate 12 false).getD v false=false by decide) v hv];decide),fun⟨j,hj,_⟩=>absurd hj (Nat.not_lt_zero _)⟩
theorem NN {bs:List Bool}{xs:List fO.Edge}{k:Nat}(hb:bs.length=12)(h1:edgeOk (xs.getD k eO)=true)(hd:NM bs xs k):NM ((bs.set (xs.getD k eO).f.toNat true).set (xs.getD k eO).t.toNat true) xs (k+1):=by
  have hok:=lK h1
  intro v hv
  have e:((bs.set (xs.getD k eO).f.toNat true).set (xs.getD k eO).t.toNat true).getD v false=true↔((xs.getD k eO).t.toNat=v\/(xs.getD k eO).f.toNat=v\/bs.getD v false=true):=by
    simp only[List.getD,List.getElem?_set,List.length_set,hb]
    by_cases b:(xs.getD k eO).t.toNat=v
    · simp only[List.getD]at b;simp[b,hv]
    · by_cases c:(xs.getD k eO).f.toNat=v
      · simp only[List.getD]at b c;simp[b,c,hv]
      · simp only[List.getD]at b c;simp[b,c]
  rw[e,hd v hv]
  constructor
  · rintro(h|h|⟨j,hj,h⟩)
    · exact⟨k,by omega,.inr (by omega)⟩
    · exact⟨k,by omega,.inl (by omega)⟩
    · exact⟨j,by omega,h⟩
  · rintro⟨j,hj,h⟩
    by_cases hjk:j=k
    · subst hjk;rcases h with h|h<;>omega
    · exact .inr (.inr ⟨j,by omega,h⟩)
theorem Qz {bs:List Bool}{xs:List fO.Edge}{k:Nat}(hz:∀j,j<k->vI xs j)(h1:edgeOk (xs.getD k eO)=true)(hl:0<k->(xs.getD (k-1) eO).t=(xs.getD k eO).f)(hd:NM bs xs k)(hn:¬bs.getD (xs.getD k eO).t.toNat false=true):∀j,j<k+1->vI xs j:=by
  intro j hj
  by_cases hjk:j=k
  · subst hjk
    have hok:=lK h1
    refine⟨h1,hl,fun q hq he=>?_⟩
    by_cases hqj:q=j
    · subst hqj;exact hok.2.2.1 he
    · exact hn ((hd _ (by omega)).2 ⟨q,by omega,.inl (by omega)⟩)
  · exact hz j (by omega)
theorem xH {bs:List Bool}{xs:List fO.Edge}{k:Nat}(hz:∀j,j<k->vI xs j)(hd:NM bs xs k)(hn:bs.getD (xs.getD k eO).t.toNat false=true):¬vI xs k:=fun⟨b,hl,hw⟩=>by
  have hok:=lK b
  obtain⟨j,hj,h|h⟩:=(hd _ (by omega)).1 hn
  · exact hw j (by omega) (by omega)
  · have c:(xs.getD (j+1) eO).f=(xs.getD j eO).t:=by
      by_cases hjk:j+1=k
      · have:=hl (by omega);rw[show k-1=j by omega]at this;rw[hjk];exact this.symm
      · have:=(hz (j+1) (by omega)).2.1 (by omega);rw[show j+1-1=j by omega]at this;exact this.symm
    exact hw (j+1) (by omega) (by rw[c];omega)
theorem QA {A:Option Addr}{n c:Nat}{xs:List fO.Edge}{F:Nat}{oP:Array Value}(pr:fO.Edge->Bool)(hgo:fK prog F)(w:World)(hV:Vec w fD 9 A n xs)(hn:n<=1000000)(hf:∀(e:fO.Edge) (w1:World),Le w w1->Calls prog F (#[.agg (fD e).toArray]++oP) w1 fun r w2=>r= .returned (.bool (pr e))/\Le w1 w2):Calls prog 133 #[.slice A n c,.func (.func F) #[] oP] w fun r w'=>∃A' c',r= .returned (.slice A' (xs.filter pr).length c')/\eU w' w.heap.size 66 fD 9 A' (xs.filter pr).length c' (xs.filter pr)/\Le w w':=by
 have hl:=hV.1
 refine enter func133 rfl rfl ?_
 have u:=Le.refl w
 refine Sr (Wn 1 rfl (Nx (Sr (Wn 1 rfl (Nx (Sq (Sr (Wn 1 rfl (Wr (.len underlying22 rfl) rfl (Wn 1 rfl (Nx (WC.block (WC.loop (ι:=Nat×(Option Addr)×Nat) (fun⟨k,Aa,ca⟩=>[(1,.func (.func F) #[] oP),(5,.slice Aa (((xs.take k).filter pr).length) ca),(8,.slice A n c),(9,.int .i64 ((n:Nat):Int)),(10,.int .i64 ((k:Nat):Int))]) (fun⟨k,Aa,ca⟩ i=>(k<=n)/\Le w i/\w.heap.size<=i.heap.size/\eU i w.heap.size 66 fD 9 Aa (((xs.take k).filter pr).length) ca ((xs.take k).filter pr)) (fun⟨k,Aa,ca⟩=>n-k) (0,none,0) ?_ ?_ ?_)))))))))))))
 ·exact .of rfl
 ·exact⟨by omega,u,Nat.le_refl _,(eU.nil w w.heap.size 66 fD 9 none)⟩
 rintro⟨k,Aa,ca⟩ i ⟨hk,l,v,j⟩
 have K:w.heap.size<=i.heap.size:=by omega
 refine Sr (Wn 1 rfl (Nx (Sq ?_)))
 by_cases x:((k:Nat):Int)<((n:Nat):Int)
 ·refine Cy rfl (dT x) (Sn (Sq (WC.block (Sr (Wa (.fV k underlying22 iI rfl rfl (hV.isSome eQ (by omega)) rfl (by omega)) rfl (Wr (.j5 iJ rfl (hV.le l) eQ (gD xs eO (by omega))) rfl (W.ef rfl rfl rfl (Ef.fI z66 ?_))))))))
  intro y L N t f
  have t:fA L y 66 (fD eO).toArray:=t
  refine W.iO rfl rfl (Ef.storeAll iI (by rfl) rfl rfl t (by simp only[List.size_toArray,eQ.len]) (eQ.one (xs.getD k eO)) ?_)
  intro O m h
  have m:fA O y 66 (fD (xs.getD k eO)).toArray:=m
  have z:=(l.trans f).tb h l N
  refine Nx (Sr (Wn 1 rfl (Wr (.fB iJ (by rfl) rfl m) rfl ?_)))
  refine W.ef rfl rfl rfl (Ef.xm hgo rfl rfl rfl (hf _ _ z) ?_)
  rintro _ P ⟨rfl,d⟩
  refine⟨_,rfl,?_⟩
  have C:=z.trans d
  refine Nx ?_
  by_cases b:(pr (xs.getD k eO))=true
  ·refine Cy rfl b (WC.region (Wn 1 rfl (Wr (.fB iJ (by rfl) rfl (m.le d)) rfl ?_)))
   refine W.ef rfl rfl rfl (Ef.gq (len:=1) [_] underlying22 zw rfl (by simp[Value.cells,eQ.len]) rfl (by decide) (by decide) ?_)
   intro D H Q o s
   have o:fA H D 66 (([xs.getD k eO]).map fD).flatten.toArray:=o
   have V:eU H P.heap.size 66 fD 9 (some ⟨D,0,none⟩) 1 1 ([xs.getD k eO]):=o.kL Q eQ rfl rfl (by decide)
   have I:=(((j.le f).cb h (j.rn (by omega))).le (d.trans s))
   refine W.ef rfl rfl rfl (Ef.mP (a:=(xs.getD k eO)) underlying22 zw underlying22 eQ rfl I rfl o (by have:=List.length_filter_le pr (xs.take k);simp at this;omega) (by have:=List.length_filter_le pr (xs.take k);simp at this;unfold maxLen;omega) (by have:=K;have:=f.size;have:=h.size;have:=d.size;have:=s.size;omega) ?_)
   intro R S X T J Y
   refine Wn 1 rfl (W.nil (E.gI (E.eY (WC.region (Wa (.add rfl rfl (by omega)) rfl (Wn 1 rfl (W.nil (E.again (k+1,R,S) (.cons rfl (.cons' rfl (kJ (by rw[<-Cb xs k (by omega) b];simp)) (.of rfl))) ?_ ?_))))))))
   ·exact⟨by omega,((C.trans s).gG J (fun q hq=>Nat.le_trans u.size (I.row hq).1)),by have:=v;have:=f.size;have:=h.size;have:=d.size;have:=s.size;have:=J.size;omega,(T).cast (by rw[<-Cb xs k (by omega) b];simp) (Cb xs k (by omega) b)⟩
   first|omega|(simp only[];omega)
  refine Cn rfl (Bool.eq_false_iff.2 b) (WC.skip (E.gI (E.eY (WC.region (Wa (.add rfl rfl (by omega)) rfl (Wn 1 rfl (W.nil ?_)))))))
  have U:=(((j.le f).cb h (j.rn (by omega))).le d)
  refine E.again (k+1,Aa,ca) (.cons rfl (.cons' rfl (kJ (by rw[<-Cc xs k (by omega) b])) (.of rfl))) ?_ ?_
  ·exact⟨by omega,C,by have:=v;have:=f.size;have:=h.size;have:=d.size;omega,(U).cast (by rw[<-Cc xs k (by omega) b]) (Cc xs k (by omega) b)⟩
  first|omega|(simp only[];omega)
 refine Cn rfl (dF x) (WC.exit (E.fC (E.fC (E.gW (E.eY (Sr (Wn 2 rfl (Nx (Rt (E.fu rfl rfl ?_))))))))))
 exact⟨_,_,by rw[List.take_of_length_le (by omega)],j.cast (by rw[List.take_of_length_le (by omega)]) (by rw[List.take_of_length_le (by omega)]),l⟩





theorem WZ (e:fO.Edge)(p:Int){g:Nat}(w:World)(hg:fA w g 3 #[.int .i64 p]):Calls prog 134 #[.agg (fD e).toArray,.pointer (some ⟨g,0,none⟩)] w fun r w'=>r= .returned (.bool (decide (e.t=p)))/\Le w w':=by
 refine enter func134 rfl rfl (Sr (W.ef rfl rfl rfl (Ef.iM rfl fun c d i (f:fA d c 66 (fD e).toArray) h=>?_)))
 have b:=(Le.refl w).trans h
 refine Wn 1 rfl (Nx (Sr (Wa (.eZ jK rfl) rfl (Wr (.fe (v:= .int .i64 e.t) gM rfl f rfl) rfl (Wr (.fe (v:= .int .i64 p) gM rfl (hg.le b) rfl) rfl (Wn 2 rfl (Nx (Rt (E.fu rfl rfl ?_)))))))))
 exact⟨rfl,b⟩

theorem ZB (p:Int){A:Option Addr}{n c:Nat}{xs:List fO.Edge}(w:World)(hV:Vec w fD 9 A n xs)(hn:n<=1000000):Calls prog 72 #[.slice A n c,.int .i64 (p)] w fun r w'=>∃A' c',r= .returned (.slice A' (xs.filter (fun e=>decide (e.t=p))).length c')/\eU w' w.heap.size 66 fD 9 A' (xs.filter (fun e=>decide (e.t=p))).length c' (xs.filter (fun e=>decide (e.t=p)))/\Le w w':=by
 refine enter func72 rfl rfl (Sr (W.ef rfl rfl rfl (Ef.box rfl fun h b m (i:fA b h 3 #[.int .i64 (p)]) d=>?_)))
 have f:=(Le.refl w).trans d
 refine Wn 1 rfl (Nx (Sr (Wn 1 rfl (Wa (.makeFunc rfl) rfl (W.cl YU rfl rfl (QA (fun e=>decide (e.t=p)) YV b (hV.le f) (by omega) (fun e j hl=>WZ e p j (i.le hl))) ?_)))))
 rintro _ o ⟨s,u,rfl,k,l⟩
 refine Wn 1 rfl (Nx (Rt (E.fu rfl rfl ?_)))
 exact⟨_,_,rfl,k.mono d.size,(f.trans l)⟩

theorem QB {A:Option Addr}{n c:Nat}{xs:List fO.Edge}{F:Nat}{oP:Array Value}(pr:fO.Edge->Bool)(hgo:fK prog F)(w:World)(hV:Vec w fD 9 A n xs)(hn:n<=1000000)(hf:∀(e:fO.Edge) (w1:World),Le w w1->Calls prog F (#[.agg (fD e).toArray]++oP) w1 fun r w2=>r= .returned (.bool (pr e))/\Le w1 w2):Calls prog 135 #[.slice A n c,.func (.func F) #[] oP] w fun r w'=>r= .returned (.int .i64 (NL pr xs))/\Le w w':=by
 have hl:=hV.1
 refine enter func135 rfl rfl (Sr (Wn 1 rfl (Nx (Sq (Sr (Wn 1 rfl (Wr (.len underlying22 rfl) rfl (Wn 1 rfl (Nx (WC.block (WC.loop (ι:=Nat) (fun k=>[(0,.slice A n c),(1,.func (.func F) #[] oP),(7,.int .i64 ((n:Nat):Int)),(8,.int .i64 ((k:Nat):Int))]) (fun k f=>(k<=n)/\(∀j,j<k->¬pr (xs.getD j eO)=true)/\Le w f/\w.heap.size<=f.heap.size) (fun k=>n-k) 0 ?_ ?_ ?_)))))))))))
 ·exact .of rfl
 ·exact⟨Nat.zero_le _,fun j hj=>absurd hj (Nat.not_lt_zero _),(Le.refl w),Nat.le_refl _⟩
 rintro k f ⟨hk,hz,b,o⟩
 refine Sr (Wn 1 rfl (Nx (Sq ?_)))
 by_cases i:((k:Nat):Int)<((n:Nat):Int)
 ·refine Cy rfl (dT i) (Sn (Sq (WC.block (Sr (Wn 2 rfl (Nx (Sr (Wn 3 rfl (Wa (.fV k underlying22 iI rfl rfl (hV.isSome eQ (by omega)) rfl (by omega)) rfl (Wr (.j5 iJ rfl (hV.le b) eQ (gD xs eO (by omega))) rfl (W.ef rfl rfl rfl (Ef.xm hgo rfl rfl rfl (hf _ _ b) ?_))))))))))))
  rintro _ t ⟨rfl,l⟩
  refine⟨_,rfl,?_⟩
  have m:=b.trans l
  refine Nx ?_
  by_cases d:(pr (xs.getD k eO))=true
  ·refine Cy rfl d (Sr (Wn 2 rfl (Nx (Rt (E.gT (E.eX (E.eX (E.gT (E.eX (E.fu rfl rfl ?_))))))))))
   exact⟨by rw[TM (by omega) hz d],m⟩
  refine Cn rfl (Bool.eq_false_iff.2 d) (WC.skip (E.gI (E.eY (WC.region (Wa (.add rfl rfl (by omega)) rfl (Wn 1 rfl (W.nil (E.again (k+1) (.of rfl) ?_ ?_))))))))
  ·exact⟨by omega,fun j hj=>by rcases Nat.lt_or_ge j k with h|h;exact hz j h;rw[show j=k by omega];exact d,m,by have:=o;have:=l.size;omega⟩
  first|omega|(simp only[];omega)
 refine Cn rfl (dF i) (WC.exit (E.fC (E.fC (E.gW (E.eY (Sr (Wn 1 rfl (Nx (Rt (E.fu rfl rfl ?_))))))))))
 exact⟨by rw[TN (k:=k) (by omega) (fun j s _=>hz j s)],b⟩





theorem NP {A:Option Addr}{n c:Nat}{xs:List fO.Edge}(w:World)(hV:Vec w fD 9 A n xs)(hn:n<=1000000):Calls prog 67 #[.slice A n c] w fun r w'=>r= .returned (.bool (ko xs))/\Le w w':=by
 have hl:=hV.1
 refine enter func67 rfl rfl (Sr (Wn 1 rfl (Nx (Sq (Sr (Wn 1 rfl (Wr (.len underlying22 rfl) rfl (Wn 1 rfl (Nx (WC.block (WC.loop (ι:=Nat) (fun k=>[(0,.slice A n c),(6,.slice A n c),(7,.int .i64 ((n:Nat):Int)),(8,.int .i64 ((k:Nat):Int))]) (fun k J=>(k<=n)/\(∀j,j<k->l6 xs j)/\Le w J/\w.heap.size<=J.heap.size) (fun k=>n-k) 0 ?_ ?_ ?_)))))))))))
 ·exact .of rfl
 ·exact⟨Nat.zero_le _,fun j hj=>absurd hj (Nat.not_lt_zero _),(Le.refl w),Nat.le_refl _⟩
 rintro k J ⟨hk,hz,K,aj⟩
 refine Sr (Wn 1 rfl (Nx (Sq ?_)))
 by_cases c0:((k:Nat):Int)<((n:Nat):Int)
 ·refine Cy rfl (dT c0) (Sn ?_)
  refine WC.cut (ι:=Unit) (fun _u=>[(0,.slice A n c),(6,.slice A n c),(7,.int .i64 ((n:Nat):Int)),(8,.int .i64 ((k:Nat):Int))]) (fun _u aa=>((edgeOk (xs.getD k eO))=true)/\(((0<((k:Nat):Int))/\¬(0<=(tO (xs.getD (k-1) eO) (xs.getD k eO))))\/(¬(0<((k:Nat):Int))))/\((((k:Nat):Int)=0)\/(¬(((k:Nat):Int)=0)/\(((xs.getD (k-1) eO).c)≠((xs.getD k eO).c)))\/(¬(((k:Nat):Int)=0)/\¬(((xs.getD (k-1) eO).c)≠((xs.getD k eO).c))/\(1<((k:Nat):Int))/\¬(((xs.getD (k-2) eO).c)=((xs.getD k eO).c))/\¬(((xs.getD (k-1) eO).f)≠((xs.getD k eO).t))/\¬(((xs.getD (k-1) eO).t)≠((xs.getD k eO).f))/\¬(((xs.getD (k-1) eO).r)≠((xs.getD k eO).r)))\/(¬(((k:Nat):Int)=0)/\¬(((xs.getD (k-1) eO).c)≠((xs.getD k eO).c))/\¬(1<((k:Nat):Int))/\¬(((xs.getD (k-1) eO).f)≠((xs.getD k eO).t))/\¬(((xs.getD (k-1) eO).t)≠((xs.getD k eO).f))/\¬(((xs.getD (k-1) eO).r)≠((xs.getD k eO).r))))/\Le w aa/\J.heap.size<=aa.heap.size) ?_ ?_
  ·refine WC.block (Sr (Wn 1 rfl (Wa (.fV k underlying22 iI rfl rfl (hV.isSome eQ (by omega)) rfl (by omega)) rfl (Wr (.j5 iJ rfl (hV.le K) eQ (gD xs eO (by omega))) rfl (W.ef rfl rfl rfl (Ef.fI z66 fun L ak al (am:fA ak L 66 (fD eO).toArray) z=>(Wn 1 rfl ?_)))))))
   refine W.iO rfl rfl (Ef.storeAll iI (by rfl) rfl rfl am (by simp only[List.size_toArray,eQ.len]) (eQ.one (xs.getD k eO)) ?_)
   intro ah ab C
   have ab:fA ah L 66 (fD (xs.getD k eO)).toArray:=ab
   refine Nx (WC.cut (ι:=Unit) (fun _u=>[(0,.slice A n c),(3,.int .i64 ((k:Nat):Int)),(4,.pointer (some ⟨L,0,none⟩)),(6,.slice A n c),(7,.int .i64 ((n:Nat):Int)),(8,.int .i64 ((k:Nat):Int))]) (fun _u N=>((edgeOk (xs.getD k eO))=true)/\(((0<((k:Nat):Int))/\¬(0<=(tO (xs.getD (k-1) eO) (xs.getD k eO))))\/(¬(0<((k:Nat):Int))))/\Le w N/\ah.heap.size<=N.heap.size/\fA N L 66 (fD (xs.getD k eO)).toArray) ?_ ?_)
   ·refine Sq (WC.draw [0,1,2,3,4,5,6,7,8,9,10,11,12,13,14,15,16] mixed (by kernel_rfl) fun w4 O=>?_)
    have f4:=(ab.le O)
    refine Gd rfl (.fB iJ (by rfl) rfl f4) ?_
    refine G.ef rfl rfl rfl rfl rfl (Ef.call Vm rfl rfl (Mo (xs.getD k eO) w4) ?_)
    rintro _ an ⟨rfl,s⟩
    refine⟨_,rfl,?_⟩
    refine⟨fun _=>s,?_⟩
    have P:=(((K.trans z).tb C K al).trans O).trans s
    refine Gn 1 rfl ?_
    by_cases Q:(edgeOk (xs.getD k eO))=true
    ·refine Ga rfl (.dec (.move rfl) (congrArg not Q)) (Gn 2 rfl ?_)
     by_cases R:0<((k:Nat):Int)
     ·refine jN rfl (.dec (.move rfl) (dT R)) (Gn 2 rfl (jN rfl (.sub rfl rfl (by omega)) (jN rfl (.fV (k-1) underlying22 iI rfl rfl (hV.isSome eQ (by omega)) (by omega) (by omega)) (pz rfl (.j5 iJ rfl (hV.le P) eQ (gD xs eO (by omega))) ?_))))
      have f6:=(f4.le s)
      refine pz rfl (.fB iJ (by rfl) rfl f6) ?_
      refine G.mW rfl rfl rfl rfl rfl rfl rfl rfl (Ef.call YR rfl rfl (Qy (xs.getD (k-1) eO) (xs.getD k eO) an) ?_)
      rintro _ ay ⟨rfl,S⟩
      refine⟨_,rfl,?_⟩
      refine⟨fun _=>S,?_⟩
      have L7:=P.trans S
      refine Gn 1 rfl (jN rfl (.mM rfl rfl rfl) (Gn 1 rfl (G.nil (E.eY ?_))))
      by_cases c1:0<=(tO (xs.getD (k-1) eO) (xs.getD k eO))
      ·refine Cy rfl (dT c1) (Sr (Wn 1 rfl (Nx (Rt (E.eX (E.gT (E.eX (E.eX (E.gT (E.eX (E.fu rfl rfl ?_)))))))))))
       exact⟨rB (dF (fun hr=>by have hr:=hr k (by omega);unfold l6 at hr;first|exact absurd hr.1 (by assumption)|(have d:=hr.2;clear hr;omega))).symm,L7⟩
      refine Cn rfl (dF c1) (WC.skip (E.meet () (.of rfl) ?_))
      exact⟨Q,Or.inl ⟨R,c1⟩,L7,by have:=O.size;have:=s.size;have:=S.size;omega,(f6.le S)⟩
     refine jN rfl (.dec (.move rfl) (dF R)) (Gn 8 rfl (jN rfl (.mO rfl rfl rfl) (Gn 1 rfl (G.nil (E.eY (WC.iD rfl (WC.skip (E.meet () (.of rfl) ?_))))))))
     exact⟨Q,Or.inr R,P,by have:=O.size;have:=s.size;omega,(f4.le s)⟩
    refine Ga rfl (.dec (.move rfl) (congrArg not (Bool.eq_false_iff.2 Q))) (Gn 3 rfl (G.fZ rfl rfl rfl rfl rfl rfl (G.fZ rfl rfl rfl rfl rfl rfl (G.fZ rfl rfl rfl rfl rfl rfl (G.fZ rfl rfl rfl rfl rfl rfl ?_)))))
    refine G.fZ rfl rfl rfl rfl rfl rfl (G.fZ rfl rfl rfl rfl rfl rfl (G.fZ rfl rfl rfl rfl rfl rfl (G.fZ rfl rfl rfl rfl rfl rfl (Gn 2 rfl (G.nil (E.eY (WC.gL rfl (Sr (Wn 1 rfl (Nx (Rt (E.eX (E.gT (E.eX (E.eX (E.gT (E.eX (E.fu rfl rfl ?_))))))))))))))))))
    exact⟨rB (dF (fun hr=>by have hr:=hr k (by omega);unfold l6 at hr;first|exact absurd hr.1 (by assumption)|(have d:=hr.2;clear hr;omega))).symm,P⟩
   rintro _u N ⟨T,U,ao,V,ap⟩
   refine Sq (Sq (WC.draw [0,1,2,3,4,5,6,7,8,9,10,11,12] mixed (by kernel_rfl) fun w6 u=>?_))
   have x:=ao.trans u
   refine Gn 2 rfl ?_
   by_cases y:((k:Nat):Int)=0
   ·refine Ga rfl (.dec (.move rfl) (dT y)) (Gn 10 rfl (G.nil (E.eY (WC.gL rfl (WC.exit (E.fC (E.gW (E.meet () (.of rfl) ?_))))))))
    exact⟨T,U,Or.inl y,x,by have:=u.size;have:=V;have:=z.size;have:=C.size;omega⟩
   refine Ga rfl (.dec (.move rfl) (dF y)) (Gn 2 rfl (jN rfl (.sub rfl rfl (by omega)) (jN rfl (.fV (k-1) underlying22 iI rfl rfl (hV.isSome eQ (by omega)) (by omega) (by omega)) (jN rfl (.gH iY (hV.isSome eQ (by omega)) rfl) (pz rfl (.ik (j:=(k-1)) (o:=2) (v:= .int .i64 ((xs.getD (k-1) eO).c)) gM rfl (hV.le x) eQ (gD xs eO (by omega)) rfl) ?_)))))
   refine jN rfl (.eZ iY rfl) ?_
   have D:=(ap.le u)
   refine pz rfl (.fe (v:= .int .i64 ((xs.getD k eO).c)) gM rfl D rfl) (Gn 2 rfl (G.nil (E.eY ?_)))
   by_cases F:((xs.getD (k-1) eO).c)≠((xs.getD k eO).c)
   ·refine Cy rfl (dT F) (WC.exit (E.fC (E.gW (E.meet () (.of rfl) ?_))))
    exact⟨T,U,Or.inr (Or.inl ⟨y,F⟩),x,by have:=u.size;have:=V;have:=z.size;have:=C.size;omega⟩
   refine Cn rfl (dF F) (Sn (Sr (Wn 2 rfl (Wa (.sub rfl rfl (by omega)) rfl (Wa (.fV (k-1) underlying22 iI rfl rfl (hV.isSome eQ (by omega)) (by omega) (by omega)) rfl (Wr (.j5 iJ rfl (hV.le x) eQ (gD xs eO (by omega))) rfl (W.ef rfl rfl rfl ?_)))))))
   refine Ef.fI z66 fun ai aq ar (au:fA aq ai 66 (fD eO).toArray) H=>(W.iO rfl rfl (Ef.storeAll iI (by rfl) rfl rfl au (by simp only[List.size_toArray,eQ.len]) (eQ.one (xs.getD (k-1) eO)) ?_))
   intro av X I
   have X:fA av ai 66 (fD (xs.getD (k-1) eO)).toArray:=X
   refine Nx (Sq (WC.draw [0,1,2,3,4,5,6,7,8,9,10,11,12,13,14,15,16,17,18,19,20,21,22,23,24,25,26,27,28,29,30,31,32,33] mixed (by kernel_rfl) fun w8 e=>?_))
   have b:=((x.trans H).tb I x ar).trans e
   refine Gn 2 rfl ?_
   by_cases Y:1<((k:Nat):Int)
   ·refine Ga rfl (.dec (.move rfl) (dT Y)) (Gn 2 rfl (jN rfl (.sub rfl rfl (by omega)) (jN rfl (.fV (k-2) underlying22 iI rfl rfl (hV.isSome eQ (by omega)) (by omega) (by omega)) (jN rfl (.gH iY (hV.isSome eQ (by omega)) rfl) (pz rfl (.ik (j:=(k-2)) (o:=2) (v:= .int .i64 ((xs.getD (k-2) eO).c)) gM rfl (hV.le b) eQ (gD xs eO (by omega)) rfl) ?_)))))
    refine jN rfl (.eZ iY rfl) ?_
    have Z:=(((D.le H).cn I (by have:=D.lt;omega)).le e)
    refine pz rfl (.fe (v:= .int .i64 ((xs.getD k eO).c)) gM rfl Z rfl) (Gn 2 rfl ?_)
    by_cases ac:((xs.getD (k-2) eO).c)=((xs.getD k eO).c)
    ·refine Ga rfl (.dec (.move rfl) (dT ac)) (Gn 20 rfl (G.nil (E.eY (WC.gL rfl (Sr (Wn 1 rfl (Nx (Rt (E.gT (E.eX (E.eX (E.gT (E.eX (E.fu rfl rfl ?_))))))))))))))
     exact⟨rB (dF (fun hr=>by have hr:=hr k (by omega);unfold l6 at hr;first|exact absurd hr.1 (by assumption)|(have d:=hr.2;clear hr;omega))).symm,b⟩
    refine Ga rfl (.dec (.move rfl) (dF ac)) (jN rfl (.eZ iX rfl) ?_)
    have ad:=(X.le e)
    refine pz rfl (.fe (v:= .int .i64 ((xs.getD (k-1) eO).f)) gM rfl ad rfl) (jN rfl (.eZ jK rfl) (pz rfl (.fe (v:= .int .i64 ((xs.getD k eO).t)) gM rfl Z rfl) (Gn 2 rfl ?_)))
    by_cases i:((xs.getD (k-1) eO).f)≠((xs.getD k eO).t)
    ·refine Ga rfl (.dec (.move rfl) (dT i)) (Gn 13 rfl (G.nil (E.eY (WC.gL rfl (Sr (Wn 1 rfl (Nx (Rt (E.gT (E.eX (E.eX (E.gT (E.eX (E.fu rfl rfl ?_))))))))))))))
     exact⟨rB (dF (fun hr=>by have hr:=hr k (by omega);unfold l6 at hr;first|exact absurd hr.1 (by assumption)|(have d:=hr.2;clear hr;omega))).symm,b⟩
    refine Ga rfl (.dec (.move rfl) (dF i)) (jN rfl (.eZ jK rfl) (pz rfl (.fe (v:= .int .i64 ((xs.getD (k-1) eO).t)) gM rfl ad rfl) (jN rfl (.eZ iX rfl) (pz rfl (.fe (v:= .int .i64 ((xs.getD k eO).f)) gM rfl Z rfl) (Gn 2 rfl ?_)))))
    by_cases l:((xs.getD (k-1) eO).t)≠((xs.getD k eO).f)
    ·refine Ga rfl (.dec (.move rfl) (dT l)) (Gn 6 rfl (G.nil (E.eY (WC.gL rfl (Sr (Wn 1 rfl (Nx (Rt (E.gT (E.eX (E.eX (E.gT (E.eX (E.fu rfl rfl ?_))))))))))))))
     exact⟨rB (dF (fun hr=>by have hr:=hr k (by omega);unfold l6 at hr;first|exact absurd hr.1 (by assumption)|(have d:=hr.2;clear hr;omega))).symm,b⟩
    refine Ga rfl (.dec (.move rfl) (dF l)) (jN rfl (.eZ iF rfl) (pz rfl (.fe (v:= .int .i64 ((xs.getD (k-1) eO).r)) gM rfl ad rfl) (jN rfl (.eZ iF rfl) (pz rfl (.fe (v:= .int .i64 ((xs.getD k eO).r)) gM rfl Z rfl) (Gn 2 rfl (G.nil (E.eY ?_)))))))
    by_cases m:((xs.getD (k-1) eO).r)≠((xs.getD k eO).r)
    ·refine Cy rfl (dT m) (Sr (Wn 1 rfl (Nx (Rt (E.gT (E.eX (E.eX (E.gT (E.eX (E.fu rfl rfl ?_))))))))))
     exact⟨rB (dF (fun hr=>by have hr:=hr k (by omega);unfold l6 at hr;first|exact absurd hr.1 (by assumption)|(have d:=hr.2;clear hr;omega))).symm,b⟩
    refine Cn rfl (dF m) (WC.skip (E.gI (E.meet () (.of rfl) ?_)))
    exact⟨T,U,Or.inr (Or.inr (Or.inl ⟨y,F,Y,ac,i,l,m⟩)),b,by have:=u.size;have:=H.size;have:=I.size;have:=e.size;have:=V;have:=z.size;have:=C.size;omega⟩
   refine Ga rfl (.dec (.move rfl) (dF Y)) (Gn 11 rfl (jN rfl (.eZ iX rfl) ?_))
   have ae:=(X.le e)
   refine pz rfl (.fe (v:= .int .i64 ((xs.getD (k-1) eO).f)) gM rfl ae rfl) (jN rfl (.eZ jK rfl) ?_)
   have af:=(((D.le H).cn I (by have:=D.lt;omega)).le e)
   refine pz rfl (.fe (v:= .int .i64 ((xs.getD k eO).t)) gM rfl af rfl) (Gn 2 rfl ?_)
   by_cases i:((xs.getD (k-1) eO).f)≠((xs.getD k eO).t)
   ·refine Ga rfl (.dec (.move rfl) (dT i)) (Gn 13 rfl (G.nil (E.eY (WC.gL rfl (Sr (Wn 1 rfl (Nx (Rt (E.gT (E.eX (E.eX (E.gT (E.eX (E.fu rfl rfl ?_))))))))))))))
    exact⟨rB (dF (fun hr=>by have hr:=hr k (by omega);unfold l6 at hr;first|exact absurd hr.1 (by assumption)|(have d:=hr.2;clear hr;omega))).symm,b⟩
   refine Ga rfl (.dec (.move rfl) (dF i)) (jN rfl (.eZ jK rfl) (pz rfl (.fe (v:= .int .i64 ((xs.getD (k-1) eO).t)) gM rfl ae rfl) (jN rfl (.eZ iX rfl) (pz rfl (.fe (v:= .int .i64 ((xs.getD k eO).f)) gM rfl af rfl) (Gn 2 rfl ?_)))))
   by_cases l:((xs.getD (k-1) eO).t)≠((xs.getD k eO).f)
   ·refine Ga rfl (.dec (.move rfl) (dT l)) (Gn 6 rfl (G.nil (E.eY (WC.gL rfl (Sr (Wn 1 rfl (Nx (Rt (E.gT (E.eX (E.eX (E.gT (E.eX (E.fu rfl rfl ?_))))))))))))))
    exact⟨rB (dF (fun hr=>by have hr:=hr k (by omega);unfold l6 at hr;first|exact absurd hr.1 (by assumption)|(have d:=hr.2;clear hr;omega))).symm,b⟩
   refine Ga rfl (.dec (.move rfl) (dF l)) (jN rfl (.eZ iF rfl) (pz rfl (.fe (v:= .int .i64 ((xs.getD (k-1) eO).r)) gM rfl ae rfl) (jN rfl (.eZ iF rfl) (pz rfl (.fe (v:= .int .i64 ((xs.getD k eO).r)) gM rfl af rfl) (Gn 2 rfl (G.nil (E.eY ?_)))))))
   by_cases m:((xs.getD (k-1) eO).r)≠((xs.getD k eO).r)
   ·refine Cy rfl (dT m) (Sr (Wn 1 rfl (Nx (Rt (E.gT (E.eX (E.eX (E.gT (E.eX (E.fu rfl rfl ?_))))))))))
    exact⟨rB (dF (fun hr=>by have hr:=hr k (by omega);unfold l6 at hr;first|exact absurd hr.1 (by assumption)|(have d:=hr.2;clear hr;omega))).symm,b⟩
   refine Cn rfl (dF m) (WC.skip (E.gI (E.meet () (.of rfl) ?_)))
   exact⟨T,U,Or.inr (Or.inr (Or.inr (⟨y,F,Y,i,l,m⟩))),b,by have:=u.size;have:=H.size;have:=I.size;have:=e.size;have:=V;have:=z.size;have:=C.size;omega⟩
  rintro _u aa ⟨az,aA,aB,aw,ax⟩
  refine WC.region (Wa (.add rfl rfl (by omega)) rfl (Wn 1 rfl (W.nil (E.again (k+1) (.of rfl) ?_ ?_))))
  ·exact⟨by omega,fun j hj=>by rcases Nat.lt_or_ge j k with h|h;exact hz j h;rw[show j=k by omega];refine⟨by assumption,fun _=>?_,fun⟨_,_⟩=>⟨?_,?_,?_,?_⟩⟩<;>first|omega|(exfalso;omega)|(exact fun⟨_,_⟩=>by omega),aw,by have:=aj;have:=ax;omega⟩
  first|omega|(simp only[];omega)
 refine Cn rfl (dF c0) (WC.exit (E.fC (E.fC (E.gW (E.eY (Sr (Wn 1 rfl (Nx (Rt (E.fu rfl rfl ?_))))))))))
 exact⟨rB (dT (fun j hj=>hz j (by omega))).symm,K⟩

theorem TQ {A:Option Addr}{n c:Nat}{xs:List fO.Edge}(w:World)(hV:Vec w fD 9 A n xs)(hn:n<=1000000):Calls prog 79 #[.slice A n c] w fun r w'=>r= .returned (.bool (nH xs))/\Le w w':=by
 have hl:=hV.1
 refine enter func79 rfl rfl (Sr (Wn 1 rfl (Nx (Sq (Sr (Wn 1 rfl (Wr (.len underlying22 rfl) rfl (W.cl Ig rfl rfl (ug ((n:Nat):Int) 1 8 w) ?_))))))))
 rintro _ av ⟨rfl,T⟩
 have s:=(Le.refl w).trans T
 refine Wn 1 rfl (Nx ?_)
 by_cases U:(jv ((n:Nat):Int) 1 8)=true
 ·refine Cn rfl (congrArg not U) (Sn (Sr (W.ef rfl rfl rfl (Ef.fI aaK fun d V X F Y=>?_))))
  have F:fA V d 181 ((List.replicate 12 false).map Value.bool).toArray:=F.cast rfl
  refine Nx (Sq (Sr (Wn 1 rfl (Wr (.len underlying22 rfl) rfl (Wn 1 rfl (Nx (WC.block (WC.loop (ι:=Nat×(List Bool)) (fun⟨k,bs⟩=>[(0,.slice A n c),(3,.pointer (some ⟨d,0,none⟩)),(10,.slice A n c),(11,.int .i64 ((n:Nat):Int)),(12,.int .i64 ((k:Nat):Int))]) (fun⟨k,bs⟩ u=>(k<=n)/\(bs.length=12)/\(∀j,j<k->vI xs j)/\(NM bs xs k)/\Le w u/\V.heap.size<=u.heap.size/\fA u d 181 (bs.map Value.bool).toArray) (fun⟨k,bs⟩=>n-k) (0,(List.replicate 12 false)) ?_ ?_ ?_))))))))
  ·exact .of rfl
  ·exact⟨Nat.zero_le _,rfl,fun j hj=>absurd hj (Nat.not_lt_zero _),Km xs,(s.trans Y),Nat.le_refl _,F⟩
  rintro⟨k,bs⟩ u ⟨hk,hb,hz,hd,x,ak,y⟩
  refine Sr (Wn 1 rfl (Nx (Sq ?_)))
  by_cases Z:((k:Nat):Int)<((n:Nat):Int)
  ·refine Cy rfl (dT Z) (Sn (Sq (WC.block (Sr (Wn 1 rfl (Wa (.fV k underlying22 iI rfl rfl (hV.isSome eQ (by omega)) rfl (by omega)) rfl (Wr (.j5 iJ rfl (hV.le x) eQ (gD xs eO (by omega))) rfl (W.ef rfl rfl rfl (Ef.fI z66 ?_)))))))))
   intro l al am H I
   have H:fA al l 66 (fD eO).toArray:=H
   refine Wn 1 rfl (W.iO rfl rfl (Ef.storeAll iI (by rfl) rfl rfl H (by simp only[List.size_toArray,eQ.len]) (eQ.one (xs.getD k eO)) ?_))
   intro aa J K
   have J:fA aa l 66 (fD (xs.getD k eO)).toArray:=J
   refine Nx ?_
   have f5:=((y.le I).cn K (by have:=y.lt;omega))
   refine WC.cut (ι:=Unit) (fun _u=>[(0,.slice A n c),(3,.pointer (some ⟨d,0,none⟩)),(5,.pointer (some ⟨l,0,none⟩)),(10,.slice A n c),(11,.int .i64 ((n:Nat):Int)),(12,.int .i64 ((k:Nat):Int))]) (fun _u m=>((edgeOk (xs.getD k eO))=true)/\(¬(((bs).getD (((xs.getD k eO).t).toNat) false)=true))/\(((0<((k:Nat):Int))/\¬(((xs.getD (k-1) eO).t)≠((xs.getD k eO).f)))\/(¬(0<((k:Nat):Int))))/\Le w m/\aa.heap.size<=m.heap.size/\fA m d 181 (bs.map Value.bool).toArray/\fA m l 66 (fD (xs.getD k eO)).toArray) ?_ ?_
   ·refine Sq (WC.draw [0,1,2,3,4,5,6,7,8,9,10,11,12,13,14,15,16,17,18,19,20,21,22,23] mixed (by kernel_rfl) fun w7 i=>?_)
    have L:=(J.le i)
    refine Gd rfl (.fB iJ (by rfl) rfl L) ?_
    refine G.ef rfl rfl rfl rfl rfl (Ef.call Vm rfl rfl (Mo (xs.getD k eO) w7) ?_)
    rintro _ aw ⟨rfl,b⟩
    refine⟨_,rfl,?_⟩
    refine⟨fun _=>b,?_⟩
    have e:=(((x.trans I).tb K x am).trans i).trans b
    refine Gn 1 rfl ?_
    by_cases z:(edgeOk (xs.getD k eO))=true
    ·refine Ga rfl (.dec (.move rfl) (congrArg not z)) (Gn 2 rfl ?_)
     by_cases C:0<((k:Nat):Int)
     ·refine jN rfl (.dec (.move rfl) (dT C)) (Gn 2 rfl (jN rfl (.sub rfl rfl (by omega)) (jN rfl (.fV (k-1) underlying22 iI rfl rfl (hV.isSome eQ (by omega)) (by omega) (by omega)) (jN rfl (.gH jK (hV.isSome eQ (by omega)) rfl) (pz rfl (.ik (j:=(k-1)) (o:=1) (v:= .int .i64 ((xs.getD (k-1) eO).t)) gM rfl (hV.le e) eQ (gD xs eO (by omega)) rfl) ?_)))))
      refine jN rfl (.eZ iX rfl) ?_
      have N:=(L.le b)
      refine pz rfl (.fe (v:= .int .i64 ((xs.getD k eO).f)) gM rfl N rfl) (Gn 1 rfl (jN rfl (.mM rfl rfl rfl) (Gn 1 rfl ?_)))
      by_cases O:((xs.getD (k-1) eO).t)≠((xs.getD k eO).f)
      ·refine Ga rfl (.dec (.move rfl) (dT O)) (Gn 5 rfl (G.nil (E.eY (WC.gL rfl (Sr (Wn 1 rfl (Nx (Rt (E.eX (E.gT (E.eX (E.eX (E.gT (E.eX (E.fu rfl rfl ?_)))))))))))))))
       exact⟨rB (dF (fun hr=>by have hr:=hr.2 k (by omega);first|exact absurd hr.1 (by assumption)|exact xH hz hd (by assumption) hr|(have:=hr.2.1;omega))).symm,e⟩
      refine Ga rfl (.dec (.move rfl) (dF O)) (jN rfl (.eZ jK rfl) (pz rfl (.fe (v:= .int .i64 ((xs.getD k eO).t)) gM rfl N rfl) ?_))
      have hok:=lK (show edgeOk (xs.getD k eO)=true by assumption)
      refine jN rfl (.ja (((xs.getD k eO).t).toNat) underlying181 U5 rfl rfl (by omega) (by omega)) ?_
      have ab:=(f5.le (i.trans b))
      refine pz rfl (.fe ZU rfl ab (XQ bs false (by omega))) (Gn 1 rfl (G.nil (E.eY ?_)))
      by_cases h:((bs).getD (((xs.getD k eO).t).toNat) false)=true
      ·refine Cy rfl h (Sr (Wn 1 rfl (Nx (Rt (E.eX (E.gT (E.eX (E.eX (E.gT (E.eX (E.fu rfl rfl ?_)))))))))))
       exact⟨rB (dF (fun hr=>by have hr:=hr.2 k (by omega);first|exact absurd hr.1 (by assumption)|exact xH hz hd (by assumption) hr|(have:=hr.2.1;omega))).symm,e⟩
      refine Cn rfl (Bool.eq_false_iff.2 h) (WC.skip (E.meet () (.of rfl) ?_))
      exact⟨z,h,Or.inl ⟨C,O⟩,e,by have:=i.size;have:=b.size;omega,ab,N⟩
     refine jN rfl (.dec (.move rfl) (dF C)) (Gn 9 rfl (jN rfl (.mO rfl rfl rfl) (Gn 2 rfl (jN rfl (.eZ jK rfl) ?_))))
     have ac:=(L.le b)
     refine pz rfl (.fe (v:= .int .i64 ((xs.getD k eO).t)) gM rfl ac rfl) ?_
     have hok:=lK (show edgeOk (xs.getD k eO)=true by assumption)
     refine jN rfl (.ja (((xs.getD k eO).t).toNat) underlying181 U5 rfl rfl (by omega) (by omega)) ?_
     have ad:=(f5.le (i.trans b))
     refine pz rfl (.fe ZU rfl ad (XQ bs false (by omega))) (Gn 1 rfl (G.nil (E.eY ?_)))
     by_cases h:((bs).getD (((xs.getD k eO).t).toNat) false)=true
     ·refine Cy rfl h (Sr (Wn 1 rfl (Nx (Rt (E.eX (E.gT (E.eX (E.eX (E.gT (E.eX (E.fu rfl rfl ?_)))))))))))
      exact⟨rB (dF (fun hr=>by have hr:=hr.2 k (by omega);first|exact absurd hr.1 (by assumption)|exact xH hz hd (by assumption) hr|(have:=hr.2.1;omega))).symm,e⟩
     refine Cn rfl (Bool.eq_false_iff.2 h) (WC.skip (E.meet () (.of rfl) ?_))
     exact⟨z,h,Or.inr C,e,by have:=i.size;have:=b.size;omega,ad,ac⟩
    refine Ga rfl (.dec (.move rfl) (congrArg not (Bool.eq_false_iff.2 z))) (Gn 3 rfl (G.fZ rfl rfl rfl rfl rfl rfl (G.fZ rfl rfl rfl rfl rfl rfl (G.fZ rfl rfl rfl rfl rfl rfl (G.fZ rfl rfl rfl rfl rfl rfl ?_)))))
    refine G.fZ rfl rfl rfl rfl rfl rfl (G.fZ rfl rfl rfl rfl rfl rfl (G.fZ rfl rfl rfl rfl rfl rfl (G.fZ rfl rfl rfl rfl rfl rfl (G.fZ rfl rfl rfl rfl rfl rfl (Gn 8 rfl (G.nil (E.eY (WC.gL rfl (Sr (Wn 1 rfl (Nx (Rt (E.eX (E.gT (E.eX (E.eX (E.gT (E.eX ?_))))))))))))))))))
    refine E.fu rfl rfl ?_
    exact⟨rB (dF (fun hr=>by have hr:=hr.2 k (by omega);first|exact absurd hr.1 (by assumption)|exact xH hz hd (by assumption) hr|(have:=hr.2.1;omega))).symm,e⟩
   rintro _u m ⟨ax,ay,az,an,ao,ap,aq⟩
   refine WC.PD (fun w9 w'=>Le w w'/\fA w' l 66 (fD (xs.getD k eO)).toArray) [0,1,2,3,4,5,6,7] mixed (by kernel_rfl) fun w9 D=>?_
   have ae:=an.trans D
   have af:=(aq.le D)
   refine⟨⟨ae,af⟩,?_⟩
   have hok:=lK (show edgeOk (xs.getD k eO)=true by assumption)
   refine GS.any rfl rfl (.eZ iX rfl) rfl rfl rfl (GS.rd rfl rfl (fun w' hs=> .fe (v:= .int .i64 ((xs.getD k eO).f)) gM rfl hs.2 rfl) rfl rfl rfl (GS.any rfl rfl (.eZ jK rfl) rfl rfl rfl (GS.rd rfl rfl (fun w' hs=> .fe (v:= .int .i64 ((xs.getD k eO).t)) gM rfl hs.2 rfl) rfl rfl rfl (GS.any rfl rfl (.ja (((xs.getD k eO).f).toNat) underlying181 U5 rfl rfl (by omega) (by omega)) rfl rfl rfl (GS.iO rfl rfl rfl rfl ?_)))))
   refine Ef.store U5 rfl rfl (ap.le D) (by simp only[List.size_toArray,List.length_map,List.length_set];omega) rfl ?_
   intro ar P Q
   have P:fA ar d 181 ((bs.set (((xs.getD k eO).f).toNat) true).map Value.bool).toArray:=Wm P
   have ah:=ae.tb Q s X
   have ai:=(af.cn Q (by have:=y.lt;omega))
   refine⟨⟨ah,ai⟩,?_⟩
   refine GS.any rfl rfl (.ja (((xs.getD k eO).t).toNat) underlying181 U5 rfl rfl (by omega) (by omega)) rfl rfl rfl (GS.iO rfl rfl rfl rfl (Ef.store U5 rfl rfl P (by simp only[List.size_toArray,List.length_map,List.length_set];omega) rfl ?_))
   intro au R S
   have R:fA au d 181 (((bs.set (((xs.getD k eO).f).toNat) true).set (((xs.getD k eO).t).toNat) true).map Value.bool).toArray:=Wm R
   have aj:=ah.tb S s X
   refine⟨⟨aj,(ai.cn S (by have:=y.lt;omega))⟩,?_⟩
   refine GS.nil (E.gI (E.eY (WC.region (Wa (.add rfl rfl (by omega)) rfl (Wn 1 rfl (W.nil (E.again (k+1,((bs.set (xs.getD k eO).f.toNat true).set (xs.getD k eO).t.toNat true)) (.of rfl) ?_ ?_)))))))
   ·exact⟨by omega,by simp[hb],Qz hz (by assumption) (by intro h0;omega) hd (by assumption),NN hb (by assumption) hd,aj,by have:=ak;have:=D.size;have:=Q.size;have:=S.size;have:=ao;have:=T.size;have:=Y.size;have:=I.size;have:=K.size;omega,R⟩
   first|omega|(simp only[];omega)
  refine Cn rfl (dF Z) (WC.exit (E.fC (E.fC (E.gW (E.eY (Sr (Wn 1 rfl (Nx (Rt (E.fu rfl rfl ?_))))))))))
  exact⟨rB (dT ⟨by have:=jD (by assumption:jv (n:Int) 1 8=true);omega,fun j hj=>hz j (by omega)⟩).symm,x⟩
 refine Cy rfl (congrArg not (Bool.eq_false_iff.2 U)) (Sr (Wn 1 rfl (Nx (Rt (E.eX (E.fu rfl rfl ?_))))))
 exact⟨rB (dF (fun hr=>by have:=GU (Bool.eq_false_iff.2 (by assumption:¬jv (n:Int) 1 8=true));have:=hr.1;omega)).symm,s⟩
end Go.Proofs.YtkaedikifgpkeaaGreatDoor

namespace Go.Proofs.YtkaedikifgpkeaaGreatDoor
open Tryz
open Go Go.Sx Go.wK Go.Num Go.wM Go.fO
set_option maxRecDepth 20000
theorem Mq (a x:Int){A:Option Addr}{n c:Nat}{xs:List fO.Edge}(w:World)(hV:Vec w fD 9 A n xs)(hn:n<=1000000):Calls prog 35 #[.slice A n c,.int .i64 a,.int .i64 (x)] w fun r w'=>∃A1 c1 A2 c2,r= .returned (.tuple #[.slice A1 (fq xs a x).1.length c1,.slice A2 (fq xs a x).2.1.length c2,.int .i64 (fq xs a x).2.2])/\eU w' w.heap.size 3 iv 1 A1 (fq xs a x).1.length c1 (fq xs a x).1/\eU w' w.heap.size 3 iv 1 A2 (fq xs a x).2.1.length c2 (fq xs a x).2.1/\Le w w':=by
 have hl:=hV.1
 refine enter func35 rfl rfl ?_
 have Z:=Le.refl w
 refine Sr (Wn 3 rfl (Nx (Sq (Sr (Wn 1 rfl (W.cl aba rfl rfl (TQ w (hV.le Z) (by omega)) ?_))))))
 rintro _ aw ⟨rfl,ax⟩
 have L1:=Z.trans ax
 refine Wn 1 rfl (Nx ?_)
 by_cases c0:(nH xs)=true
 ·refine Cn rfl (congrArg not c0) (Sn (Sq (Sr (Wn 1 rfl (W.cl Ig rfl rfl (ug a 1 1125899906842624 aw) ?_)))))
  rintro _ ay ⟨rfl,az⟩
  have L2:=L1.trans az
  refine Wn 1 rfl ?_
  by_cases aa:(jv a 1 1125899906842624)=true
  ·refine Wa (.dec (.move rfl) (congrArg not aa)) rfl (Wn 1 rfl (W.mW rfl rfl rfl rfl rfl rfl (Ef.call Ig rfl rfl (ug x 1 1048576 ay) ?_)))
   rintro _ e ⟨rfl,aA⟩
   refine⟨_,rfl,?_⟩
   have z:=L2.trans aA
   refine Wn 2 rfl (Nx ?_)
   by_cases c1:(jv x 1 1048576)=true
   ·refine Cn rfl (congrArg not c1) ?_
    have hwl:=kZ (by assumption:nH xs=true)
    have aV:=jD (by assumption:jv a 1 1125899906842624=true)
    have aW:=jD (by assumption:jv x 1 1048576=true)
    refine Sn (WC.cut (ι:=Nat×Nat) (fun⟨k,s⟩=>[(0,.slice A n c),(1,.int .i64 a),(2,.int .i64 x),(9,.slice (some ⟨k,0,none⟩) n n),(10,.slice (some ⟨s,0,none⟩) n n)]) (fun⟨k,s⟩ t=>Le w t/\e.heap.size<=t.heap.size/\eU t e.heap.size 3 iv 1 (some ⟨k,0,none⟩) n n (List.replicate n 0)/\eU t e.heap.size 3 iv 1 (some ⟨s,0,none⟩) n n (List.replicate n 0)/\Apart (some ⟨k,0,none⟩) n (some ⟨s,0,none⟩) n) ?_ ?_)
    ·refine WC.Pw (fun o=>(app o [0,1,3,4] (.br (app o [2,6,5,7] .nil) (app o [5,2,6,7] .nil)))) mixed (by kernel_rfl) fun w5 u=>?_
     have L4:=z.trans u
     refine GT.app (Gn 1 rfl (Gd rfl (.len underlying22 rfl) (Gn 1 rfl (Gd rfl (.len underlying22 rfl) (G.nil ?_)))))
     refine GT.br ?_ ?_
     ·refine GT.last (G.ef rfl rfl rfl rfl rfl (Ef.rA 0 n underlying47 Gx fT rfl rfl rfl rfl rfl (by omega) (by unfold maxLen;omega) ?_))
      intro aB aX aY ab K
      refine⟨fun _=>K,?_⟩
      refine Gn 1 rfl (G.ef rfl rfl rfl rfl rfl (Ef.rA 0 n underlying47 Gx fT rfl rfl rfl rfl rfl (by omega) (by unfold maxLen;omega) ?_))
      intro aC aZ a0 ac L
      refine⟨fun _=>L,?_⟩
      refine Gn 1 rfl (G.nil (E.meet (aB,aC) (.of rfl) ?_))
      exact⟨((L4.trans K).trans L),by have:=u.size;have:=K.size;have:=L.size;omega,((ab.le L).mono (by have:=u.size;omega)),(ac.mono (by have:=u.size;have:=K.size;omega)),(fun q T U=>by have:=(ab.row T).2;have:=(ac.row U).1;omega)⟩
     refine GT.last (G.ef rfl rfl rfl rfl rfl (Ef.rA 0 n underlying47 Gx fT rfl rfl rfl rfl rfl (by omega) (by unfold maxLen;omega) ?_))
     intro aE a1 a2 ad N
     refine⟨fun _=>N,?_⟩
     refine G.ef rfl rfl rfl rfl rfl (Ef.rA 0 n underlying47 Gx fT rfl rfl rfl rfl rfl (by omega) (by unfold maxLen;omega) ?_)
     intro aF a3 a4 ae O
     refine⟨fun _=>O,?_⟩
     refine Gn 2 rfl (G.nil (E.meet (aF,aE) (.of rfl) ?_))
     exact⟨((L4.trans N).trans O),by have:=u.size;have:=N.size;have:=O.size;omega,(ae.mono (by have:=u.size;have:=N.size;omega)),((ad.le O).mono (by have:=u.size;omega)),(Apart.symm (fun q T U=>by have:=(ad.row T).2;have:=(ae.row U).1;omega))⟩
    rintro⟨k,s⟩ t ⟨aG,af,ah,ai,V⟩
    have a5:e.heap.size<=t.heap.size:=by have:=af;omega
    have aj:e.heap.size<=t.heap.size:=by have:=af;omega
    refine Sq (Sr (Wn 1 rfl (Wr (.len underlying22 rfl) rfl (Wa (.sub rfl rfl (by omega)) rfl (Wn 1 rfl (Nx (WC.block ?_)))))))
    refine WC.loop (ι:=Nat×Int×Int×(Option (Int×Int))×(List (Int×Int))) (fun⟨j,am,ex,nx,l⟩=>[(0,.slice A n c),(1,.int .i64 am),(2,.int .i64 ex),(9,.slice (some ⟨k,0,none⟩) n n),(10,.slice (some ⟨s,0,none⟩) n n),(11,.int .i64 (((j:Nat):Int)-1))]) (fun⟨j,am,ex,nx,l⟩ y=>(j<=n)/\(l.length=n-j)/\(jh a x (xs.drop j)= .ok (nx,l))/\(0<j->nx=some (am,ex)/\0<=am/\am<=1125899906842624/\0<=ex/\ex<=2097152)/\Le w y/\t.heap.size<=y.heap.size/\eU y e.heap.size 3 iv 1 (some ⟨k,0,none⟩) n n (List.replicate j 0++l.map Prod.fst)/\eU y e.heap.size 3 iv 1 (some ⟨s,0,none⟩) n n (List.replicate j 0++l.map Prod.snd)) (fun⟨j,am,ex,nx,l⟩=>j) (n,a,x,some (a,x),[]) ?_ ?_ ?_
    ·exact .of rfl
    ·exact⟨Nat.le_refl _,by simp,by rw[List.drop_of_length_le (by omega)];rfl,fun _=>⟨rfl,by omega,by omega,by omega,by omega⟩,aG,Nat.le_refl _,(ah).cast rfl (by simp),(ai).cast rfl (by simp)⟩
    rintro⟨j,am,ex,nx,l⟩ y ⟨hj,hll,hF,hnx,P,ak,Q,R⟩
    have a6:e.heap.size<=y.heap.size:=Nat.le_trans aj (by omega)
    have a7:e.heap.size<=y.heap.size:=Nat.le_trans aj (by omega)
    refine Sq (Sr (Wn 2 rfl (Nx ?_)))
    by_cases c2:0<=(((j:Nat):Int)-1)
    ·refine Cy rfl (dT c2) ?_
     obtain⟨rfl,a8,a9,ba,bb⟩:=hnx (by omega)
     have hok:=lK (nN (by assumption:nH xs=true) (i:=j-1) (by omega)).1
     have hpk:=Ac hok.2.2.2.2.2
     have hpI:=Lj hok.2.2.2.2.2
     refine Sn (Sq (WC.block (Sr (Wn 2 rfl (Wa (.fV (j-1) underlying22 iI rfl rfl (hV.isSome eQ (by omega)) (by omega) (by omega)) rfl (Wr (.j5 iJ rfl (hV.le P) eQ (gD xs eO (by omega))) rfl (W.ef rfl rfl rfl (Ef.fI z66 fun al aH aI (aJ:fA aH al 66 (fD eO).toArray) H=>(W.iO rfl rfl ?_)))))))))
     refine Ef.storeAll iI (by rfl) rfl rfl aJ (by simp only[List.size_toArray,eQ.len]) (eQ.one (xs.getD (j-1) eO)) ?_
     intro an C I
     have C:fA an al 66 (fD (xs.getD (j-1) eO)).toArray:=C
     refine Nx (Sq (WC.block (Sr (Wn 1 rfl (Wa (.eZ oo rfl) rfl (Wa (.FD yA rfl) rfl (Wr (.fe (v:= .int .i64 ((xs.getD (j-1) eO).jF.l)) gM rfl C rfl) rfl (Wa (.eZ oo rfl) rfl (Wa (.FD yB rfl) rfl ?_)))))))))
     refine Wr (.fe (v:= .int .i64 ((xs.getD (j-1) eO).jF.m)) gM rfl C rfl) rfl (Wa (.eZ iF rfl) rfl (Wr (.fe (v:= .int .i64 ((xs.getD (j-1) eO).r)) gM rfl C rfl) rfl (Wr (.min2 rfl rfl) rfl (W.cl Ig rfl rfl (ug am ((xs.getD (j-1) eO).jF.l) (min ((xs.getD (j-1) eO).jF.m) ((xs.getD (j-1) eO).r)) an) ?_))))
     rintro _ bc ⟨rfl,D⟩
     have X:=((P.trans H).tb I P aI).trans D
     refine Wn 2 rfl (Nx ?_)
     by_cases c3:(jv am ((xs.getD (j-1) eO).jF.l) (min ((xs.getD (j-1) eO).jF.m) ((xs.getD (j-1) eO).r)))=true
     ·refine Cn rfl (congrArg not c3) (Sr (Wn 3 rfl (Nx ?_)))
      by_cases c4:1048576<ex
      ·refine Cy rfl (dT c4) (Sr (Wn 3 rfl (Nx (Rt (E.gT (E.eX (E.gT (E.eX (E.eX (E.gT (E.eX (E.gU rfl rfl rfl rfl ?_))))))))))))
       have hc:fq xs a x=([],[],16):=kF (by assumption) (by assumption) (by assumption) (vV (by omega) (by omega) hF (by assumption) (by omega))
       exact⟨none,0,none,0,by rw[hc];rfl,by rw[hc];exact eU.nil _ _ _ _ _ _,by rw[hc];exact eU.nil _ _ _ _ _ _,X⟩
      refine Cn rfl (dF c4) (WC.skip (E.gI (E.eY (Sr (Wn 6 rfl (Wa (.fV (j-1) underlying47 kR rfl rfl (ah.vec.isSome fT (by omega)) (by omega) (by omega)) rfl ?_))))))
      have ao:=(((Q.le H).cb I (Q.rn (by omega))).le D)
      refine W.iO rfl rfl (Ef.vE (j:=(j-1)) (o:=0) am kR rfl (by omega) rfl ao fT (gD (List.replicate j 0++l.map Prod.fst) 0 (by simp;omega)) (by decide) rfl rfl ?_)
      intro bd aK J
      have ap:=aK.cast (m':=n) (ys:=(List.replicate (j-1) 0++am::l.map Prod.fst)) rfl (Af _ _ _ (by omega))
      refine Wa (.fV (j-1) underlying47 kR rfl rfl (ai.vec.isSome fT (by omega)) (by omega) (by omega)) rfl ?_
      have aq:=((((R.le H).cb I (R.rn (by omega))).le D).ch J V)
      refine W.iO rfl rfl (Ef.vE (j:=(j-1)) (o:=0) ex kR rfl (by omega) rfl aq fT (gD (List.replicate j 0++l.map Prod.snd) 0 (by simp;omega)) (by decide) rfl rfl ?_)
      intro aL aM F
      have ar:=aM.cast (m':=n) (ys:=(List.replicate (j-1) 0++ex::l.map Prod.snd)) rfl (Af _ _ _ (by omega))
      refine Nx (Sr (Wa (.eZ oo rfl) rfl ?_))
      have Y:=(((C.le D).ch J (Q.rn (by omega))).ch F (R.rn (by omega)))
      refine Wr (.vO (nI ((xs.getD (j-1) eO).jF)) Ib rfl (by decide) rfl Y rfl) rfl (Wn 1 rfl (W.cl abb rfl rfl (TL ((xs.getD (j-1) eO).jF) am hpI aL) ?_))
      rintro _ aO ⟨rfl,f⟩
      refine Wn 5 rfl (Nx (Sr (Wn 2 rfl (W.cl Yz rfl rfl (Mm am ((jf ((xs.getD (j-1) eO).jF) am).1) aO) ?_))))
      rintro _ be ⟨rfl,h⟩
      have S:=(((X.gG J (fun q hq=>Nat.le_trans z.size (ao.row hq).1)).gG F (fun q hq=>Nat.le_trans z.size (aq.row hq).1)).trans f).trans h
      refine Wn 5 rfl (Nx (Sq (Sr (Wn 2 rfl ?_))))
      by_cases au:0<(((j:Nat):Int)-1)
      ·refine Dt au rfl rfl (Wn 2 rfl ?_)
       by_cases av:((jf ((xs.getD (j-1) eO).jF) am).2)=true
       ·refine Wg (Any.rd (.dec (.move rfl) (congrArg not av)) _) rfl (Wn 2 rfl (Wg (Any.rd (.mO rfl rfl rfl) _) rfl (Wn 1 rfl (Nx ?_))))
        by_cases c5:((jV am ((jf ((xs.getD (j-1) eO).jF) am).1)).2)=true
        ·refine Cn rfl (congrArg not c5) (Sn (WC.draw [0,1,2,3,4,5,6,7] mixed (by kernel_rfl) fun aP b=>(Gn 2 rfl (Ga rfl (.eZ oo rfl) (Ga rfl (.FD BS rfl) ?_)))))
         refine Gd rfl (.fe (v:= .int .i64 ((xs.getD (j-1) eO).jF.d)) gM rfl (Y.le (f.trans (h.trans b))) rfl) (Ga rfl (.add rfl rfl (by omega)) (Gn 2 rfl (G.nil (E.gI (E.eY (WC.region (Wn 1 rfl (Wa (.sub rfl rfl (by omega)) rfl (Wn 1 rfl (W.nil ?_))))))))))
         have aQ:=((ap.ch F (Apart.symm V)).le (f.trans (h.trans b)))
         have aR:=(ar.le (f.trans (h.trans b)))
         refine E.again (j-1,(jV am (jf (xs.getD (j-1) eO).jF am).1).1,ex+(xs.getD (j-1) eO).jF.d,pY (xs.getD (j-1) eO) am ex,(am,ex)::l) (.cons rfl (.cons rfl (.cons rfl (.cons rfl (.cons rfl (.cons' rfl (int_eq (by omega)) (.nil _))))))) ?_ ?_
         ·exact⟨by omega,by simp;omega,mZ (by omega) (by omega) hF (by assumption) (by omega),fun h0=>by first|(exfalso;omega)|(have hv:=Bd (by assumption:(jV am (jf (xs.getD (j-1) eO).jF am).1).2=true);rw[hv.1];exact⟨by rw[vW (by assumption) (by assumption),hv.1],by omega,by omega,by omega,by omega⟩),(S.trans b),by have:=ak;have:=H.size;have:=I.size;have:=D.size;have:=J.size;have:=F.size;have:=f.size;have:=h.size;have:=b.size;omega,aQ,aR⟩
         first|omega|(simp only[];omega)
        refine Cy rfl (congrArg not (Bool.eq_false_iff.2 c5)) (Sr (Wn 3 rfl (Nx (Rt (E.eX (E.gT (E.eX (E.eX (E.gT (E.eX (E.gU rfl rfl rfl rfl ?_)))))))))))
        have hc:fq xs a x=([],[],6):=kF (by assumption) (by assumption) (by assumption) (by first|exact nZ (by omega) (by omega) hF (by assumption)|exact p9 (j:=j-1) (by omega) (by omega) (by rw[mZ (by omega) (by omega) hF (by assumption) (by omega),qa (by first|exact .inl (by assumption)|exact .inr (by assumption))]))
        exact⟨none,0,none,0,by rw[hc];rfl,by rw[hc];exact eU.nil _ _ _ _ _ _,by rw[hc];exact eU.nil _ _ _ _ _ _,S⟩
       refine Wg (Any.rd (.dec (.move rfl) (congrArg not (Bool.eq_false_iff.2 av))) _) rfl (Wn 2 rfl (Wg (Any.rd (.mM rfl rfl rfl) _) rfl (Wn 1 rfl (Nx (WC.gL rfl (Sr (Wn 3 rfl (Nx (Rt (E.eX (E.gT (E.eX (E.eX (E.gT (E.eX (E.gU rfl rfl rfl rfl ?_))))))))))))))))
       have hc:fq xs a x=([],[],6):=kF (by assumption) (by assumption) (by assumption) (by first|exact nZ (by omega) (by omega) hF (by assumption)|exact p9 (j:=j-1) (by omega) (by omega) (by rw[mZ (by omega) (by omega) hF (by assumption) (by omega),qa (by first|exact .inl (by assumption)|exact .inr (by assumption))]))
       exact⟨none,0,none,0,by rw[hc];rfl,by rw[hc];exact eU.nil _ _ _ _ _ _,by rw[hc];exact eU.nil _ _ _ _ _ _,S⟩
      refine Df au rfl rfl (Wn 3 rfl (W.fZ rfl rfl rfl rfl rfl (W.fZ rfl rfl rfl rfl rfl (Wn 2 rfl (Nx (WC.iD rfl (Sn (WC.draw [0,1,2,3,4,5,6,7] mixed (by kernel_rfl) fun aP b=>(Gn 2 rfl ?_)))))))))
      refine Ga rfl (.eZ oo rfl) (Ga rfl (.FD BS rfl) (Gd rfl (.fe (v:= .int .i64 ((xs.getD (j-1) eO).jF.d)) gM rfl (Y.le (f.trans (h.trans b))) rfl) (Ga rfl (.add rfl rfl (by omega)) (Gn 2 rfl (G.nil (E.gI (E.eY (WC.region (Wn 1 rfl (Wa (.sub rfl rfl (by omega)) rfl ?_))))))))))
      refine Wn 1 rfl (W.nil ?_)
      have aS:=((ap.ch F (Apart.symm V)).le (f.trans (h.trans b)))
      have aT:=(ar.le (f.trans (h.trans b)))
      refine E.again (j-1,(jV am (jf (xs.getD (j-1) eO).jF am).1).1,ex+(xs.getD (j-1) eO).jF.d,pY (xs.getD (j-1) eO) am ex,(am,ex)::l) (.cons rfl (.cons rfl (.cons rfl (.cons rfl (.cons rfl (.cons' rfl (int_eq (by omega)) (.nil _))))))) ?_ ?_
      ·exact⟨by omega,by simp;omega,mZ (by omega) (by omega) hF (by assumption) (by omega),fun h0=>by first|(exfalso;omega)|(have hv:=Bd (by assumption:(jV am (jf (xs.getD (j-1) eO).jF am).1).2=true);rw[hv.1];exact⟨by rw[vW (by assumption) (by assumption),hv.1],by omega,by omega,by omega,by omega⟩),(S.trans b),by have:=ak;have:=H.size;have:=I.size;have:=D.size;have:=J.size;have:=F.size;have:=f.size;have:=h.size;have:=b.size;omega,aS,aT⟩
      first|omega|(simp only[];omega)
     refine Cy rfl (congrArg not (Bool.eq_false_iff.2 c3)) (Sr (Wn 3 rfl (Nx (Rt (E.gT (E.eX (E.gT (E.eX (E.eX (E.gT (E.eX (E.gU rfl rfl rfl rfl ?_))))))))))))
     have hc:fq xs a x=([],[],6):=kF (by assumption) (by assumption) (by assumption) (by first|exact nZ (by omega) (by omega) hF (by assumption)|exact p9 (j:=j-1) (by omega) (by omega) (by rw[mZ (by omega) (by omega) hF (by assumption) (by omega),qa (by first|exact .inl (by assumption)|exact .inr (by assumption))]))
     exact⟨none,0,none,0,by rw[hc];rfl,by rw[hc];exact eU.nil _ _ _ _ _ _,by rw[hc];exact eU.nil _ _ _ _ _ _,X⟩
    refine Cn rfl (dF c2) ?_
    have aU:j=0:=by omega
    refine WC.exit (E.fC (E.fC (E.gW (E.eY (Sr (Wn 5 rfl (Nx (Rt (E.gU rfl rfl rfl rfl ?_)))))))))
    have hc:=wQ (by assumption) (by assumption) (by assumption) (show jh a x xs= .ok (nx,l) by rw[show j=0 by omega]at hF;exact hF)
    subst aU
    exact⟨some ⟨k,0,none⟩,n,some ⟨s,0,none⟩,n,by rw[hc];simp[show l.length=n by omega],by rw[hc];exact(Q.mono z.size).cast (by simp;omega) (by simp),by rw[hc];exact(R.mono z.size).cast (by simp;omega) (by simp),P⟩
   refine Cy rfl (congrArg not (Bool.eq_false_iff.2 c1)) (Sr (Wn 3 rfl (Nx (Rt (E.eX (E.gU rfl rfl rfl rfl ?_))))))
   have hc:fq xs a x=([],[],1):=pK (by assumption) (by first|exact .inl (by assumption)|exact .inr (by assumption))
   exact⟨none,0,none,0,by rw[hc];rfl,by rw[hc];exact eU.nil _ _ _ _ _ _,by rw[hc];exact eU.nil _ _ _ _ _ _,z⟩
  refine Wa (.dec (.move rfl) (congrArg not (Bool.eq_false_iff.2 aa))) rfl (Wn 4 rfl (Nx (WC.gL rfl (Sr (Wn 3 rfl (Nx (Rt (E.eX (E.gU rfl rfl rfl rfl ?_)))))))))
  have hc:fq xs a x=([],[],1):=pK (by assumption) (by first|exact .inl (by assumption)|exact .inr (by assumption))
  exact⟨none,0,none,0,by rw[hc];rfl,by rw[hc];exact eU.nil _ _ _ _ _ _,by rw[hc];exact eU.nil _ _ _ _ _ _,L2⟩
 refine Cy rfl (congrArg not (Bool.eq_false_iff.2 c0)) (Sr (Wn 3 rfl (Nx (Rt (E.eX (E.gU rfl rfl rfl rfl ?_))))))
 have hc:fq xs a x=([],[],19):=yj (by assumption)
 exact⟨none,0,none,0,by rw[hc];rfl,by rw[hc];exact eU.nil _ _ _ _ _ _,by rw[hc];exact eU.nil _ _ _ _ _ _,L1⟩
end Go.Proofs.YtkaedikifgpkeaaGreatDoor

namespace Go.Proofs.YtkaedikifgpkeaaGreatDoor
open Tryz
open Go Go.Sx Go.Num
set_option maxRecDepth 20000
theorem xI (a b:Nat)(ha:a<18446744073709551616)(hb:b<18446744073709551616)(w:World):Calls prog 201 #[.int .u64 ((a:Nat):Int),.int .u64 ((b:Nat):Int)] w fun e w'=>e= .returned (.int .u64 ((a*b%M:Nat):Int))/\Le w w':=by
 refine enter func201 rfl rfl ?_
 have c:=Le.refl w
 refine Sr (Wn 1 rfl (Nx (Sr (Wn 2 rfl (W.cl VI rfl rfl (Iq a b ha hb w) ?_)))))
 rintro _ d ⟨rfl,f⟩
 have h:=c.trans f
 refine Wn 1 rfl (Wa (.extract rfl rfl) rfl (Wa (.extract rfl rfl) rfl (Wn 2 rfl (Nx (Sr (Wn 2 rfl (W.cl VH rfl rfl (Ir (a*b/18446744073709551616) (a*b%18446744073709551616) 4611686018427377339 (by decide) (by decide) (Nat.mod_lt _ (by decide)) d) ?_)))))))
 rintro _ k ⟨rfl,i⟩
 have j:=h.trans i
 refine Wn 1 rfl (Nx (Rt (E.jQ rfl rfl ?_)))
 exact⟨by rw[Nat.div_add_mod'];rfl,j⟩



theorem Iy (a n:Nat)(ha:a<18446744073709551616)(hn:n<18446744073709551616)(w:World):Calls prog 160 #[.int .u64 ((a:Nat):Int),.int .u64 ((n:Nat):Int)] w fun e w'=>e= .returned (.int .u64 ((pw a n:Nat):Int))/\Le w w':=by
 refine enter func160 rfl rfl (Sr (Wn 1 rfl (Nx (Sr (Wn 1 rfl (Nx (Sq (WC.block (WC.loop (ι:=Nat×Nat×Nat) (fun⟨b,m,out⟩=>[(0,.int .u64 ((b:Nat):Int)),(1,.int .u64 ((m:Nat):Int)),(5,.int .u64 ((out:Nat):Int))]) (fun⟨b,m,out⟩ wl=>Le w wl/\b<18446744073709551616/\m<18446744073709551616/\out<M/\out*b^m%M=pw a n) (fun⟨b,m,out⟩=>m) (a,n,1) ?_ ?_ ?_)))))))))
 ·exact .of rfl
 ·exact⟨(Le.refl w),ha,hn,D5,GJ a n hn⟩
 rintro⟨b,m,out⟩ wl ⟨Ll,hb,hm,ho,hi⟩
 refine Sq (Sr (Wn 2 rfl (Nx (WC.cond rfl (fun f=>?_) (fun f=>?_)))))
 ·have hbb:b*b%M<18446744073709551616:=Nat.lt_trans (Nat.mod_lt _ (by decide)) (by decide)
  have h:out<18446744073709551616:=Nat.lt_trans ho (by decide)
  refine Sn (Sq (WC.block (Sq (Sr (Wn 1 rfl (Wa (.J5 m 1 (m%2) rfl rfl rfl rfl (by omega) (by omega) (LH _)) rfl (Wn 1 rfl (Nx (WC.cond rfl (fun i=>?_) (fun i=>?_))))))))))
  ·refine WC.region (Wn 2 rfl (W.cl Me rfl rfl (xI out b h hb wl) ?_))
   rintro _ j ⟨rfl,k⟩
   have l:=Ll.trans k
   refine Wn 1 rfl (Nx (WC.region (Wn 2 rfl (W.cl Me rfl rfl (xI b b hb hb j) ?_))))
   rintro _ o ⟨rfl,c⟩
   have d:=l.trans c
   refine Wn 1 rfl (W.nil (E.gI (E.eY (WC.region (Wn 1 rfl (Wa (.qW m 1 (m/2) rfl rfl rfl rfl (by decide) rfl) rfl (Wn 1 rfl (W.nil (E.again (b*b%M,m/2,out*b%M) (.of rfl) ?_ ?_)))))))))
   ·exact⟨d,hbb,by omega,Nat.mod_lt _ (by decide),by rw[step1 b m out (by omega)];exact hi⟩
   first|omega|(simp only[];omega)
  refine Sn (WC.region (Wn 2 rfl (W.cl Me rfl rfl (xI b b hb hb wl) ?_)))
  rintro _ o ⟨rfl,c⟩
  have d:=Ll.trans c
  refine Wn 1 rfl (W.nil (E.gI (E.eY (WC.region (Wn 1 rfl (Wa (.qW m 1 (m/2) rfl rfl rfl rfl (by decide) rfl) rfl (Wn 1 rfl (W.nil (E.again (b*b%M,m/2,out) (.of rfl) ?_ ?_)))))))))
  ·exact⟨d,hbb,by omega,ho,by rw[step0 b m out (by omega)];exact hi⟩
  first|omega|(simp only[];omega)
 have s:m=0:=by omega
 subst s
 rw[OU b out ho]at hi
 refine WC.exit (E.fC (E.fC (E.gW (E.eY (Sr (Wn 2 rfl (Nx (Rt (E.jQ rfl rfl ?_)))))))))
 exact⟨by rw[hi],Ll⟩

theorem ZC (x:Nat):decide ((x:Int)=1)=decide (x=1):=decide_eq_decide.2 (by omega)

theorem yD (p:Nat)(hp:p<18446744073709551616)(w:World):Calls prog 102 #[.int .u64 ((p:Nat):Int)] w fun e w'=>e= .returned (.bool (right p))/\Le w w':=by
 refine enter func102 rfl rfl ?_
 have b:=Le.refl w
 refine Sr (Wn 1 rfl (Nx (Sr (Wn 1 rfl ?_))))
 by_cases c:0<p
 ·refine Wa (.dec (.gtr rfl rfl) (dT (by omega))) rfl (Wn 2 rfl ?_)
  by_cases d:p<4611686018427377339
  ·refine Wg (Any.rd (.dec (.lss rfl rfl) (dT (by omega))) _) rfl (Wn 3 rfl (W.mW rfl rfl rfl rfl rfl rfl (Ef.call Vz rfl rfl (Iy p 2305843009213688669 hp (by decide) w) ?_)))
   rintro _ i ⟨rfl,f⟩
   refine⟨_,rfl,?_⟩
   have h:=b.trans f
   refine Wn 3 rfl (Nx (Rt (E.jQ rfl rfl ?_)))
   exact⟨by rw[right,dT c,dT (show p<M from d),Bool.true_and,Bool.true_and,<-ZC];rfl,h⟩
  refine Wg (Any.rd (.dec (.lss rfl rfl) (dF (by omega))) _) rfl (Wn 7 rfl (Nx (Rt (E.jQ rfl rfl ?_))))
  exact⟨by rw[right,dF (show¬p<M from d),Bool.and_false,Bool.false_and],b⟩
 refine Wa (.dec (.gtr rfl rfl) (dF (by omega))) rfl (Wn 10 rfl (Nx (Rt (E.jQ rfl rfl ?_))))
 exact⟨by rw[right,dF c,Bool.false_and,Bool.false_and],b⟩

theorem Iz (p:Nat)(hp:p<18446744073709551616)(w:World):Calls prog 162 #[.int .u64 ((p:Nat):Int)] w fun e w'=>e= .returned (.int .u64 ((taken p:Nat):Int))/\Le w w':=by
 refine enter func162 rfl rfl ?_
 have d:=Le.refl w
 refine Sr (Wn 1 rfl (Nx (Sq (Sr (Wn 1 rfl (W.cl LZ rfl rfl (yD p hp w) ?_))))))
 rintro _ h ⟨rfl,f⟩
 have c:=d.trans f
 refine Nx (WC.oV rfl (fun b=>?_) (fun b=>?_))
 ·refine Sr (Wn 2 rfl (Nx (Rt (E.eX (E.jQ rfl rfl ?_)))))
  exact⟨by rw[taken,if_pos b],c⟩
 refine Sn (Sr (Wn 1 rfl (Nx (Rt (E.jQ rfl rfl ?_)))))
 exact⟨by rw[taken,if_neg (by rw[b];simp)];rfl,c⟩

theorem IA (p:Nat):taken p<18446744073709551616:=Nat.lt_trans ((pJ _).1 (nz p)).2.1 (by decide)

theorem QC (p k:Nat)(hp:p<18446744073709551616)(w:World):Calls prog 104 #[.int .u64 ((p:Nat):Int),.int .u64 ((k:Nat):Int)] w fun e w'=>e= .returned (.int .u64 ((scale p k:Nat):Int))/\Le w w':=by
 refine enter func104 rfl rfl ?_
 have b:=Le.refl w
 refine Sr (Wn 1 rfl (Nx (Sr (Wn 1 rfl (W.cl VA rfl rfl (Iz p hp w) ?_)))))
 rintro _ c ⟨rfl,d⟩
 have f:=b.trans d
 refine Wn 1 rfl (Wa (.om k 2305843009213688669 (k%2305843009213688669) rfl rfl rfl rfl (by decide) rfl) rfl (W.cl Vz rfl rfl (Iy (taken p) (k%2305843009213688669) (IA p) (by omega) c) ?_))
 rintro _ j ⟨rfl,h⟩
 have i:=f.trans h
 refine Wn 1 rfl (Nx (Rt (E.jQ rfl rfl ?_)))
 exact⟨rfl,i⟩

theorem Mr (k:Nat)(w:World):Calls prog 50 #[.int .u64 ((k:Nat):Int)] w fun e w'=>e= .returned (.int .u64 ((base k:Nat):Int))/\Le w w':=by
 refine enter func50 rfl rfl ?_
 have b:=Le.refl w
 refine Sr (Wn 1 rfl (Nx (Sr (Wn 1 rfl (W.cl YH rfl rfl (QC 4 k (by decide) w) ?_)))))
 rintro _ f ⟨rfl,c⟩
 have d:=b.trans c
 refine Wn 1 rfl (Nx (Rt (E.jQ rfl rfl ?_)))
 exact⟨rfl,d⟩



theorem QD (a:Nat)(w:World):Calls prog 198 #[.int .u64 ((a:Nat):Int)] w fun e w'=>e= .returned (.int .u64 ((a%q:Nat):Int))/\Le w w':=by
 refine enter func198 rfl rfl (WC.sr (W.run 1 rfl (W.nx (WC.sr (W.run 1 rfl (Wa (.om a 2305843009213688669 (a%2305843009213688669) rfl rfl rfl rfl (by decide) rfl) rfl (W.run 1 rfl (W.nx (WC.ret (E.jQ rfl rfl ?_))))))))))
 exact⟨rfl,(Le.refl w)⟩



theorem Ms (h:List (BitVec 8))(hh:h.length=32)(w:World):Calls prog 158 #[.agg (h.map jM).toArray] w fun e w'=>e= .returned (.int .u64 ((nM h:Nat):Int))/\Le w w':=by
 refine enter func158 rfl rfl ?_
 have b:=Le.refl w
 refine Sr (W.ef rfl rfl rfl (Ef.iM rfl fun n o s c d=>?_))
 have f:=b.trans d
 refine Wn 1 rfl (Nx (Sr (Wn 1 rfl (Nx (Sq (Sr (Wr (.fB FJ (by simp[hh]) rfl c) rfl ?_)))))))
 refine Wn 1 rfl (Nx (WC.block (WC.loop (ι:=Nat) (fun k=>[(6,.agg (h.map jM).toArray),(7,.int .i64 (k:Int)),(3,.int .u64 ((iW 0 (h.take k):Nat):Int))]) (fun k wl=>k<=32/\Le w wl) (fun k=>32-k) 0 ?_ ?_ ?_)))
 ·exact .of rfl
 ·exact⟨by omega,f⟩
 rintro k wl ⟨hk,Ll⟩
 have hlt:iW 0 (h.take k)<q-1:=uD _ 0 (by decide)
 have t:iW 0 (h.take k)<2305843009213688668:=hlt
 refine Sr (Wn 1 rfl (Nx (Sq (WC.cond rfl (fun i=>?_) (fun i=>?_)))))
 ·have hb:h[k]? =some (h.getD k 0):=by rw[List.getElem?_eq_getElem (by omega),List.getD_eq_getElem?_getD,List.getElem?_eq_getElem (by omega)];rfl
  have hbl:=(h.getD k 0).isLt
  refine Sn (Sq (WC.block (Sr (Wa (.as (Any.aar k underlying27 underlying5 xE hh rfl rfl rfl (by omega)) (show jM (h.getD k 0)=_ from rfl)) rfl (Wn 1 rfl (Nx (WC.region (Wn 1 rfl (Wa (.qW (iW 0 (h.take k)) 56 (iW 0 (h.take k)/72057594037927936) rfl rfl rfl rfl (by decide) rfl) rfl (Wn 1 rfl (Wa (.Px (iW 0 (h.take k)) 8 (iW 0 (h.take k)*256%18446744073709551616) rfl rfl rfl rfl (by decide) rfl) rfl ?_)))))))))))
  refine Wn 1 rfl (Wr (.Pq (lY underlying5) underlying24 rfl) rfl (Wa (.orE (iW 0 (h.take k)*256%18446744073709551616) ((h.getD k 0).toNat) (iW 0 (h.take k)*256%18446744073709551616+(h.getD k 0).toNat) rfl rfl rfl rfl (by omega) (by omega) (Pz _ _ hbl)) rfl (W.cl VH rfl rfl (Ir (iW 0 (h.take k)/72057594037927936) (iW 0 (h.take k)*256%18446744073709551616+(h.getD k 0).toNat) 2305843009213688668 (by decide) (by decide) (by omega) wl) ?_)))
  rintro _ u ⟨rfl,j⟩
  have l:=Ll.trans j
  refine Wn 1 rfl (W.nil (E.gI (E.eY (WC.region (Wa (.add rfl rfl (by omega)) rfl (Wn 1 rfl (W.nil (E.again (k+1) (.cons rfl (.cons rfl (.cons' rfl (int_eq (congrArg Nat.cast (by rw[yY h k 0 _ hb,show q-1=2305843009213688668 from rfl];congr 1;omega))) (.nil _)))) ?_ ?_))))))))
  ·exact⟨by omega,l⟩
  first|omega|(simp only[];omega)
 have m:k=32:=by omega
 subst m
 refine WC.exit (E.fC (E.fC (E.gW (E.eY (Sr (Wn 1 rfl (Wa (.addN (iW 0 (h.take 32)) 1 (iW 0 (h.take 32)+1) rfl rfl rfl rfl (by omega)) rfl (Wn 1 rfl (Nx (Rt (E.jQ rfl rfl ?_)))))))))))
 exact⟨by rw[nM,List.take_of_length_le (by omega)],Ll⟩



theorem TR (a b g:Nat)(ha:a<18446744073709551616)(hb:b<18446744073709551616)(w:World)(hB:fA w g 94 #[.int .u64 ((a:Nat):Int),.int .u64 ((b:Nat):Int)]):Calls prog 202 #[.slice (some ⟨g,0,none⟩) 2 2] w fun e w'=>e= .returned (.int .u64 ((lJ a b:Nat):Int))/\Le w w':=by
 refine enter func202 rfl rfl (Sr (Wn 1 rfl (Nx (Sr (Wn 1 rfl (Nx (Sq (Sr (Wn 1 rfl (Wr (.len underlying56 rfl) rfl (Wn 1 rfl (Nx (WC.block (WC.loop (ι:=Nat×Nat) (fun⟨k,out⟩=>[(3,.int .u64 ((out:Nat):Int)),(6,.slice (some ⟨g,0,none⟩) 2 2),(7,.int .i64 2),(8,.int .i64 (k:Int))]) (fun⟨k,out⟩ wl=>k<=2/\Le w wl/\out=(if k=0 then 1 else if k=1 then 1*taken a%M else(1*taken a%M)*taken b%M)) (fun⟨k,out⟩=>2-k) (0,1) ?_ ?_ ?_))))))))))))))
 ·exact .of rfl
 ·exact⟨by omega,(Le.refl w),rfl⟩
 rintro⟨k,out⟩ wl ⟨hk,Ll,ho⟩
 refine Sr (Wn 1 rfl (Nx (Sq (WC.cond rfl (fun d=>?_) (fun d=>?_)))))
 ·have c:k=0\/k=1:=by omega
  have f:out<18446744073709551616:=by
   rw[ho];rcases c with rfl|rfl
   ·rw[if_pos rfl];decide
   rw[if_neg (by decide),if_pos rfl];exact Nat.lt_trans (Nat.mod_lt _ (by decide)) (by decide)
  obtain⟨p,h,i,j⟩:∃p:Nat,(#[.int .u64 ((a:Nat):Int),.int .u64 ((b:Nat):Int)]:Array Value)[k]? =some (.int .u64 ((p:Nat):Int))/\(if k=0 then a else b)=p/\p<18446744073709551616:=by
   rcases c with rfl|rfl
   ·exact⟨a,rfl,rfl,ha⟩
   exact⟨b,rfl,rfl,hb⟩
  have hstep:out*taken p%M=(if k+1=0 then 1 else if k+1=1 then 1*taken a%M else(1*taken a%M)*taken b%M):=by
   rw[ho,<-i];rcases c with rfl|rfl<;>rfl
  refine Sn (Sq (WC.block (Sr (Wa (.Hm k underlying56 Ic rfl rfl rfl (by omega)) rfl (Wr (.fe Tq rfl (hB.le Ll) h) rfl (Wn 1 rfl (Nx (WC.region (Wn 2 rfl (W.cl VA rfl rfl (Iz p j wl) ?_))))))))))
  rintro _ l ⟨rfl,m⟩
  have n:=Ll.trans m
  refine W.cl Me rfl rfl (xI out (taken p) f (IA p) l) ?_
  rintro _ t ⟨rfl,o⟩
  have s:=n.trans o
  refine Wn 1 rfl (W.nil (E.gI (E.eY (WC.region (Wa (.add rfl rfl (by omega)) rfl (Wn 1 rfl (W.nil (E.again (k+1,out*taken p%M) (.of rfl) ?_ ?_))))))))
  ·exact⟨by omega,s,hstep⟩
  first|omega|(simp only[];omega)
 have c:k=2:=by omega
 subst c
 have hres:out=lJ a b:=by rw[ho,lJ,Nat.one_mul];simp only[Nat.reduceEqDiff,if_false];rw[Nat.mul_mod,Nat.mod_mod,<-Nat.mul_mod]
 refine WC.exit (E.fC (E.fC (E.gW (E.eY (Sr (Wn 2 rfl (Nx (Rt (E.jQ rfl rfl ?_)))))))))
 exact⟨by rw[hres],Ll⟩

theorem TS (a b:Nat)(ha:a<18446744073709551616)(hb:b<18446744073709551616)(w:World):Calls prog 161 #[.int .u64 ((a:Nat):Int),.int .u64 ((b:Nat):Int)] w fun e w'=>e= .returned (.int .u64 ((lJ a b:Nat):Int))/\Le w w':=by
 refine enter func161 rfl rfl ?_
 have c:=Le.refl w
 refine Sr (Wn 1 rfl (Nx (Sr (Wn 2 rfl (W.ef rfl rfl rfl (Ef.jT [_,_] underlying56 PQ rfl (by intro v hv;simp at hv;rcases hv with rfl|rfl<;>rfl) rfl (by decide) (by decide) ?_))))))
 intro d f m h i
 have j:=c.trans i
 refine W.cl Zj rfl rfl (TR a b d ha hb f h) ?_
 rintro _ n ⟨rfl,k⟩
 have l:=j.trans k
 refine Wn 1 rfl (Nx (Rt (E.jQ rfl rfl ?_)))
 exact⟨rfl,l⟩
end Go.Proofs.YtkaedikifgpkeaaGreatDoor

namespace Go.Proofs.YtkaedikifgpkeaaGreatDoor
open Tryz
open Go Go.Sx Go.wK Go.Num Go.wM
set_option maxRecDepth 20000
theorem TT (a b:Nat)(ha:a<2305843009213688669)(hb:b<2305843009213688669)(w:World):Calls prog 199 #[.int .u64 ((a:Nat):Int),.int .u64 ((b:Nat):Int)] w fun e w'=>e= .returned (.int .u64 (((a+b)%q:Nat):Int))/\Le w w':=by
 refine enter func199 rfl rfl (WC.sr (W.run 1 rfl (W.nx (WC.sr (W.run 2 rfl (Wa (.addN a b (a+b) rfl rfl rfl rfl (Nat.mod_eq_of_lt (by omega))) rfl (Wa (.om (a+b) 2305843009213688669 ((a+b)%2305843009213688669) rfl rfl rfl rfl (by decide) rfl) rfl (W.run 1 rfl (W.nx (WC.ret (E.jQ rfl rfl ?_)))))))))))
 exact⟨rfl,(Le.refl w)⟩

theorem Mt (a b:Nat)(w:World):Calls prog 157 #[.int .u64 ((a:Nat):Int),.int .u64 ((b:Nat):Int)] w fun e w'=>e= .returned (.int .u64 ((jO a b:Nat):Int))/\Le w w':=by
 refine enter func157 rfl rfl ?_
 have c:=Le.refl w
 refine Sr (Wn 1 rfl (Nx (Sr (Wn 1 rfl (W.cl Qj rfl rfl (QD a w) ?_)))))
 rintro _ d ⟨rfl,f⟩
 have h:=c.trans f
 refine Wn 1 rfl (W.cl Qj rfl rfl (QD b d) ?_)
 rintro _ i ⟨rfl,j⟩
 have k:=h.trans j
 refine W.cl Zi rfl rfl (TT (a%q) (b%q) (Nat.mod_lt _ (by decide)) (Nat.mod_lt _ (by decide)) i) ?_
 rintro _ n ⟨rfl,l⟩
 have m:=k.trans l
 refine Wn 1 rfl (Nx (Rt (E.jQ rfl rfl ?_)))
 exact⟨rfl,m⟩
end Go.Proofs.YtkaedikifgpkeaaGreatDoor

namespace Go.Sx
open Go Go.RowKit
theorem E.ZE {P:Program}{env:Env}{n:Nat}{w:World}{fn:Func}{R:Ending->World->Prop}{t1 ty1 t2 s1:Nat}{g1:Nat}{b1:TypeId}{cs1:Array Value}{v2:Value}(hr:fn.results=#[.cell t1 ty1,.tmp t2])
    (h1:look env t1=some (.pointer (some ⟨g1,0,none⟩)))(h2:look env t2=some v2)(hB1:fA w g1 b1 cs1)(ha1:kH P ty1 s1)(hs1:cs1.size=s1)(h:R (.returned (.tuple #[.agg cs1,v2])) w):E (bodyPost P fn R) n .ret env w:=fun a ha=>by
  subst hs1
  obtain⟨b,u1,u2,u3⟩:=ha1
  have c:=run_loadVar_row (P:=P) w g1 b1 ty1 cs1 (0,0) b hB1 u1 (by cases b<;>simp_all) u3
  refine bodyPost_ret (v:= .tuple #[.agg cs1,v2]) ?_ ha.1 h
  simp[results,hr,ha.2.2 t1 _ h1,ha.2.2 t2 _ h2,asAddr,c]
end Go.Sx
namespace Go.Proofs.YtkaedikifgpkeaaGreatDoor
open Tryz
open Go Go.Sx Go.wK Go.Num Go.wM
set_option maxRecDepth 20000
theorem TU (k:Nat):madeCells (Value.int .u64 0).cells (k*1)=((List.replicate k 0).map pv).toArray:=by
  apply Array.ext'
  apply List.ext_getElem (by simp[madeCells])
  intro i b c
  simp[madeCells,Value.cells,Nat.mod_one]
  rfl
theorem QE (l:List Nat)(i x:Nat):((l.map pv).toArray).setIfInBounds i (pv x)=((l.set i x).map pv).toArray:=by simp[List.map_set]
theorem ZF (ks:List Nat){k:Nat}(h:k<ks.length):(ks.map pv).toArray[k]? =some (pv (ks.getD k 0)):=by simp[h,List.getD]
theorem TV (a b:Nat):lJ a b<18446744073709551616:=Nat.lt_trans (Nat.mod_lt _ (by decide)) (by decide:M<18446744073709551616)
theorem IB (p:Nat)(hp:p<18446744073709551616):∀l,∀x∈j4 p l,x<18446744073709551616
  |[],x,hx=>by simp[j4]at hx;subst hx;exact hp
  |b::l,x,hx=>by
    rw[j4,List.mem_cons]at hx
    rcases hx with rfl|hx
    · exact TV _ _
    · exact IB p hp l x hx
theorem TW (p:Nat)(hp:p<18446744073709551616)(l:List Nat)(m i:Nat):(List.replicate m 0++j4 p l).getD i 0<18446744073709551616:=by
  refine getD_lt (fun x hx=>?_) (by decide) i
  rcases List.mem_append.1 hx with hx|hx
  · rw[(List.mem_replicate.1 hx).2];decide
  · exact IB p hp l x hx
theorem QF {A B:Option Addr}{a b a' b':Nat}:∀v∈[Value.slice A a a',Value.slice B b b'],v.oneCell'=true:=fun v hv=>by
  simp at hv;rcases hv with rfl|rfl<;>rfl
theorem ZG (ks:List Nat){k:Nat}(h:k<ks.length):(ks.map pv)[k]? =some (pv (ks.getD k 0)):=by simp[h,List.getD]

theorem abp (ks:List Nat){k:Nat}(h:k<ks.length):ks[k]? =some (ks.getD k 0):=by simp[h,List.getD]

theorem IC (a:Nat)(ha:a<18446744073709551616)(h:right a=true)(w:World):Calls prog 102 #[.int .u64 ((a:Nat):Int)] w fun e w'=>e= .returned (.bool true)/\Le w w':=by
  have:=yD a ha w
  rwa [h]at this

theorem TY (a:Nat)(w:World):Calls prog 159 #[.int .u64 ((a:Nat):Int)] w fun e w'=>e= .returned (.int .u64 ((wO a:Nat):Int))/\Le w w':=by
 refine enter func159 rfl rfl ?_
 have b:=Le.refl w
 refine Sr (Wn 1 rfl (Nx (Sr (Wn 1 rfl (W.cl Qj rfl rfl (QD a w) ?_)))))
 rintro _ f ⟨rfl,c⟩
 have d:=b.trans c
 have hlt:a%q<2305843009213688669:=Nat.mod_lt _ (by decide)
 refine Wa (.xq 2305843009213688669 (a%q) (2305843009213688669-a%q) rfl rfl rfl rfl (by omega) (by omega)) rfl (Wa (.om (2305843009213688669-a%q) 2305843009213688669 ((2305843009213688669-a%q)%2305843009213688669) rfl rfl rfl rfl (by decide) rfl) rfl (Wn 1 rfl (Nx (Rt (E.jQ rfl rfl ?_)))))
 exact⟨rfl,d⟩

theorem TZ (a b:Nat)(w:World):Calls prog 101 #[.int .u64 ((a:Nat):Int),.int .u64 ((b:Nat):Int)] w fun e w'=>e= .returned (.int .u64 ((jO a (wO b):Nat):Int))/\Le w w':=by
 refine enter func101 rfl rfl ?_
 have c:=Le.refl w
 refine Sr (Wn 1 rfl (Nx (Sr (Wn 2 rfl (W.cl Y2 rfl rfl (TY b w) ?_)))))
 rintro _ d ⟨rfl,f⟩
 have h:=c.trans f
 refine W.cl Vx rfl rfl (Mt a _ d) ?_
 rintro _ k ⟨rfl,i⟩
 have j:=h.trans i
 refine Wn 1 rfl (Nx (Rt (E.jQ rfl rfl ?_)))
 exact⟨rfl,j⟩

theorem Mv {A:Option Addr}{n c:Nat}{xs:List Nat}(w:World)(hS:Sl w 1 A n (xs.map pv))(hn:n<=1000000):Calls prog 99 #[.slice A n c] w fun e w'=>e= .returned (.int .u64 ((oD xs:Nat):Int))/\Le w w':=by
 have hl:=hS.1
 rw[List.length_map,Nat.mul_one]at hl
 refine enter func99 rfl rfl (Sr (Wn 1 rfl (Nx (Sr (Wn 1 rfl (Nx (Sq (Sr (Wn 1 rfl (Wr (.len underlying57 rfl) rfl (Wn 1 rfl (Nx (WC.block (WC.loop (ι:=Nat) (fun k=>[(3,.int .u64 ((oD (xs.take k):Nat):Int)),(6,.slice A n c),(7,.int .i64 (n:Int)),(8,.int .i64 (k:Int))]) (fun k wl=>k<=n/\Le w wl) (fun k=>n-k) 0 ?_ ?_ ?_))))))))))))))
 ·exact .of rfl
 ·exact⟨Nat.zero_le _,(Le.refl w)⟩
 rintro k wl ⟨hk,Ll⟩
 refine Sr (Wn 1 rfl (Nx (Sq (WC.cond rfl (fun b=>?_) (fun b=>?_)))))
 ·have hx:=abp xs (show k<xs.length by omega)
  refine Sn (Sq (WC.block (Sr (Wa (.iP k underlying57 H9 rfl rfl (hS.isSome (j:=k) (by omega) (by decide)) rfl (by omega)) rfl (Wr (.iK Ia rfl (hS.le Ll) (ZG xs (by omega))) rfl (Wn 1 rfl (Nx (WC.region (Wn 2 rfl (W.cl Vx rfl rfl (Mt _ _ wl) ?_))))))))))
  rintro _ h ⟨rfl,d⟩
  have f:=Ll.trans d
  refine Wn 1 rfl (W.nil (E.gI (E.eY (WC.region (Wa (.add rfl rfl (by omega)) rfl (Wn 1 rfl (W.nil (E.again (k+1) (.cons' rfl (int_eq (congrArg Nat.cast (by rw[M9 xs k _ hx]))) (.of rfl)) ?_ ?_))))))))
  ·exact⟨by omega,f⟩
  first|omega|(simp only[];omega)
 have hkn:k=n:=by omega
 subst hkn
 refine WC.exit (E.fC (E.fC (E.gW (E.eY (Sr (Wn 2 rfl (Nx (Rt (E.jQ rfl rfl ?_)))))))))
 exact⟨by rw[List.take_of_length_le (by omega)],Ll⟩







theorem QG (name:ByteArray)(hnm:byteCells name=pX.map jM){A:Option Addr}{c:Nat}{xs:List Byte}(i:Nat)(w:World)(hS:Sb w A 32 xs):Calls prog 100 #[.string name,.slice A 32 c,.int .i64 (i:Int)] w fun e w'=>e= .returned (.int .u64 ((nM (tag pX [xs,[BitVec.ofNat 8 i]]):Nat):Int))/\Le w w':=by
 refine enter func100 rfl rfl ?_
 have f:=Le.refl w
 refine Sr (Wn 1 rfl (Nx (Sr (Wn 3 rfl (Wr (.toU8 i (lY underlying3) underlying5 rfl rfl) rfl (W.ef rfl rfl rfl (Ef.jm underlying97 vF rfl rfl fun y z C h j=>?_)))))))
 have k:=f.trans j
 refine W.ef rfl rfl rfl (Ef.jT [_,_] underlying151 Ke rfl QF rfl (by decide) (by decide) fun D l F m b=>?_)
 have d:=k.trans b
 refine W.cl WG rfl rfl (Kj _ pX l (ps:=[xs,[BitVec.ofNat 8 i]]) hnm (m.sl (s:=1) (n:=2) rfl) (.cons (hS.le d) (.cons (fA.sb (xs:=[BitVec.ofNat 8 i]) (h.le b) rfl) (.nil _))) (by rw[xG,hS.len];show 24+5+32+1<=_;decide)) ?_
 rintro _ o ⟨rfl,t⟩
 have u:=d.trans t
 refine W.cl Vy rfl rfl (Ms _ (nY _ _) o) ?_
 rintro _ H ⟨rfl,v⟩
 have x:=u.trans v
 refine Wn 1 rfl (Nx (Rt (E.jQ rfl rfl ?_)))
 exact⟨rfl,x⟩

theorem QH (p:Nat)(hp:p<18446744073709551616)(hr:right p=true){A:Option Addr}{n c:Nat}{xs:List Nat}(w:World)(hS:Sl w 1 A n (xs.map pv))(hn:n<8):Calls prog 103 #[.int .u64 ((p:Nat):Int),.slice A n c] w fun e w'=>∃g,e= .returned (.slice (some ⟨g,0,none⟩) (n+1) (n+1))/\w.heap.size<=g/\fA w' g 94 ((j4 p xs).map pv).toArray/\Le w w':=by
 have hl:=hS.1
 rw[List.length_map,Nat.mul_one]at hl
 refine enter func103 rfl rfl ?_
 have o:=Le.refl w
 refine Sr (Wn 1 rfl (Nx (Sr (Wn 1 rfl (Wr (.len underlying57 rfl) rfl (Wn 1 rfl (Nx (Sq (Sr (Wn 1 rfl (W.cl LZ rfl rfl (IC p hp hr w) ?_)))))))))))
 rintro _ Q ⟨rfl,s⟩
 have i:=o.trans s
 refine Wn 3 rfl (Wg (Any.rd (.dec (.geq rfl rfl) (dF (by omega))) _) rfl (Wn 1 rfl (Nx (WC.iD rfl (Sn (Sr (Wn 1 rfl (Wa (.add rfl rfl (by omega)) rfl (W.ef rfl rfl rfl (Ef.makeSlice (n+1) (n+1) underlying56 PQ rfl (by omega) rfl (by omega) (Nat.le_refl _) (by omega) (by unfold maxLen;omega) ?_))))))))))
 intro b t u v x
 have y:=i.trans x
 have bp:fA t b 94 ((List.replicate (n+1) 0).map pv).toArray:=v.cast (TU _)
 have hg:=Nat.le_trans i.size u
 refine Wn 1 rfl (Nx (Sr (Wn 3 rfl (Wa (.Hm n underlying56 Ic rfl rfl rfl (by omega)) rfl (W.iO rfl rfl (Ef.store Ic rfl rfl bp (by simp) rfl ?_))))))
 intro l z C
 have D:Le w l:=y.gG C (fun q hq=>by cases hq;exact hg)
 have bp:fA l b 94 ((List.replicate n 0++[p]).map pv).toArray:=z.cast ((QE _ n p).trans (by rw[List.replicate_succ',List.set_append_right _ _ (by simp)];simp))
 refine Nx (Sq (Sr (Wn 2 rfl (Nx (WC.block (WC.loop (ι:=Nat) (fun k=>[(1,.slice A n c),(5,.int .i64 (n:Int)),(6,.slice (some ⟨b,0,none⟩) (n+1) (n+1)),(25,.int .i64 (n:Int)),(26,.int .i64 (k:Int))]) (fun k wl=>k<=n/\Le w wl/\fA wl b 94 ((List.replicate (n-k) 0++j4 p (xs.drop (n-k))).map pv).toArray) (fun k=>n-k) 0 ?_ ?_ ?_))))))
 ·exact .of rfl
 ·exact⟨Nat.zero_le _,D,bp.cast (by rw[Nat.sub_zero,List.drop_of_length_le (by omega)];rfl)⟩
 rintro k wl ⟨hk,Ll,bl⟩
 refine Sr (Wn 1 rfl (Nx (Sq (WC.cond rfl (fun F=>?_) (fun F=>?_)))))
 ·have hmx:=TW p hp (xs.drop (n-k)) (n-k) (n-1-k+1)
  have ZX:(List.replicate (n-k) 0++j4 p (xs.drop (n-k))).length=n+1:=by rw[List.length_append,List.length_replicate,pg,List.length_drop];omega
  refine Sn (Sq (WC.block (Sr (Wn 2 rfl (Nx (Sr (Wn 1 rfl (Wa (.sub rfl rfl (by omega)) rfl (Wn 1 rfl (Wa (.sub rfl rfl (by omega)) rfl (Wn 1 rfl (Nx (WC.draw [0,1,2,3,4,5,6,7,8,9,10,11,12,13,14] mixed (by kernel_rfl) ?_)))))))))))))
  intro H d
  have m:=Ll.trans d
  refine Gn 4 rfl (Ga rfl (.add rfl rfl (by omega)) (Ga rfl (.Hm (n-1-k+1) underlying56 Ic rfl rfl (by omega) (by omega)) (Gd rfl (.fe Tq rfl (bl.le d) (ZF _ (by omega))) (Gn 2 rfl (Ga rfl (.iP (n-1-k) underlying57 H9 rfl rfl (hS.isSome (j:=n-1-k) (by omega) (by decide)) (by omega) (by omega)) ?_)))))
  refine Gd rfl (.iK Ia rfl (hS.le m) (ZG xs (by omega))) (G.ef rfl rfl rfl rfl rfl (Ef.call Yv rfl rfl (Mr _ H) ?_))
  rintro _ I ⟨rfl,f⟩
  refine⟨_,rfl,?_⟩
  have J:=m.trans f
  refine⟨fun _=>f,?_⟩
  refine G.ef rfl rfl rfl rfl rfl (Ef.call Y3 rfl rfl (TS _ _ hmx (uE _) I) ?_)
  rintro _ R ⟨rfl,h⟩
  refine⟨_,rfl,?_⟩
  have K:=J.trans h
  refine⟨fun _=>h,?_⟩
  refine Ga rfl (.Hm (n-1-k) underlying56 Ic rfl rfl (by omega) (by omega)) (G.iO rfl rfl rfl rfl (Ef.store Ic rfl rfl (bl.le (d.trans (f.trans h))) (by rw[List.size_toArray,List.length_map];omega) rfl ?_))
  intro L N O
  have P:Le w L:=K.gG O (fun q hq=>by cases hq;exact hg)
  refine noT (by kernel_rfl) (G.nil (E.gI (E.eY (WC.region (Wa (.add rfl rfl (by omega)) rfl (Wn 1 rfl (W.nil (E.again (k+1) (.of rfl) ?_ ?_))))))))
  ·exact⟨by omega,P,N.cast ((QE _ _ _).trans (by have:=Na p xs k (by omega);rw[hl]at this;rw[<-this]))⟩
  first|omega|(simp only[];omega)
 have hkn:n=k:=by omega
 subst hkn
 refine WC.exit (E.fC (E.fC (E.gW (E.eY (Sr (Wn 2 rfl (Nx (Rt (E.jQ rfl rfl ?_)))))))))
 exact⟨b,rfl,hg,bl.cast (by rw[Nat.sub_self];rfl),Ll⟩

set_option maxHeartbeats 1000000 in
theorem T9 (p:Nat) (hp:p<18446744073709551616) (hr:right p=true) (hp1:p≠1) (seed:List Byte) (hse:seed.length=32) (n:Nat) (h1:1<=n) (h8:n<=8) (w:World):Calls prog 49 #[.int .u64 ((p:Nat):Int),.agg (seed.map jM).toArray,.int .i64 (n:Int)] w fun e w'=>∃g A c,e= .returned (.tuple #[.agg #[.slice (some ⟨g,0,none⟩) n n,.slice A (n-1) c],.bool true])/\w.heap.size<=g/\fA w' g 94 ((j4 p (lF seed (n-1))).map pv).toArray/\Sx.Own w' w.heap.size 25 1 A (n-1) c ((lF seed (n-1)).map pv)/\Le w w':=by
 refine enter func49 rfl rfl ?_
 have P:=Le.refl w
 refine Sr (W.ef rfl rfl rfl (Ef.iM rfl fun Q ar au R m=>?_))
 have S:=P.trans m
 refine W.ef rfl rfl rfl (Ef.fI z59 fun C o T U s=>?_)
 have av:=S.trans s
 have bs:=R.le s
 have br:fA o C 59 #[.slice none 0 0,.slice none 0 0]:=U
 have t:=m.trans s
 have LL:=Le.refl o
 refine Wn 1 rfl (Nx (Sq (Sr (Wn 1 rfl (W.cl LZ rfl rfl (IC p hp hr o) ?_)))))
 rintro _ d ⟨rfl,V⟩
 have b:=LL.trans V
 refine Wn 3 rfl (Wg (Any.rd (.dec (.eql rfl rfl) (dF (by omega))) _) rfl (Wn 3 rfl (Wg (Any.rd (.dec (.lss rfl rfl) (dF (by omega))) _) rfl (Wn 3 rfl (Wg (Any.rd (.dec (.gtr rfl rfl) (dF (by omega))) _) rfl ?_)))))
 refine Wn 1 rfl (Nx (WC.iD rfl (Sn (Sr (W.ef rfl rfl rfl (Ef.fI z59 fun f X D Y F=>?_))))))
 have aw:=b.trans F
 have Z:fA X f 59 #[.slice none 0 0,.slice none 0 0]:=Y
 refine Nx (Sq (Sr (Wn 1 rfl (Wa (.sub rfl rfl (by omega)) rfl (Wn 1 rfl (Nx (WC.block (WC.loop (ι:=Nat×Option Addr×Nat) (fun⟨k,Ab,cb⟩=>[(0,.int .u64 ((p:Nat):Int)),(4,.pointer (some ⟨Q,0,none⟩)),(6,.pointer (some ⟨C,0,none⟩)),(8,.pointer (some ⟨f,0,none⟩)),(27,.int .i64 ((n:Int)-1)),(28,.int .i64 (k:Int))]) (fun⟨k,Ab,cb⟩ wl=>k<=n-1/\Le d wl/\fA wl f 59 #[.slice none 0 0,.slice Ab k cb]/\Sx.Own wl d.heap.size 25 1 Ab k cb ((lF seed k).map pv)/\rowOf Ab cb≠some f) (fun⟨k,Ab,cb⟩=>n-1-k) (0,none,0) ?_ ?_ ?_))))))))
 ·exact .of rfl
 ·exact⟨Nat.zero_le _,F,Z,Own.nil _ _ _ _ _,by simp[iL]⟩
 rintro⟨k,Ab,cb⟩ wl ⟨hk,Ll,bl,ob,nb⟩
 have hgl:=bl.lt
 refine Sr (Wn 1 rfl (Nx (Sq (WC.cond rfl (fun c1=>?_) (fun c1=>?_)))))
 ·refine Sn (Sq (WC.block (Sr (Wn 2 rfl (Nx (WC.draw [0,1,2,3,4,5,6,7,8] mixed (by kernel_rfl) fun w7 l=>?_))))))
  have H:=Ll.trans l
  have bl:=bl.le l
  have ob:=ob.le l
  refine Ga rfl (.eZ FN rfl) (Gd rfl (.fe ND rfl bl rfl) (Ga rfl (.BB underlying27 xE rfl) (Gn 1 rfl (G.ef rfl rfl rfl rfl rfl (Ef.call Vg rfl rfl (QG _ rfl k w7 ((bs.le (b.trans H)).sb hse)) ?_)))))
  rintro _ ax ⟨rfl,h⟩
  refine⟨_,rfl,?_⟩
  have aa:=H.trans h
  refine⟨fun _=>h,?_⟩
  refine G.ef rfl rfl rfl rfl rfl (Ef.jm underlying57 wB rfl rfl fun ay az aA ab i=>?_)
  have I:=aa.trans i
  refine⟨fun _=>i,?_⟩
  refine G.ef rfl rfl rfl rfl rfl (Ef.append underlying57 wB rfl ((ob.le h).le i) rfl (ab.DN underlying57 rfl) (by omega) (by unfold maxLen;omega) I.size ?_)
  intro u v J ac K ad
  have ae:Le d J:=I.gG K (fun q hq=>(ob.row hq).1)
  refine noT (by kernel_rfl) ?_
  have bl:=((bl.le h).le i).ch K nb
  have af:Sx.Own J d.heap.size 25 1 u (k+1) v ((lF seed (k+1)).map pv):=ac.cast rfl (by rw[wP,List.map_append];rfl)
  refine Ga rfl (.eZ FN rfl) ?_
  have L:rowOf u v≠some f:=ad.off (by have:=l.size;have:=h.size;have:=i.size;omega) nb
  refine G.iO rfl rfl rfl rfl (Ef.store NC rfl rfl bl (by simp) rfl ?_)
  intro ah ai N
  have aj:Le d ah:=ae.gG N (fun q hq=>by cases hq;exact D)
  refine noT (by kernel_rfl) ?_
  have o8:=af.ch N (fun q hq=>by cases hq;exact L)
  refine G.nil (E.gI (E.eY (WC.region (Wa (.add rfl rfl (by omega)) rfl (Wn 1 rfl (W.nil (E.again (k+1,u,v) (.of rfl) ?_ ?_)))))))
  ·exact⟨by omega,aj,ai,o8,L⟩
  first|omega|(simp only[];omega)
 have hkn:k=n-1:=by omega
 subst hkn
 refine WC.exit (E.fC (E.fC (E.gW (E.eY (Sr (Wn 1 rfl (Wa (.eZ FN rfl) rfl (Wr (.fe ND rfl bl rfl) rfl (W.cl YG rfl rfl (QH p hp hr wl ob.sl (by omega)) ?_)))))))))
 rintro _ aB ⟨g9,rfl,ak,j,x⟩
 have al:=Ll.trans x
 refine Wa (.eZ Ql rfl) rfl (W.iO rfl rfl (Ef.store NB rfl rfl (bl.le x) (by simp) rfl ?_))
 intro am an y
 have O:Le d am:=al.gG y (fun q hq=>by cases hq;exact D)
 have j:=j.ch y (by simp;have:=bl.lt;omega)
 have ob:=(ob.le x).ch y (fun q hq=>by cases hq;exact nb)
 refine Nx (Sr (Wr (.fB Kb (by rfl) rfl an) rfl ?_))
 refine W.iO rfl rfl (Ef.storeAll FL (by rfl) rfl rfl (br.le (b.trans O)) (by rfl) QF ?_)
 intro ao ap z
 have aq:Le w ao:=(t.trans (b.trans O)).gG z (fun q hq=>by cases hq;exact Nat.le_trans m.size T)
 have j:=j.ch z (by simp;have:=br.lt;have:=b.size;have:=Ll.size;omega)
 have ob:=ob.ch z (fun q hq=>by cases hq;exact fun he=>by have:=(ob.row he).1;have:=br.lt;have:=b.size;omega)
 refine Wn 1 rfl (Nx (Rt (E.ZE rfl rfl rfl ap Kb (by rfl) ?_)))
 exact⟨g9,Ab,cb,by rw[show n-1+1=n by omega];rfl,Nat.le_trans (t.trans (b.trans Ll)).size ak,j,ob.mono (t.trans b).size,aq⟩
end Go.Proofs.YtkaedikifgpkeaaGreatDoor

namespace Go.Proofs.YtkaedikifgpkeaaGreatDoor
open Tryz
open Go Go.Sx Go.Num Go.wM Go.fO
set_option maxRecDepth 20000
theorem Ua {d:Nat}(a b:GQ):vM prog (d+2) 64 (.agg (nI a).toArray) (.agg (nI b).toArray) (decide (a=b)):=by
  have h:=vM.ints (P:=prog) (d:=d) (t:=64) (nI a) (nI b) [(.i64,0),(.i64,1),(.i64,2),(.i64,3),(.i64,4)] (by kernel_rfl) (by kernel_rfl) (by
    rw[show(prog.fieldsOf 64)=_ from(by unfold Program.fieldsOf;rw[underlying64])]
    exact⟨by decide,rfl,underlying3,⟨_,_,rfl,rfl⟩,by decide,rfl,underlying3,⟨_,_,rfl,rfl⟩,by decide,rfl,underlying3,⟨_,_,rfl,rfl⟩,by decide,rfl,underlying3,⟨_,_,rfl,rfl⟩,by decide,rfl,underlying3,⟨_,_,rfl,rfl⟩,trivial⟩)
  have e:xw (nI a) (nI b) [(.i64,0),(.i64,1),(.i64,2),(.i64,3),(.i64,4)]=decide (a=b):=by
    obtain⟨c,f,i,j,k⟩:=a
    obtain⟨l,m,n,o,s⟩:=b
    simp only[xw,nI,List.getElem?_cons_zero,List.getElem?_cons_succ,GQ.mk.injEq]
    rw[Bool.eq_iff_iff]
    simp only[Bool.and_eq_true,decide_eq_true_eq,Bool.and_true]
  rw[e]at h
  exact h
theorem QI {d:Nat}(a b:fO.Edge):vM prog (d+3) 66 (.agg (fD a).toArray) (.agg (fD b).toArray) (decide (a=b)):=by
  have h:=vM.struct (P:=prog) (d:=d+2) (t:=66) (fD a).toArray (fD b).toArray [(0,.int .i64 a.f,.int .i64 b.f,decide (a.f=b.f)),(1,.int .i64 a.t,.int .i64 b.t,decide (a.t=b.t)),(2,.int .i64 a.c,.int .i64 b.c,decide (a.c=b.c)),(3,.int .i64 a.r,.int .i64 b.r,decide (a.r=b.r)),(4,.agg (nI a.jF).toArray,.agg (nI b.jF).toArray,decide (a.jF=b.jF))] (by kernel_rfl) (by kernel_rfl) (by
    rw[show(prog.fieldsOf 66)=_ from(by unfold Program.fieldsOf;rw[underlying66])]
    exact⟨by decide,rfl,jA gM rfl,jA gM rfl,vM.int _ _ underlying3,by decide,rfl,jA gM rfl,jA gM rfl,vM.int _ _ underlying3,by decide,rfl,jA gM rfl,jA gM rfl,vM.int _ _ underlying3,by decide,rfl,jA gM rfl,jA gM rfl,vM.int _ _ underlying3,by decide,rfl,Em (nI a.jF) Ib rfl rfl,Em (nI b.jF) Ib rfl rfl,Ua _ _,trivial⟩)
  have e:(decide (a.f=b.f)&&(decide (a.t=b.t)&&(decide (a.c=b.c)&&(decide (a.r=b.r)&&(decide (a.jF=b.jF)&&true)))))=decide (a=b):=by
    obtain⟨i,j,k,l,m⟩:=a
    obtain⟨n,o,s,u,v⟩:=b
    rw[Bool.eq_iff_iff]
    simp[fO.Edge.mk.injEq]
  have h':vM prog (d+3) 66 (.agg (fD a).toArray) (.agg (fD b).toArray) (decide (a.f=b.f)&&(decide (a.t=b.t)&&(decide (a.c=b.c)&&(decide (a.r=b.r)&&(decide (a.jF=b.jF)&&true))))):=h
  rw[e]at h'
  exact h'

theorem FY (an nn k:Nat):an/2^k*nn=2*(an/2^(k+1)*nn)+an/2^k%2*nn:=by
  have h:an/2^k=2*(an/2^(k+1))+an/2^k%2:=by rw[Nat.pow_succ,<-Nat.div_div_eq_div_mul];omega
  calc an/2^k*nn=(2*(an/2^(k+1))+an/2^k%2)*nn:=by rw[<-h]
    _=_:=by rw[Nat.add_mul,Nat.mul_assoc]
theorem Ce (d q r n X:Nat)(h:q*d+r=X):(2*q+2*r/d+n/d+(2*r%d+n%d)/d)*d+(2*r%d+n%d)%d=2*X+n:=by
  have b:=Nat.div_add_mod (2*r) d
  have c:=Nat.div_add_mod n d
  have e:=Nat.div_add_mod (2*r%d+n%d) d
  rw[Nat.add_mul,Nat.add_mul,Nat.add_mul,Nat.mul_comm (2*r/d),Nat.mul_comm (n/d),Nat.mul_comm ((2*r%d+n%d)/d),Nat.mul_assoc]
  omega
theorem Ko (q r n X:Nat)(h:q*1000000+r=X):(2*q+2*r/1000000+n/1000000+(2*r%1000000+n%1000000)/1000000)*1000000+(2*r%1000000+n%1000000)%1000000=2*X+n:=Ce 1000000 q r n X h
theorem Kq (q r X:Nat)(h:q*1000000+r=X):(2*q+2*r/1000000+2*r%1000000/1000000)*1000000+2*r%1000000%1000000=2*X:=by
  have:=Ce 1000000 q r 0 X h
  rw[Nat.zero_div,Nat.zero_mod,Nat.add_zero,Nat.add_zero,Nat.add_zero]at this
  exact this
theorem IE (an nn k:Nat):an/2^k*nn<=an*nn:=Nat.mul_le_mul_right _ (Nat.div_le_self _ _)
theorem uh (n lo hi:Int)(w:World):Calls prog 196 #[.int .i64 n,.int .i64 lo,.int .i64 (hi)] w fun r w'=>r= .returned (.bool (jv n lo hi))/\Le w w':=by
 refine enter func196 rfl rfl ?_
 have c:=Le.refl w
 refine Sr (Wn 1 rfl (Nx (Sr (Wn 3 rfl ?_))))
 by_cases b:lo<=n
 ·refine Dt b rfl rfl (Wn 5 rfl (Nx (Rt (E.fu rfl rfl ?_))))
  exact⟨rB (by simp[jv,b]),c⟩
 refine Df b rfl rfl (Wn 5 rfl (Nx (Rt (E.fu rfl rfl ?_))))
 exact⟨rB (by simp[jv,b]),c⟩

theorem oH (n lo hi:Int)(w:World):Calls prog 91 #[.int .i64 n,.int .i64 lo,.int .i64 (hi)] w fun r w'=>r= .returned (.bool (jv n lo hi))/\Le w w':=by
 refine enter func91 rfl rfl ?_
 have c:=Le.refl w
 refine Sr (Wn 1 rfl (Nx (Sr (Wn 3 rfl ?_))))
 by_cases b:lo<=n
 ·refine Dt b rfl rfl (Wn 5 rfl (Nx (Rt (E.fu rfl rfl ?_))))
  exact⟨rB (by simp[jv,b]),c⟩
 refine Df b rfl rfl (Wn 5 rfl (Nx (Rt (E.fu rfl rfl ?_))))
 exact⟨rB (by simp[jv,b]),c⟩

theorem uQ (a:Int)(w:World):Calls prog 153 #[.int .i64 (a)] w fun r w'=>r= .returned (.bool (mH a))/\Le w w':=by
 refine enter func153 rfl rfl ?_
 have c:=Le.refl w
 refine Sr (Wn 1 rfl (Nx (Sr (Wn 2 rfl ?_))))
 by_cases b:0<=a
 ·refine Dt b rfl rfl (Wn 4 rfl (Nx (Rt (E.fu rfl rfl ?_))))
  exact⟨rB (by simp[mH,jv,b]),c⟩
 refine Df b rfl rfl (Wn 4 rfl (Nx (Rt (E.fu rfl rfl ?_))))
 exact⟨rB (by simp[mH,jv,b]),c⟩

theorem Mw (a b:Int)(w:World):Calls prog 93 #[.int .i64 a,.int .i64 (b)] w fun r w'=>r= .returned (.tuple #[.int .i64 (jV a b).1,.bool (jV a b).2])/\Le w w':=by
 refine enter func93 rfl rfl (Sr (Wn 2 rfl (Nx (Sq (Sr (Wn 1 rfl (W.cl Mc rfl rfl (uQ a w) ?_)))))))
 rintro _ j ⟨rfl,k⟩
 have f:=(Le.refl w).trans k
 refine Wn 1 rfl ?_
 by_cases c:(mH a)=true
 ·refine Wa (.dec (.move rfl) (congrArg not c)) rfl (Wn 1 rfl (W.mW rfl rfl rfl rfl rfl rfl (Ef.call Mc rfl rfl (uQ b j) ?_)))
  rintro _ l ⟨rfl,m⟩
  refine⟨_,rfl,?_⟩
  have h:=f.trans m
  refine Wn 2 rfl ?_
  by_cases d:(mH b)=true
  ·refine Wa (.dec (.move rfl) (congrArg not d)) rfl (Wn 2 rfl ?_)
   have o:=jD (show jv b 0 1125899906842624=true by assumption)
   have s:=jD (show jv a 0 1125899906842624=true by assumption)
   refine Wg (Any.rd (.add rfl rfl (by omega)) _) rfl (W.mW rfl rfl rfl rfl rfl rfl (Ef.call Mc rfl rfl (uQ (a+b) l) ?_))
   rintro _ t ⟨rfl,n⟩
   refine⟨_,rfl,?_⟩
   have i:=h.trans n
   refine Wn 2 rfl (Nx ?_)
   by_cases e:(mH (a+b))=true
   ·refine Cn rfl (congrArg not e) (Sn (Sr (Wn 2 rfl (Wa (.add rfl rfl (by omega)) rfl (Wn 2 rfl (Nx (Rt (E.jb rfl rfl rfl ?_))))))))
    exact⟨by unfold jV;first|(simp[c,d,e];done)|(have hq:=jD (show jv (a+b) 0 1125899906842624=true by assumption);rw[if_pos (by simp[c,d,e];omega)])|(have hq:=GU (show jv (a+b) 0 1125899906842624=false from Bool.eq_false_iff.2 (by assumption));rw[if_neg (by simp[c,d,e];omega)]),i⟩
   refine Cy rfl (congrArg not (Bool.eq_false_iff.2 e)) (Sr (Wn 2 rfl (Nx (Rt (E.eX (E.jb rfl rfl rfl ?_))))))
   exact⟨by unfold jV;first|(simp[c,d,e];done)|(have hq:=jD (show jv (a+b) 0 1125899906842624=true by assumption);rw[if_pos (by simp[c,d,e];omega)])|(have hq:=GU (show jv (a+b) 0 1125899906842624=false from Bool.eq_false_iff.2 (by assumption));rw[if_neg (by simp[c,d,e];omega)]),i⟩
  refine Wa (.dec (.move rfl) (congrArg not (Bool.eq_false_iff.2 d))) rfl (Wn 6 rfl (Nx (WC.gL rfl (Sr (Wn 2 rfl (Nx (Rt (E.eX (E.jb rfl rfl rfl ?_)))))))))
  exact⟨by unfold jV;first|(simp[c,d];done)|(have hq:=jD (show jv (a+b) 0 1125899906842624=true by assumption);rw[if_pos (by simp[c,d];omega)])|(have hq:=GU (show jv (a+b) 0 1125899906842624=false from Bool.eq_false_iff.2 (by assumption));rw[if_neg (by simp[c,d];omega)]),h⟩
 refine Wa (.dec (.move rfl) (congrArg not (Bool.eq_false_iff.2 c))) rfl (Wn 11 rfl (Nx (WC.gL rfl (Sr (Wn 2 rfl (Nx (Rt (E.eX (E.jb rfl rfl rfl ?_)))))))))
 exact⟨by unfold jV;first|(simp[c];done)|(have hq:=jD (show jv (a+b) 0 1125899906842624=true by assumption);rw[if_pos (by simp[c];omega)])|(have hq:=GU (show jv (a+b) 0 1125899906842624=false from Bool.eq_false_iff.2 (by assumption));rw[if_neg (by simp[c];omega)]),f⟩

theorem NQ (a num:Int)(hn:num<=9223372036854775807)(w:World):Calls prog 195 #[.int .i64 a,.int .i64 num,.int .i64 (1000000)] w fun r w'=>∃z:Int,r= .returned (.tuple #[.int .i64 (kS a num).1,.int .i64 z,.bool (kS a num).2])/\Le w w':=by
 refine enter func195 rfl rfl (Sr (Wn 3 rfl (Nx (Sq (Sr (Wn 1 rfl (W.cl Mc rfl rfl (uQ a w) ?_)))))))
 rintro _ l ⟨rfl,m⟩
 have f:=(Le.refl w).trans m
 refine Wn 1 rfl ?_
 by_cases b:(mH a)=true
 ·refine Wa (.dec (.move rfl) (congrArg not b)) rfl (Wn 3 rfl ?_)
  by_cases c:num<0
  ·refine Dt c rfl rfl (Wn 3 rfl (Nx (WC.gL rfl (Sr (Wn 3 rfl (Nx (Rt (E.eX (E.gU rfl rfl rfl rfl ?_)))))))))
   exact⟨0,(by first|rfl|(simp[kS,b,c];done)|(simp[kS,b,c];omega)|(simp[kS,b,c];split<;>first|(exfalso;omega)|(simp;done)|(simp;omega))),f⟩
  refine Df c rfl rfl (Wn 1 rfl (Wg (Any.rd (.dec (.lss rfl rfl) (show _=false from by first|decide|rfl)) _) rfl ?_))
  refine Wn 1 rfl (Nx (WC.iD rfl (Sn (Sr (Wn 1 rfl (Nx (Sr (Wn 1 rfl (Nx (Sr (Wn 1 rfl ?_)))))))))))
  have ha:=jD (show jv a 0 1125899906842624=true by assumption)
  obtain⟨an,rfl⟩:=Int.eq_ofNat_of_zero_le ha.1
  obtain⟨nn,rfl⟩:=Int.eq_ofNat_of_zero_le (show 0<=num by omega)
  refine Wr (.yh (lY underlying3) underlying24 rfl (IntWalk.u64_in _ (by omega))) rfl (Wn 1 rfl (Nx (Sr (Wn 1 rfl (Wr (.yh (lY underlying3) underlying24 rfl (IntWalk.u64_in _ (by omega))) rfl (Wn 1 rfl (Nx (Sq (Sr (Wn 1 rfl (Nx (WC.block ?_))))))))))))
  refine WC.loop (ι:=Nat×Nat×Nat) (fun⟨kk,q,r⟩=>[(0,.int .i64 ((an:Nat):Int)),(9,.int .u64 ((q:Nat):Int)),(10,.int .u64 ((r:Nat):Int)),(11,.int .u64 1000000),(12,.int .u64 ((nn:Nat):Int)),(13,.int .i64 (((kk:Nat):Int)-1))]) (fun⟨kk,q,r⟩ h=>(kk<=51)/\(q*1000000+r=an/2^kk*nn)/\(r<1000000)/\(q<=1125899906842624)/\Le w h/\l.heap.size<=h.heap.size) (fun⟨kk,q,r⟩=>kk) (51,0,0) ?_ ?_ ?_
  ·exact .of rfl
  ·exact⟨Nat.le_refl _,by rw[Nat.div_eq_of_lt (by omega)];simp,by decide,by decide,f,Nat.le_refl _⟩
  rintro⟨kk,q,r⟩ h ⟨hkk,hX,hr,hq,d,i⟩
  refine Sq (Sr (Wn 2 rfl (Nx ?_)))
  by_cases j:0<=(((kk:Nat):Int)-1)
  ·refine Cy rfl (dT j) ?_
   have hst:=FY an nn (kk-1)
   rw[show kk-1+1=kk by omega]at hst
   have hbit:an/2^(kk-1)%2<2:=Nat.mod_lt _ (by decide)
   have s:an/2^(kk-1)<=an:=Nat.div_le_self _ _
   refine Sn (Sq (WC.block (Sr (Wn 1 rfl (Wa (.mulN 2 q (2*q) rfl rfl rfl rfl (by omega)) rfl (Wn 1 rfl (Nx (Sr (Wn 1 rfl (Wa (.mulN 2 r (2*r) rfl rfl rfl rfl (by omega)) rfl (Wn 1 rfl (Nx (Sr (Wn 3 rfl (Wa (.tF (2*r) 1000000 ((2*r)/1000000) rfl rfl rfl rfl (by omega) (by omega) rfl) rfl ?_)))))))))))))))
   refine Wa (.addN (2*q) ((2*r)/1000000) ((2*q)+((2*r)/1000000)) rfl rfl rfl rfl (by omega)) rfl (Wn 1 rfl (Nx (Sr (Wn 2 rfl (Wa (.om (2*r) 1000000 ((2*r)%1000000) rfl rfl rfl rfl (by omega) rfl) rfl (Wn 1 rfl (Nx (Sq (Sr (Wn 2 rfl (Wa (.qW an (kk-1) (an/2^(kk-1)) rfl rfl rfl (by omega) (by show kk-1<=64;omega) rfl) rfl ?_)))))))))))
   refine Wa (.aav (an/2^(kk-1)) 1 (an/2^(kk-1)%2) rfl rfl rfl rfl (by omega) (by omega) (LH _)) rfl (Wn 1 rfl (Nx ?_))
   by_cases k:((an/2^(kk-1)%2:Nat):Int)=1
   ·refine Cy rfl (dT k) ?_
    have n:an/2^(kk-1)%2=1:=by omega
    rw[n,Nat.one_mul]at hst
    refine Sr (Wn 3 rfl (Wa (.tF nn 1000000 (nn/1000000) rfl rfl rfl rfl (by omega) (by omega) rfl) rfl (Wa (.addN ((2*q)+((2*r)/1000000)) (nn/1000000) (((2*q)+((2*r)/1000000))+(nn/1000000)) rfl rfl rfl rfl (by omega)) rfl (Wn 1 rfl (Nx (WC.region (Wn 3 rfl (Wa (.om nn 1000000 (nn%1000000) rfl rfl rfl rfl (by omega) rfl) rfl (Wa (.addN ((2*r)%1000000) (nn%1000000) (((2*r)%1000000)+(nn%1000000)) rfl rfl rfl rfl (by omega)) rfl ?_)))))))))
    refine Wn 1 rfl (Nx (Sr (Wn 3 rfl (Wa (.tF (((2*r)%1000000)+(nn%1000000)) 1000000 ((((2*r)%1000000)+(nn%1000000))/1000000) rfl rfl rfl rfl (by omega) (by omega) rfl) rfl (Wa (.addN (((2*q)+((2*r)/1000000))+(nn/1000000)) ((((2*r)%1000000)+(nn%1000000))/1000000) ((((2*q)+((2*r)/1000000))+(nn/1000000))+((((2*r)%1000000)+(nn%1000000))/1000000)) rfl rfl rfl rfl (by omega)) rfl (Wn 1 rfl (Nx (Sr (Wn 2 rfl (Wa (.om (((2*r)%1000000)+(nn%1000000)) 1000000 ((((2*r)%1000000)+(nn%1000000))%1000000) rfl rfl rfl rfl (by omega) rfl) rfl (Wn 1 rfl (Nx (Sr (Wn 2 rfl (Nx ?_)))))))))))))))
    by_cases e:1125899906842624<((((((2*q)+((2*r)/1000000))+(nn/1000000))+((((2*r)%1000000)+(nn%1000000))/1000000)):Nat):Int)
    ·refine Cy rfl (dT e) (Sr (Wn 3 rfl (Nx (Rt (E.gT (E.eX (E.eX (E.gT (E.eX (E.gU rfl rfl rfl rfl ?_))))))))))
     exact⟨0,by rw[pR,if_neg (by have:=IE an nn (kk-1);omega)],d⟩
    refine Cn rfl (dF e) (WC.skip (E.gI (E.eY (WC.region (Wn 1 rfl (Wa (.sub rfl rfl (by omega)) rfl (Wn 1 rfl (W.nil (E.again (kk-1,((((2*q)+((2*r)/1000000))+(nn/1000000))+((((2*r)%1000000)+(nn%1000000))/1000000)),((((2*r)%1000000)+(nn%1000000))%1000000)) (.cons rfl (.cons rfl (.cons rfl (.cons rfl (.cons rfl (.cons' rfl (int_eq (by omega)) (.nil _))))))) ?_ ?_)))))))))
    ·exact⟨by omega,(Ko q r nn _ hX).trans hst.symm,Nat.mod_lt _ (by decide),by omega,d,by have:=i;omega⟩
    first|omega|(simp only[];omega)
   refine Cn rfl (dF k) ?_
   have o:an/2^(kk-1)%2=0:=by omega
   rw[o,Nat.zero_mul,Nat.add_zero]at hst
   refine Sn (Sr (Wn 3 rfl (Wa (.tF ((2*r)%1000000) 1000000 (((2*r)%1000000)/1000000) rfl rfl rfl rfl (by omega) (by omega) rfl) rfl (Wa (.addN ((2*q)+((2*r)/1000000)) (((2*r)%1000000)/1000000) (((2*q)+((2*r)/1000000))+(((2*r)%1000000)/1000000)) rfl rfl rfl rfl (by omega)) rfl (Wn 1 rfl (Nx (Sr (Wn 2 rfl (Wa (.om ((2*r)%1000000) 1000000 (((2*r)%1000000)%1000000) rfl rfl rfl rfl (by omega) rfl) rfl (Wn 1 rfl (Nx (Sr (Wn 2 rfl (Nx ?_))))))))))))))
   by_cases e:1125899906842624<(((((2*q)+((2*r)/1000000))+(((2*r)%1000000)/1000000)):Nat):Int)
   ·refine Cy rfl (dT e) (Sr (Wn 3 rfl (Nx (Rt (E.gT (E.eX (E.eX (E.gT (E.eX (E.gU rfl rfl rfl rfl ?_))))))))))
    exact⟨0,by rw[pR,if_neg (by have:=IE an nn (kk-1);omega)],d⟩
   refine Cn rfl (dF e) (WC.skip (E.gI (E.eY (WC.region (Wn 1 rfl (Wa (.sub rfl rfl (by omega)) rfl (Wn 1 rfl (W.nil (E.again (kk-1,(((2*q)+((2*r)/1000000))+(((2*r)%1000000)/1000000)),(((2*r)%1000000)%1000000)) (.cons rfl (.cons rfl (.cons rfl (.cons rfl (.cons rfl (.cons' rfl (int_eq (by omega)) (.nil _))))))) ?_ ?_)))))))))
   ·exact⟨by omega,(Kq q r _ hX).trans hst.symm,Nat.mod_lt _ (by decide),by omega,d,by have:=i;omega⟩
   first|omega|(simp only[];omega)
  refine Cn rfl (dF j) (WC.exit (E.fC (E.fC (E.gW (E.eY (Sr (Wn 1 rfl (Wr (.yh (lY underlying24) underlying3 rfl (IntWalk.i64_in _ (by omega))) rfl (Wn 1 rfl (Wr (.yh (lY underlying24) underlying3 rfl (IntWalk.i64_in _ (by omega))) rfl (Wn 3 rfl (Nx (Rt ?_)))))))))))))
  refine E.gU rfl rfl rfl rfl ?_
  exact⟨_,by rw[pR,if_pos (by rw[show kk=0 by omega]at hX;simp at hX;omega),show q=an*nn/1000000 by rw[show kk=0 by omega]at hX;simp at hX;omega],d⟩
 refine Wa (.dec (.move rfl) (congrArg not (Bool.eq_false_iff.2 b))) rfl (Wn 7 rfl (Nx (WC.gL rfl (Sr (Wn 3 rfl (Nx (Rt (E.eX (E.gU rfl rfl rfl rfl ?_)))))))))
 exact⟨0,(by first|rfl|(simp[kS,b];done)|(simp[kS,b];omega)|(simp[kS,b];split<;>first|(exfalso;omega)|(simp;done)|(simp;omega))),f⟩

theorem QJ (a num:Int)(hn:num<=9223372036854775807)(w:World):Calls prog 151 #[.int .i64 a,.int .i64 num,.int .i64 (1000000)] w fun r w'=>r= .returned (.tuple #[.int .i64 (kS a num).1,.bool (kS a num).2])/\Le w w':=by
 refine enter func151 rfl rfl (Sr (Wn 2 rfl (Nx (Sr (Wn 3 rfl (W.cl Zh rfl rfl (NQ a num hn w) ?_))))))
 rintro _ c ⟨zz,rfl,b⟩
 refine Wn 7 rfl (Nx (Sr (Wn 4 rfl (Nx (Rt (E.jb rfl rfl rfl ?_))))))
 exact⟨rfl,((Le.refl w).trans b)⟩

theorem zb (p:GQ)(w:World):Calls prog 152 #[.agg (nI p).toArray] w fun r w'=>r= .returned (.bool (nA p))/\Le w w':=by
 refine enter func152 rfl rfl (Sr (W.ef rfl rfl rfl (Ef.iM rfl fun D e N (f:fA e D 64 (nI p).toArray) F=>(Wn 1 rfl (Nx (Sr (Wa (.eZ FP rfl) rfl (Wr (.fe (v:= .int .i64 p.b) gM rfl f rfl) rfl ?_))))))))
 refine W.cl Il rfl rfl (uh p.b 0 1125899906842624 e) ?_
 rintro _ H ⟨rfl,h⟩
 have i:=((Le.refl w).trans F).trans h
 by_cases j:(jv p.b 0 1125899906842624)=true
 ·refine Wa (.dec (.move rfl) j) rfl (Wg (Any.rd (.eZ yA rfl) _) rfl ?_)
  have k:=(f.le h)
  refine Wg (.fe (v:= .int .i64 p.l) gM rfl k rfl) rfl (W.mW rfl rfl rfl rfl rfl rfl (Ef.call Il rfl rfl (uh p.l 0 1125899906842624 H) ?_))
  rintro _ I ⟨rfl,n⟩
  refine⟨_,rfl,?_⟩
  have o:=i.trans n
  refine Wn 1 rfl ?_
  by_cases s:(jv p.l 0 1125899906842624)=true
  ·refine Wa (.dec (.move rfl) s) rfl (Wg (Any.rd (.eZ yB rfl) _) rfl ?_)
   have c:=(k.le n)
   refine Wg (.fe (v:= .int .i64 p.m) gM rfl c rfl) rfl (Wg (Any.rd (.eZ yA rfl) _) rfl (Wg (.fe (v:= .int .i64 p.l) gM rfl c rfl) rfl (W.mW rfl rfl rfl rfl rfl rfl (Ef.call Il rfl rfl (uh p.m p.l 1125899906842624 I) ?_))))
   rintro _ J ⟨rfl,t⟩
   refine⟨_,rfl,?_⟩
   have u:=o.trans t
   refine Wn 1 rfl ?_
   by_cases x:(jv p.m p.l 1125899906842624)=true
   ·refine Wa (.dec (.move rfl) x) rfl (Wg (Any.rd (.eZ FQ rfl) _) rfl ?_)
    have y:=(c.le t)
    refine Wg (.fe (v:= .int .i64 p.p) gM rfl y rfl) rfl (W.mW rfl rfl rfl rfl rfl rfl (Ef.call Il rfl rfl (uh p.p 0 1000000 J) ?_))
    rintro _ K ⟨rfl,z⟩
    refine⟨_,rfl,?_⟩
    have A:=u.trans z
    refine Wn 1 rfl ?_
    by_cases C:(jv p.p 0 1000000)=true
    ·refine Wa (.dec (.move rfl) C) rfl (Wg (Any.rd (.eZ BS rfl) _) rfl (Wg (.fe (v:= .int .i64 p.d) gM rfl (y.le z) rfl) rfl (W.mW rfl rfl rfl rfl rfl rfl (Ef.call Il rfl rfl (uh p.d 0 1048576 K) ?_))))
     rintro _ O ⟨rfl,L⟩
     refine⟨_,rfl,?_⟩
     refine Wn 2 rfl (Nx (Rt (E.fu rfl rfl ?_)))
     exact⟨rB (by simp only[nA,jv]at*;rw[Bool.eq_iff_iff];simp at*;omega),(A.trans L)⟩
    refine Wa (.dec (.move rfl) (Bool.eq_false_iff.2 C)) rfl (Wn 5 rfl (Nx (Rt (E.fu rfl rfl ?_))))
    exact⟨rB (by simp only[nA,jv]at*;rw[Bool.eq_iff_iff];simp at*;omega),A⟩
   refine Wa (.dec (.move rfl) (Bool.eq_false_iff.2 x)) rfl (Wn 10 rfl (Nx (Rt (E.fu rfl rfl ?_))))
   exact⟨rB (by simp only[nA,jv]at*;rw[Bool.eq_iff_iff];simp at*;omega),u⟩
  refine Wa (.dec (.move rfl) (Bool.eq_false_iff.2 s)) rfl (Wn 17 rfl (Nx (Rt (E.fu rfl rfl ?_))))
  exact⟨rB (by simp only[nA,jv]at*;rw[Bool.eq_iff_iff];simp at*;omega),o⟩
 refine Wa (.dec (.move rfl) (Bool.eq_false_iff.2 j)) rfl (Wn 22 rfl (Nx (Rt (E.fu rfl rfl ?_))))
 exact⟨rB (by simp only[nA,jv]at*;rw[Bool.eq_iff_iff];simp at*;omega),i⟩

theorem NR (p:GQ)(a:Int)(hp:Nb p)(w:World):Calls prog 92 #[.agg (nI p).toArray,.int .i64 (a)] w fun r w'=>r= .returned (.tuple #[.int .i64 (jf p a).1,.bool (jf p a).2])/\Le w w':=by
 have t:=hp.2.1
 refine enter func92 rfl rfl (Sr (W.ef rfl rfl rfl (Ef.iM rfl fun l f u (h:fA f l 64 (nI p).toArray) m=>(Wn 2 rfl (Nx (Sr (Wn 1 rfl (Wa (.eZ FQ rfl) rfl (Wr (.fe (v:= .int .i64 p.p) gM rfl h rfl) rfl ?_)))))))))
 refine W.cl Y1 rfl rfl (QJ a p.p (by omega) f) ?_
 rintro _ n ⟨rfl,i⟩
 refine Wn 5 rfl (Nx (Sq (Sr ?_)))
 have j:=(h.le i)
 refine Wr (.fB Ib (by rfl) rfl j) rfl ?_
 refine W.cl Vv rfl rfl (zb p n) ?_
 rintro _ o ⟨rfl,k⟩
 have e:=(((Le.refl w).trans m).trans i).trans k
 refine Wn 1 rfl ?_
 by_cases c:(nA p)=true
 ·refine Wa (.dec (.move rfl) (congrArg not c)) rfl (Wn 3 rfl (Nx ?_))
  by_cases d:((kS a p.p).2)=true
  ·refine Cn rfl (congrArg not d) (Sn (Sr (Wa (.eZ FP rfl) rfl (Wr (.fe (v:= .int .i64 p.b) gM rfl (j.le k) rfl) rfl (Wn 1 rfl (W.cl YD rfl rfl (Mw p.b ((kS a p.p).1) o) ?_))))))
   rintro _ x ⟨rfl,s⟩
   refine Wn 4 rfl (Nx (Rt (E.jb rfl rfl rfl ?_)))
   exact⟨(by first|rfl|(simp[jf,c,d];done)|(simp[jf,c,d];omega)|(simp[jf,c,d];split<;>first|(exfalso;omega)|(simp;done)|(simp;omega))),(e.trans s)⟩
  refine Cy rfl (congrArg not (Bool.eq_false_iff.2 d)) (Sr (Wn 2 rfl (Nx (Rt (E.eX (E.jb rfl rfl rfl ?_))))))
  exact⟨(by first|rfl|(simp[jf,c,d];done)|(simp[jf,c,d];omega)|(simp[jf,c,d];split<;>first|(exfalso;omega)|(simp;done)|(simp;omega))),e⟩
 refine Wa (.dec (.move rfl) (congrArg not (Bool.eq_false_iff.2 c))) rfl (Wn 3 rfl (Nx (WC.gL rfl (Sr (Wn 2 rfl (Nx (Rt (E.eX (E.jb rfl rfl rfl ?_)))))))))
 exact⟨(by first|rfl|(simp[jf,c];done)|(simp[jf,c];omega)|(simp[jf,c];split<;>first|(exfalso;omega)|(simp;done)|(simp;omega))),e⟩

theorem Cf (e:fO.Edge)(w:World):Calls prog 143 #[.agg (fD e).toArray] w fun r w'=>r= .returned (.bool (edgeOk e))/\Le w w':=by
 refine enter func143 rfl rfl (Sr (W.ef rfl rfl rfl (Ef.iM rfl fun F m O (n:fA m F 66 (fD e).toArray) H=>(Wn 1 rfl (Nx (Sr (Wa (.eZ oo rfl) rfl (Wr (.vO (nI e.jF) Ib rfl (by decide) rfl n rfl) rfl ?_))))))))
 refine W.cl Vv rfl rfl (zb e.jF m) ?_
 rintro _ I ⟨rfl,o⟩
 refine Wn 1 rfl (Nx (Sr (Wa (.eZ iX rfl) rfl ?_)))
 have s:=(n.le o)
 refine Wr (.fe (v:= .int .i64 e.f) gM rfl s rfl) rfl (W.cl Ih rfl rfl (oH e.f 0 11 I) ?_)
 rintro _ J ⟨rfl,u⟩
 have x:=(((Le.refl w).trans H).trans o).trans u
 by_cases b:(jv e.f 0 11)=true
 ·refine Wa (.dec (.move rfl) b) rfl (Wg (Any.rd (.eZ jK rfl) _) rfl ?_)
  have y:=(s.le u)
  refine Wg (.fe (v:= .int .i64 e.t) gM rfl y rfl) rfl (W.mW rfl rfl rfl rfl rfl rfl (Ef.call Ih rfl rfl (oH e.t 0 11 J) ?_))
  rintro _ K ⟨rfl,z⟩
  refine⟨_,rfl,?_⟩
  have l:=x.trans z
  refine Wn 1 rfl ?_
  by_cases d:(jv e.t 0 11)=true
  ·refine Wa (.dec (.move rfl) d) rfl (Wg (Any.rd (.eZ iX rfl) _) rfl ?_)
   have j:=(y.le z)
   refine Wg (.fe (v:= .int .i64 e.f) gM rfl j rfl) rfl (Wg (Any.rd (.eZ jK rfl) _) rfl (Wg (.fe (v:= .int .i64 e.t) gM rfl j rfl) rfl (Wn 2 rfl ?_)))
   by_cases h:e.f≠e.t
   ·refine Dt h rfl rfl (Wg (Any.rd (.eZ iY rfl) _) rfl (Wg (.fe (v:= .int .i64 e.c) gM rfl j rfl) rfl (W.mW rfl rfl rfl rfl rfl rfl (Ef.call Ih rfl rfl (oH e.c 0 39 K) ?_))))
    rintro _ L ⟨rfl,A⟩
    refine⟨_,rfl,?_⟩
    have C:=l.trans A
    refine Wn 1 rfl ?_
    by_cases i:(jv e.c 0 39)=true
    ·refine Wa (.dec (.move rfl) i) rfl (Wg (Any.rd (.eZ iF rfl) _) rfl (Wg (.fe (v:= .int .i64 e.r) gM rfl (j.le A) rfl) rfl (W.mW rfl rfl rfl rfl rfl rfl (Ef.call Ih rfl rfl (oH e.r 1 1125899906842624 L) ?_))))
     rintro _ P ⟨rfl,N⟩
     refine⟨_,rfl,?_⟩
     have D:=C.trans N
     refine Wn 1 rfl ?_
     by_cases k:(jv e.r 1 1125899906842624)=true
     ·refine Wa (.dec (.move rfl) k) rfl (Wn 3 rfl (Nx (Rt (E.fu rfl rfl ?_))))
      exact⟨rB (by simp[edgeOk,b,d,h,i,k]),D⟩
     refine Wa (.dec (.move rfl) (Bool.eq_false_iff.2 k)) rfl (Wn 3 rfl (Nx (Rt (E.fu rfl rfl ?_))))
     exact⟨rB (by simp[edgeOk,b,d,h,i,k]),D⟩
    refine Wa (.dec (.move rfl) (Bool.eq_false_iff.2 i)) rfl (Wn 8 rfl (Nx (Rt (E.fu rfl rfl ?_))))
    exact⟨rB (by simp[edgeOk,b,d,h,i]),C⟩
   refine Df h rfl rfl (Wn 13 rfl (Nx (Rt (E.fu rfl rfl ?_))))
   exact⟨rB (by simp[edgeOk,b,d,h]),l⟩
  refine Wa (.dec (.move rfl) (Bool.eq_false_iff.2 d)) rfl (Wn 20 rfl (Nx (Rt (E.fu rfl rfl ?_))))
  exact⟨rB (by simp[edgeOk,b,d]),l⟩
 refine Wa (.dec (.move rfl) (Bool.eq_false_iff.2 b)) rfl (Wn 25 rfl (Nx (Rt (E.fu rfl rfl ?_))))
 exact⟨rB (by simp[edgeOk,b]),x⟩

theorem AP {A B:Option Addr}{n c m d:Nat}{xs ys:List (Int)}(w:World)(hV:Vec w iv 1 A n xs)(hU:Vec w iv 1 B m ys)(hn:n<=1000000):Calls prog 14 #[.slice A n c,.slice B m d] w fun r w'=>r= .returned (.bool (decide (xs=ys)))/\Le w w':=by
 have hl:=hV.1
 have hm:=hU.1
 refine enter func14 rfl rfl ?_
 have i:=Le.refl w
 refine Sr (Wn 1 rfl (Nx (Sq (Sr (Wn 1 rfl (Wr (.len underlying47 rfl) rfl (Wn 1 rfl (Wr (.len underlying47 rfl) rfl (Wn 1 rfl (Nx ?_))))))))))
 by_cases l:((n:Nat):Int)≠((m:Nat):Int)
 ·refine Cy rfl (dT l) (Sr (Wn 1 rfl (Nx (Rt (E.eX (E.fu rfl rfl ?_))))))
  exact⟨rB (dF (fun h=>by subst h;first|omega|exact absurd rfl (by assumption))).symm,i⟩
 refine Cn rfl (dF l) (Sn (Sq (Sr (Wn 1 rfl (Nx (WC.block (WC.loop (ι:=Nat) (fun k=>[(0,.slice A n c),(1,.slice B m d),(5,.int .i64 ((k:Nat):Int))]) (fun k f=>(k<=n)/\(∀j,j<k->xs.getD j 0=ys.getD j 0)/\Le w f/\w.heap.size<=f.heap.size) (fun k=>n-k) 0 ?_ ?_ ?_)))))))
 ·exact .of rfl
 ·exact⟨Nat.zero_le _,fun j hj=>absurd hj (Nat.not_lt_zero _),i,Nat.le_refl _⟩
 rintro k f ⟨hk,hz,o,u⟩
 refine Sq (Sr (Wn 2 rfl (Wr (.len underlying47 rfl) rfl (Wn 1 rfl (Nx ?_)))))
 by_cases s:((k:Nat):Int)<((n:Nat):Int)
 ·refine Cy rfl (dT s) (Sn (Sq (WC.block (Sq (WC.draw [0,1,2,3,4,5,6,7,8] mixed (by kernel_rfl) fun x t=>?_)))))
  have b:=o.trans t
  refine Gn 2 rfl (Ga rfl (.fV k underlying47 kR rfl rfl (hV.isSome fT (by omega)) rfl (by omega)) (Gd rfl (.jB (v:= .int .i64 (xs.getD k 0)) gM rfl (hV.le b) fT (gD xs 0 (by omega)) rfl) (Gn 2 rfl (Ga rfl (.fV k underlying47 kR rfl rfl (hU.isSome fT (by omega)) rfl (by omega)) (Gd rfl (.jB (v:= .int .i64 (ys.getD k 0)) gM rfl (hU.le b) fT (gD ys 0 (by omega)) rfl) ?_)))))
  refine Gn 1 rfl (G.nil (E.eY ?_))
  by_cases e:(xs.getD k 0)≠(ys.getD k 0)
  ·refine Cy rfl (dT e) (Sr (Wn 1 rfl (Nx (Rt (E.gT (E.eX (E.eX (E.gT (E.eX (E.fu rfl rfl ?_))))))))))
   exact⟨rB (dF (fun h=>by subst h;first|omega|exact absurd rfl (by assumption))).symm,b⟩
  refine Cn rfl (dF e) (WC.skip (E.gI (E.eY (WC.region (Wn 1 rfl (Wa (.add rfl rfl (by omega)) rfl (Wn 1 rfl (W.nil (E.again (k+1) (.of rfl) ?_ ?_)))))))))
  ·exact⟨by omega,fun j hj=>by rcases Nat.lt_or_ge j k with h|h;exact hz j h;rw[show j=k by omega];first|exact Decidable.not_not.1 e|exact e,b,by have:=u;have:=t.size;omega⟩
  first|omega|(simp only[];omega)
 refine Cn rfl (dF s) (WC.exit (E.fC (E.fC (E.gW (E.eY (Sr (Wn 1 rfl (Nx (Rt (E.fu rfl rfl ?_))))))))))
 exact⟨rB (dT (BJ (by omega) (fun j hj=>hz j (by omega)))).symm,o⟩



theorem Ub {A B:Option Addr}{n c m d:Nat}{xs ys:List (fO.Edge)}(w:World)(hV:Vec w fD 9 A n xs)(hU:Vec w fD 9 B m ys)(hn:n<=1000000):Calls prog 46 #[.slice A n c,.slice B m d] w fun r w'=>r= .returned (.bool (decide (xs=ys)))/\Le w w':=by
 have hl:=hV.1
 have hm:=hU.1
 refine enter func46 rfl rfl ?_
 have i:=Le.refl w
 refine Sr (Wn 1 rfl (Nx (Sq (Sr (Wn 1 rfl (Wr (.len underlying22 rfl) rfl (Wn 1 rfl (Wr (.len underlying22 rfl) rfl (Wn 1 rfl (Nx ?_))))))))))
 by_cases l:((n:Nat):Int)≠((m:Nat):Int)
 ·refine Cy rfl (dT l) (Sr (Wn 1 rfl (Nx (Rt (E.eX (E.fu rfl rfl ?_))))))
  exact⟨rB (dF (fun h=>by subst h;first|omega|exact absurd rfl (by assumption))).symm,i⟩
 refine Cn rfl (dF l) (Sn (Sq (Sr (Wn 1 rfl (Nx (WC.block (WC.loop (ι:=Nat) (fun k=>[(0,.slice A n c),(1,.slice B m d),(5,.int .i64 ((k:Nat):Int))]) (fun k f=>(k<=n)/\(∀j,j<k->xs.getD j eO=ys.getD j eO)/\Le w f/\w.heap.size<=f.heap.size) (fun k=>n-k) 0 ?_ ?_ ?_)))))))
 ·exact .of rfl
 ·exact⟨Nat.zero_le _,fun j hj=>absurd hj (Nat.not_lt_zero _),i,Nat.le_refl _⟩
 rintro k f ⟨hk,hz,o,u⟩
 refine Sq (Sr (Wn 2 rfl (Wr (.len underlying22 rfl) rfl (Wn 1 rfl (Nx ?_)))))
 by_cases s:((k:Nat):Int)<((n:Nat):Int)
 ·refine Cy rfl (dT s) (Sn (Sq (WC.block (Sq (WC.draw [0,1,2,3,4,5,6,7,8] mixed (by kernel_rfl) fun v t=>?_)))))
  have b:=o.trans t
  refine Gn 2 rfl (Ga rfl (.fV k underlying22 iI rfl rfl (hV.isSome eQ (by omega)) rfl (by omega)) (Gd rfl (.j5 iJ rfl (hV.le b) eQ (gD xs eO (by omega))) (Gn 2 rfl (Ga rfl (.fV k underlying22 iI rfl rfl (hU.isSome eQ (by omega)) rfl (by omega)) (Gd rfl (.j5 iJ rfl (hU.le b) eQ (gD ys eO (by omega))) ?_)))))
  refine Ga rfl (.neA aaG rfl rfl (QI (d:=9997) _ _)) (G.nil (E.eY ?_))
  by_cases e:(xs.getD k eO)=(ys.getD k eO)
  ·refine Cn rfl (congrArg not (dT e)) (WC.skip (E.gI (E.eY (WC.region (Wn 1 rfl (Wa (.add rfl rfl (by omega)) rfl (Wn 1 rfl (W.nil (E.again (k+1) (.of rfl) ?_ ?_)))))))))
   ·exact⟨by omega,fun j hj=>by rcases Nat.lt_or_ge j k with h|h;exact hz j h;rw[show j=k by omega];first|exact Decidable.not_not.1 e|exact e,b,by have:=u;have:=t.size;omega⟩
   first|omega|(simp only[];omega)
  refine Cy rfl (congrArg not (dF e)) (Sr (Wn 1 rfl (Nx (Rt (E.gT (E.eX (E.eX (E.gT (E.eX (E.fu rfl rfl ?_))))))))))
  exact⟨rB (dF (fun h=>by subst h;first|omega|exact absurd rfl (by assumption))).symm,b⟩
 refine Cn rfl (dF s) (WC.exit (E.fC (E.fC (E.gW (E.eY (Sr (Wn 1 rfl (Nx (Rt (E.fu rfl rfl ?_))))))))))
 exact⟨rB (dT (BJ (by omega) (fun j hj=>hz j (by omega)))).symm,o⟩
end Go.Proofs.YtkaedikifgpkeaaGreatDoor

namespace Go.Proofs.YtkaedikifgpkeaaGreatDoor
open Tryz
open Go Go.Sx Go.Num
set_option maxRecDepth 20000
theorem abq (D a n out:Nat)(h:n%2=1):((out+a)%D+(a+a)%D*(n/2))%D=(out+a*n)%D:=by
  have e:a*n=a+(a+a)*(n/2):=by
    have b:n=2*(n/2)+1:=by omega
    conv=>lhs;rw[b]
    rw[Nat.mul_add,Nat.mul_one,<-Nat.mul_assoc,Nat.mul_two,Nat.add_comm]
  rw[e,<-Nat.add_assoc,Nat.add_mod,Nat.mod_mod,Nat.mul_mod,Nat.mod_mod,<-Nat.mul_mod,<-Nat.add_mod]
theorem abr (D a n out:Nat)(h:¬n%2=1):(out+(a+a)%D*(n/2))%D=(out+a*n)%D:=by
  have e:a*n=(a+a)*(n/2):=by
    have b:n=2*(n/2):=by omega
    conv=>lhs;rw[b]
    rw[<-Nat.mul_assoc,Nat.mul_two]
  rw[e,Nat.add_mod,Nat.mul_mod,Nat.mod_mod,<-Nat.mul_mod,<-Nat.add_mod]
theorem Uc (D a out:Nat)(h:out<D):(out+a*0)%D=out:=by rw[Nat.mul_zero,Nat.add_zero,Nat.mod_eq_of_lt h]
def mF (n b m:Nat):Nat:=(2^(8-m)*n+b/2^m)%2305843009213688668
theorem Ud (n b m:Nat):mF n b m<2305843009213688668:=Nat.mod_lt _ (by decide)
theorem Kr (n b:Nat)(hn:n<2305843009213688668)(hb:b<256):n=mF n b 8:=by
  rw[mF,Nat.div_eq_of_lt (by simpa using hb),Nat.sub_self,Nat.pow_zero,Nat.one_mul,Nat.add_zero,Nat.mod_eq_of_lt hn]
theorem NS (n b m:Nat)(h1:0<m)(h8:m<=8):(2*mF n b m+b/2^(m-1)%2)%2305843009213688668=mF n b (m-1):=by
  have c:2^(8-(m-1))=2*2^(8-m):=by rw[show 8-(m-1)=(8-m)+1 by omega,Nat.pow_succ,Nat.mul_comm]
  have d:b/2^(m-1)=2*(b/2^m)+b/2^(m-1)%2:=by
    have:b/2^m=b/2^(m-1)/2:=by rw[Nat.div_div_eq_div_mul,<-Nat.pow_succ,show(m-1).succ=m by omega]
    rw[this];omega
  have e:2^(8-(m-1))*n+b/2^(m-1)=2*(2^(8-m)*n+b/2^m)+b/2^(m-1)%2:=by
    rw[c,Nat.mul_add,Nat.mul_assoc,Nat.add_assoc,<-d]
  rw[mF,mF,e,Nat.add_mod,Nat.mul_mod,Nat.mod_mod,<-Nat.mul_mod,<-Nat.add_mod]
theorem QK (n b:Nat):mF n b 0=(256*n+b)%2305843009213688668:=by rw[mF,Nat.pow_zero,Nat.div_one]


theorem Kt (a:Nat)(w:World):Calls prog 166 #[.int .u64 ((a:Nat):Int)] w fun e w'=>e= .returned (.int .u64 ((a%q:Nat):Int))/\Le w w':=by
 refine enter func166 rfl rfl (WC.sr (W.run 1 rfl (W.nx (WC.sr (W.run 1 rfl (Wa (.om a 2305843009213688669 (a%2305843009213688669) rfl rfl rfl rfl (by decide) rfl) rfl (W.run 1 rfl (W.nx (WC.ret (E.jQ rfl rfl ?_))))))))))
 exact⟨rfl,(Le.refl w)⟩



theorem uR (a b:Nat)(ha:a<M)(hb:b<18446744073709551616)(w:World):Calls prog 206 #[.int .u64 ((a:Nat):Int),.int .u64 ((b:Nat):Int)] w fun e w'=>e= .returned (.int .u64 ((a*b%M:Nat):Int))/\Le w w':=by
 refine enter func206 rfl rfl (Sr (Wn 1 rfl (Nx (Sr (Wn 1 rfl (Nx (Sq (WC.block (WC.loop (ι:=Nat×Nat×Nat) (fun⟨x,y,out⟩=>[(0,.int .u64 ((x:Nat):Int)),(1,.int .u64 ((y:Nat):Int)),(5,.int .u64 ((out:Nat):Int))]) (fun⟨x,y,out⟩ wl=>Le w wl/\x<4611686018427377339/\y<18446744073709551616/\out<4611686018427377339/\(out+x*y)%4611686018427377339=a*b%4611686018427377339) (fun⟨x,y,out⟩=>y) (a,b,0) ?_ ?_ ?_)))))))))
 ·exact .of rfl
 ·exact⟨(Le.refl w),ha,hb,by decide,by rw[Nat.zero_add]⟩
 rintro⟨x,y,out⟩ wl ⟨Ll,hx,hy,ho,hi⟩
 refine Sq (Sr (Wn 2 rfl (Nx (WC.cond rfl (fun c=>?_) (fun c=>?_)))))
 ·refine Sn (WC.block (Sq (Sr (Wn 1 rfl (Wa (.om y 2 (y%2) rfl rfl rfl rfl (by decide) rfl) rfl (Wn 1 rfl (Nx (WC.cond rfl (fun d=>?_) (fun d=>?_)))))))))
  ·refine WC.region (Wn 2 rfl (Wa (.addN out x (out+x) rfl rfl rfl rfl (Nat.mod_eq_of_lt (by omega))) rfl (Wa (.om (out+x) 4611686018427377339 ((out+x)%4611686018427377339) rfl rfl rfl rfl (by decide) rfl) rfl (Wn 1 rfl (Nx (Sr (Wn 2 rfl (Wa (.addN x x (x+x) rfl rfl rfl rfl (Nat.mod_eq_of_lt (by omega))) rfl (Wa (.om (x+x) 4611686018427377339 ((x+x)%4611686018427377339) rfl rfl rfl rfl (by decide) rfl) rfl ?_)))))))))
   refine Wn 1 rfl (Nx (WC.region (Wn 1 rfl (Wa (.tF y 2 (y/2) rfl rfl rfl rfl (by omega) (by omega) rfl) rfl (Wn 1 rfl (W.nil (E.gI (E.again ((x+x)%4611686018427377339,y/2,(out+x)%4611686018427377339) (.of rfl) ?_ ?_))))))))
   ·exact⟨Ll,Nat.mod_lt _ (by decide),by omega,Nat.mod_lt _ (by decide),by rw[abq _ x y out (by omega)];exact hi⟩
   first|omega|(simp only[];omega)
  refine Sn (Sr (Wn 2 rfl (Wa (.addN x x (x+x) rfl rfl rfl rfl (Nat.mod_eq_of_lt (by omega))) rfl (Wa (.om (x+x) 4611686018427377339 ((x+x)%4611686018427377339) rfl rfl rfl rfl (by decide) rfl) rfl (Wn 1 rfl (Nx (WC.region (Wn 1 rfl (Wa (.tF y 2 (y/2) rfl rfl rfl rfl (by omega) (by omega) rfl) rfl (Wn 1 rfl (W.nil (E.gI ?_))))))))))))
  refine E.again ((x+x)%4611686018427377339,y/2,out) (.of rfl) ?_ ?_
  ·exact⟨Ll,Nat.mod_lt _ (by decide),by omega,ho,by rw[abr _ x y out (by omega)];exact hi⟩
  first|omega|(simp only[];omega)
 have f:y=0:=by omega
 subst f
 rw[Uc _ _ _ ho]at hi
 refine WC.exit (E.fC (E.fC (E.gW (E.eY (Sr (Wn 2 rfl (Nx (Rt (E.jQ rfl rfl ?_)))))))))
 exact⟨by rw[hi];rfl,Ll⟩

theorem Ev (a n:Nat)(ha:a<M)(hn:n<18446744073709551616)(w:World):Calls prog 168 #[.int .u64 ((a:Nat):Int),.int .u64 ((n:Nat):Int)] w fun e w'=>e= .returned (.int .u64 ((pw a n:Nat):Int))/\Le w w':=by
 refine enter func168 rfl rfl (Sr (Wn 1 rfl (Nx (Sr (Wn 1 rfl (Nx (Sq (WC.block (WC.loop (ι:=Nat×Nat×Nat) (fun⟨b,m,out⟩=>[(0,.int .u64 ((b:Nat):Int)),(1,.int .u64 ((m:Nat):Int)),(5,.int .u64 ((out:Nat):Int))]) (fun⟨b,m,out⟩ wl=>Le w wl/\b<M/\m<18446744073709551616/\out<M/\out*b^m%M=pw a n) (fun⟨b,m,out⟩=>m) (a,n,1) ?_ ?_ ?_)))))))))
 ·exact .of rfl
 ·exact⟨(Le.refl w),ha,hn,D5,GJ a n hn⟩
 rintro⟨b,m,out⟩ wl ⟨Ll,hb,hm,ho,hi⟩
 refine Sq (Sr (Wn 2 rfl (Nx (WC.cond rfl (fun h=>?_) (fun h=>?_)))))
 ·have c:b<18446744073709551616:=Nat.lt_trans hb (by decide)
  refine Sn (WC.block (Sq (Sr (Wn 1 rfl (Wa (.om m 2 (m%2) rfl rfl rfl rfl (by decide) rfl) rfl (Wn 1 rfl (Nx (WC.cond rfl (fun i=>?_) (fun i=>?_)))))))))
  ·refine WC.region (Wn 2 rfl (W.cl Mf rfl rfl (uR out b ho c wl) ?_))
   rintro _ j ⟨rfl,k⟩
   have l:=Ll.trans k
   refine Wn 1 rfl (Nx (Sr (Wn 2 rfl (W.cl Mf rfl rfl (uR b b hb c j) ?_))))
   rintro _ o ⟨rfl,d⟩
   have f:=l.trans d
   refine Wn 1 rfl (Nx (WC.region (Wn 1 rfl (Wa (.tF m 2 (m/2) rfl rfl rfl rfl (by omega) (by omega) rfl) rfl (Wn 1 rfl (W.nil (E.gI (E.again (b*b%M,m/2,out*b%M) (.of rfl) ?_ ?_))))))))
   ·exact⟨f,Nat.mod_lt _ (by decide),by omega,Nat.mod_lt _ (by decide),by rw[step1 b m out (by omega)];exact hi⟩
   first|omega|(simp only[];omega)
  refine Sn (Sr (Wn 2 rfl (W.cl Mf rfl rfl (uR b b hb c wl) ?_)))
  rintro _ o ⟨rfl,d⟩
  have f:=Ll.trans d
  refine Wn 1 rfl (Nx (WC.region (Wn 1 rfl (Wa (.tF m 2 (m/2) rfl rfl rfl rfl (by omega) (by omega) rfl) rfl (Wn 1 rfl (W.nil (E.gI (E.again (b*b%M,m/2,out) (.of rfl) ?_ ?_))))))))
  ·exact⟨f,Nat.mod_lt _ (by decide),by omega,ho,by rw[step0 b m out (by omega)];exact hi⟩
  first|omega|(simp only[];omega)
 have s:m=0:=by omega
 subst s
 rw[OU b out ho]at hi
 refine WC.exit (E.fC (E.fC (E.gW (E.eY (Sr (Wn 2 rfl (Nx (Rt (E.jQ rfl rfl ?_)))))))))
 exact⟨by rw[hi],Ll⟩

theorem sD (p:Nat)(hp:p<18446744073709551616)(w:World):Calls prog 111 #[.int .u64 ((p:Nat):Int)] w fun e w'=>e= .returned (.bool (right p))/\Le w w':=by
 refine enter func111 rfl rfl ?_
 have b:=Le.refl w
 refine Sr (Wn 1 rfl (Nx (Sr (Wn 1 rfl ?_))))
 by_cases d:0<p
 ·refine Wa (.dec (.geq rfl rfl) (dT (by omega))) rfl (Wn 2 rfl ?_)
  by_cases c:p<4611686018427377339
  ·refine Wg (Any.rd (.dec (.lss rfl rfl) (dT (by omega))) _) rfl (Wn 3 rfl (W.mW rfl rfl rfl rfl rfl rfl (Ef.call VC rfl rfl (Ev p 2305843009213688669 c (by decide) w) ?_)))
   rintro _ i ⟨rfl,f⟩
   refine⟨_,rfl,?_⟩
   have h:=b.trans f
   refine Wn 3 rfl (Nx (Rt (E.jQ rfl rfl ?_)))
   exact⟨by rw[right,dT d,dT (show p<M from c),Bool.true_and,Bool.true_and,<-ZC];rfl,h⟩
  refine Wg (Any.rd (.dec (.lss rfl rfl) (dF (by omega))) _) rfl (Wn 7 rfl (Nx (Rt (E.jQ rfl rfl ?_))))
  exact⟨by rw[right,dF (show¬p<M from c),Bool.and_false,Bool.false_and],b⟩
 refine Wa (.dec (.geq rfl rfl) (dF (by omega))) rfl (Wn 10 rfl (Nx (Rt (E.jQ rfl rfl ?_))))
 exact⟨by rw[right,dF d,Bool.false_and,Bool.false_and],b⟩

theorem yE (p:Nat)(hp:p<18446744073709551616)(w:World):Calls prog 170 #[.int .u64 ((p:Nat):Int)] w fun e w'=>e= .returned (.int .u64 ((taken p:Nat):Int))/\Le w w':=by
 refine enter func170 rfl rfl ?_
 have d:=Le.refl w
 refine Sr (Wn 1 rfl (Nx (Sq (Sr (Wn 1 rfl (W.cl Ma rfl rfl (sD p hp w) ?_))))))
 rintro _ h ⟨rfl,f⟩
 have c:=d.trans f
 refine Nx (WC.oV rfl (fun b=>?_) (fun b=>?_))
 ·refine Sr (Wn 2 rfl (Nx (Rt (E.eX (E.jQ rfl rfl ?_)))))
  exact⟨by rw[taken,if_pos b],c⟩
 refine Sn (Sr (Wn 1 rfl (Nx (Rt (E.jQ rfl rfl ?_)))))
 exact⟨by rw[taken,if_neg (by rw[b];simp)];rfl,c⟩

theorem FZ (p:Nat):taken p<M:=((pJ _).1 (nz p)).2.1

theorem NT (p k:Nat)(hp:p<18446744073709551616)(w:World):Calls prog 113 #[.int .u64 ((p:Nat):Int),.int .u64 ((k:Nat):Int)] w fun e w'=>e= .returned (.int .u64 ((scale p k:Nat):Int))/\Le w w':=by
 refine enter func113 rfl rfl ?_
 have b:=Le.refl w
 refine Sr (Wn 1 rfl (Nx (Sr (Wn 1 rfl (W.cl Qf rfl rfl (yE p hp w) ?_)))))
 rintro _ c ⟨rfl,d⟩
 have f:=b.trans d
 refine Wn 1 rfl (Wa (.om k 2305843009213688669 (k%2305843009213688669) rfl rfl rfl rfl (by decide) rfl) rfl (W.cl VC rfl rfl (Ev (taken p) (k%2305843009213688669) (FZ p) (by omega) c) ?_))
 rintro _ j ⟨rfl,h⟩
 have i:=f.trans h
 refine Wn 1 rfl (Nx (Rt (E.jQ rfl rfl ?_)))
 exact⟨rfl,i⟩

theorem IG (k:Nat)(w:World):Calls prog 54 #[.int .u64 ((k:Nat):Int)] w fun e w'=>e= .returned (.int .u64 ((base k:Nat):Int))/\Le w w':=by
 refine enter func54 rfl rfl ?_
 have b:=Le.refl w
 refine Sr (Wn 1 rfl (Nx (Sr (Wn 1 rfl (W.cl YM rfl rfl (NT 4 k (by decide) w) ?_)))))
 rintro _ f ⟨rfl,c⟩
 have d:=b.trans c
 refine Wn 1 rfl (Nx (Rt (E.jQ rfl rfl ?_)))
 exact⟨rfl,d⟩

theorem II (h:List (BitVec 8))(hh:h.length=32)(w:World):Calls prog 108 #[.agg (h.map jM).toArray] w fun e w'=>e= .returned (.int .u64 ((nM h:Nat):Int))/\Le w w':=by
 refine enter func108 rfl rfl ?_
 have f:=Le.refl w
 refine Sr (W.ef rfl rfl rfl (Ef.iM rfl fun b c s i d=>?_))
 have t:=f.trans d
 refine Wn 1 rfl (Nx (Sr (Wn 1 rfl (Nx (Sq (Sr (Wn 1 rfl (Nx (WC.block (WC.loop (ι:=Nat) (fun k=>[(1,.pointer (some ⟨b,0,none⟩)),(3,.int .u64 ((iW 0 (h.take k):Nat):Int)),(4,.int .i64 (k:Int))]) (fun k wl=>k<=32/\Le c wl) (fun k=>32-k) 0 ?_ ?_ ?_))))))))))
 ·exact .of rfl
 ·exact⟨by omega,Le.refl _⟩
 rintro k wl ⟨hk,Ll⟩
 have hlt:iW 0 (h.take k)<2305843009213688668:=uD _ 0 (by decide)
 refine Sq (Sr (Wn 2 rfl (Nx (WC.cond rfl (fun j=>?_) (fun j=>?_)))))
 ·have hb:h[k]? =some (h.getD k 0):=by rw[List.getElem?_eq_getElem (by omega),List.getD_eq_getElem?_getD,List.getElem?_eq_getElem (by omega)];rfl
  have hbl:=(h.getD k 0).isLt
  refine Sn (Sq (WC.block (Sr (Wn 1 rfl (Nx (WC.block (WC.loop (ι:=Nat) (fun m=>[(1,.pointer (some ⟨b,0,none⟩)),(3,.int .u64 ((mF (iW 0 (h.take k)) ((h.getD k 0).toNat) m:Nat):Int)),(4,.int .i64 (k:Int)),(5,.int .i64 ((m:Int)-1))]) (fun m wm=>m<=8/\Le c wm) (fun m=>m) 8 ?_ ?_ ?_)))))))
  ·exact .cons rfl (.cons' rfl (int_eq (congrArg Nat.cast (Kr _ _ hlt hbl))) (.of rfl))
  ·exact⟨by omega,Ll⟩
  rintro m wm ⟨hm,Lm⟩
  have hbt:=Ud (iW 0 (h.take k)) ((h.getD k 0).toNat) m
  refine Sq (Sr (Wn 2 rfl (Nx (WC.cond rfl (fun l=>?_) (fun l=>?_)))))
  ·have u:0<m:=by omega
   have v:(h.getD k 0).toNat/2^(m-1)%2<2:=Nat.mod_lt _ (by decide)
   have x:(h.getD k 0).toNat/2^(m-1)<=(h.getD k 0).toNat:=Nat.div_le_self _ _
   refine Sn (Sq (WC.block (Sr (Wn 1 rfl (Wa (.ja k underlying27 xE rfl rfl rfl (by omega)) rfl (Wr (.fe Tg rfl (i.le Lm) (LD h (by omega))) rfl (Wr (.Pq (lY underlying5) underlying24 rfl) rfl (Wn 1 rfl (Wr (.qd (lY underlying3) underlying154 rfl (IntWalk.u64_in _ (by omega))) rfl ?_)))))))))
   refine Wa (.qW ((h.getD k 0).toNat) (m-1) ((h.getD k 0).toNat/2^(m-1)) rfl rfl rfl (by omega) (by show m-1<=64;omega) rfl) rfl ?_
   refine Wa (.J5 ((h.getD k 0).toNat/2^(m-1)) 1 ((h.getD k 0).toNat/2^(m-1)%2) rfl rfl rfl rfl (by omega) (by omega) (LH _)) rfl (Wn 1 rfl (Nx (WC.region (Wn 1 rfl (Wa (.mulN 2 (mF (iW 0 (h.take k)) ((h.getD k 0).toNat) m) (2*mF (iW 0 (h.take k)) ((h.getD k 0).toNat) m) rfl rfl rfl rfl (by omega)) rfl (Wn 1 rfl (Wa (.addN (2*mF (iW 0 (h.take k)) ((h.getD k 0).toNat) m) ((h.getD k 0).toNat/2^(m-1)%2) (2*mF (iW 0 (h.take k)) ((h.getD k 0).toNat) m+(h.getD k 0).toNat/2^(m-1)%2) rfl rfl rfl rfl (by omega)) rfl ?_)))))))
   refine Wa (.om (2*mF (iW 0 (h.take k)) ((h.getD k 0).toNat) m+(h.getD k 0).toNat/2^(m-1)%2) 2305843009213688668 ((2*mF (iW 0 (h.take k)) ((h.getD k 0).toNat) m+(h.getD k 0).toNat/2^(m-1)%2)%2305843009213688668) rfl rfl rfl rfl (by decide) rfl) rfl (Wn 1 rfl (W.nil (E.gI (E.eY (WC.region (Wn 1 rfl (Wa (.sub rfl rfl (by omega)) rfl (Wn 1 rfl (W.nil (E.again (m-1) (.cons rfl (.cons' rfl (int_eq (congrArg Nat.cast (NS _ _ m (by omega) hm))) (.cons rfl (.cons' rfl (int_eq (by omega)) (.nil _))))) ?_ ?_))))))))))
   ·exact⟨by omega,Lm⟩
   first|omega|(simp only[];omega)
  have n:m=0:=by omega
  subst n
  refine WC.exit (E.fC (E.fC (E.gW (E.gI (E.eY (WC.region (Wn 1 rfl (Wa (.add rfl rfl (by omega)) rfl (Wn 1 rfl (W.nil (E.again (k+1) (.cons rfl (.cons' rfl (int_eq (congrArg Nat.cast (by rw[yY h k 0 _ hb,QK];rfl))) (.cons rfl (.nil _)))) ?_ ?_)))))))))))
  ·exact⟨by omega,Lm⟩
  first|omega|(simp only[];omega)
 have o:k=32:=by omega
 subst o
 refine WC.exit (E.fC (E.fC (E.gW (E.eY (Sr (Wn 1 rfl (Wa (.addN (iW 0 (h.take 32)) 1 (iW 0 (h.take 32)+1) rfl rfl rfl rfl (Nat.mod_eq_of_lt (by omega))) rfl (Wn 1 rfl (Nx (Rt (E.jQ rfl rfl ?_)))))))))))
 exact⟨by rw[nM,List.take_of_length_le (by omega)],d.trans Ll⟩
end Go.Proofs.YtkaedikifgpkeaaGreatDoor

namespace Go.Proofs.YtkaedikifgpkeaaGreatDoor
open Tryz
open Go Go.Sx Go.Num Go.wM Go.fO
set_option maxRecDepth 20000
theorem uS {k:Nat}(l:List Int)(v:Int)(i:Nat)(h:i=k):(List.replicate k 0++v::l)[i]? =some v:=by
  subst h;rw[List.getElem?_append_right (by simp)];simp
theorem F3 {f:Int×Int->Int}{j:Nat}(l:List (Int×Int))(v:Int)(h:0<j)(hl:0<l.length):(List.replicate (j-1) 0++v::l.map f)[j]? =some (f (l.getD 0 (0,0))):=by
  rw[List.getElem?_append_right (by simp),List.length_replicate,show j-(j-1)=1 by omega]
  cases l with
  |nil=>simp at hl
  |cons p l=>rfl
theorem IJ (l:List Int)(v u:Int)(k:Nat):(List.replicate k 0++v::l).set k u=List.replicate k 0++u::l:=by
  rw[List.set_append_right _ _ (by simp)];simp
theorem qL (a l m r:Int):jv a l (min m r)=true↔jv a l m=true/\¬r<a:=by
  simp only[jv,decide_eq_true_eq]
  constructor
  · intro h;omega
  · intro h;omega
theorem QL {a x:Int}{xs:List fO.Edge}{j:Nat}{nx:Option (Int×Int)}{l:List (Int×Int)}(h:jh a x (xs.drop j)= .ok (nx,l))(hj:j<xs.length):nx=pY (xs.getD j eO) (l.getD 0 (0,0)).1 (l.getD 0 (0,0)).2/\(l.getD 0 (0,0)).2<=1048576:=by
  obtain⟨c,d,e,b⟩:=Be (xs.drop j) nx l h
  rw[if_neg (by rw[List.length_drop];omega),lL,Nat.add_zero]at b
  have:=(c 0 (by rw[List.length_drop];omega)).2
  exact⟨b,by omega⟩
theorem QM (a b:fO.Edge)(w:World):Calls prog 144 #[.agg (fD a).toArray,.agg (fD b).toArray] w fun r w'=>r= .returned (.bool (decide (tO a b<0)))/\Le w w':=by
 refine enter func144 rfl rfl (Sr (W.ef rfl rfl rfl (Ef.iM rfl fun l m u (n:fA m l 66 (fD a).toArray) o=>(W.ef rfl rfl rfl (Ef.iM rfl fun s t x (d:fA t s 66 (fD b).toArray) i=>?_)))))
 have e:=((Le.refl w).trans o).trans i
 refine Wn 1 rfl (Nx (Sr (Wa (.eZ iY rfl) rfl ?_)))
 have h:=(n.le i)
 refine Wr (.fe (v:= .int .i64 a.c) gM rfl h rfl) rfl (Wa (.eZ iY rfl) rfl (Wr (.fe (v:= .int .i64 b.c) gM rfl d rfl) rfl (Wn 1 rfl ?_)))
 by_cases j:a.c<b.c
 ·refine Dt j rfl rfl (Wn 6 rfl (W.fZ rfl rfl rfl rfl rfl (W.fZ rfl rfl rfl rfl rfl (W.fZ rfl rfl rfl rfl rfl (W.fZ rfl rfl rfl rfl rfl (W.fZ rfl rfl rfl rfl rfl ?_))))))
  refine Wn 3 rfl (Nx (Rt (E.fu rfl rfl ?_)))
  exact⟨rB (by unfold tO kg;rw[Bool.eq_iff_iff];simp only[decide_eq_true_eq];(split<;>(repeat' split)<;>simp_all<;>omega)),e⟩
 refine Df j rfl rfl (Wg (Any.rd (.eZ iY rfl) _) rfl (Wg (.fe (v:= .int .i64 a.c) gM rfl h rfl) rfl (Wg (Any.rd (.eZ iY rfl) _) rfl (Wg (.fe (v:= .int .i64 b.c) gM rfl d rfl) rfl (Wn 1 rfl ?_)))))
 by_cases k:a.c=b.c
 ·refine Wg (Any.rd (.dec (.move rfl) (dT k)) _) rfl (Wg (Any.rd (.eZ iX rfl) _) rfl (Wg (.fe (v:= .int .i64 a.f) gM rfl h rfl) rfl (Wg (Any.rd (.eZ iX rfl) _) rfl (Wg (.fe (v:= .int .i64 b.f) gM rfl d rfl) rfl (Wn 1 rfl ?_)))))
  refine Wg (Any.rd (.mM rfl rfl rfl) _) rfl (Wn 2 rfl (Nx (Rt (E.fu rfl rfl ?_))))
  exact⟨rB (by unfold tO kg;rw[Bool.eq_iff_iff];simp only[decide_eq_true_eq];(split<;>(repeat' split)<;>simp_all<;>omega)),e⟩
 refine Wg (Any.rd (.dec (.move rfl) (dF k)) _) rfl (Wn 5 rfl (Wg (Any.rd (.mO rfl rfl rfl) _) rfl (Wn 2 rfl (Nx (Rt (E.fu rfl rfl ?_))))))
 exact⟨rB (by unfold tO kg;rw[Bool.eq_iff_iff];simp only[decide_eq_true_eq];(split<;>(repeat' split)<;>simp_all<;>omega)),e⟩

theorem Ew {A:Option Addr}{n c:Nat}{xs:List fO.Edge}(w:World)(hV:Vec w fD 9 A n xs)(hn:n<=1000000):Calls prog 90 #[.slice A n c] w fun r w'=>r= .returned (.bool (nH xs))/\Le w w':=by
 have hl:=hV.1
 refine enter func90 rfl rfl ?_
 have x:=Le.refl w
 refine Sr (Wn 1 rfl (Nx (Sq (Sr (Wn 1 rfl (Wr (.len underlying22 rfl) rfl (Wn 1 rfl ?_)))))))
 by_cases F:((n:Nat):Int)<1
 ·refine Dt F rfl rfl (Wn 4 rfl (Nx (WC.gL rfl (Sr (Wn 1 rfl (Nx (Rt (E.eX (E.fu rfl rfl ?_)))))))))
  exact⟨rB (dF (fun hr=>by have:=hr.1;omega)).symm,x⟩
 refine Df F rfl rfl (Wn 1 rfl (Wg (.len underlying22 rfl) rfl (Wn 2 rfl (Nx ?_))))
 by_cases H:8<((n:Nat):Int)
 ·refine Cy rfl (dT H) (Sr (Wn 1 rfl (Nx (Rt (E.eX (E.fu rfl rfl ?_))))))
  exact⟨rB (dF (fun hr=>by have:=hr.1;omega)).symm,x⟩
 refine Cn rfl (dF H) (Sn (Sq (Sr (Wn 1 rfl (Nx (WC.block (WC.loop (ι:=Nat) (fun k=>[(0,.slice A n c),(3,.int .i64 ((k:Nat):Int))]) (fun k d=>(k<=n)/\(∀j,j<k->vI xs j)/\Le w d/\w.heap.size<=d.heap.size) (fun k=>n-k) 0 ?_ ?_ ?_)))))))
 ·exact .of rfl
 ·exact⟨Nat.zero_le _,fun j hj=>absurd hj (Nat.not_lt_zero _),x,Nat.le_refl _⟩
 rintro k d ⟨hk,hz,I,Q⟩
 refine Sq (Sr (Wn 2 rfl (Wr (.len underlying22 rfl) rfl (Wn 1 rfl (Nx ?_)))))
 by_cases J:((k:Nat):Int)<((n:Nat):Int)
 ·refine Cy rfl (dT J) (Sn (Sq (WC.block (WC.cut (ι:=Unit) (fun _u=>[(0,.slice A n c),(3,.int .i64 ((k:Nat):Int))]) (fun _u e=>((edgeOk (xs.getD k eO))=true)/\(((0<((k:Nat):Int))/\¬(((xs.getD k eO).f)≠((xs.getD (k-1) eO).t)))\/(¬(0<((k:Nat):Int))))/\Le w e/\d.heap.size<=e.heap.size) ?_ ?_))))
  ·refine Sq (WC.draw [0,1,2,3,4,5,6,7,8,9,10,11,12,13,14,15,16,17,18,19,20,21,22,23] mixed (by kernel_rfl) fun R y=>?_)
   have K:=I.trans y
   refine Gn 2 rfl (Ga rfl (.fV k underlying22 iI rfl rfl (hV.isSome eQ (by omega)) rfl (by omega)) (Gd rfl (.j5 iJ rfl (hV.le K) eQ (gD xs eO (by omega))) (G.ef rfl rfl rfl rfl rfl (Ef.call Vs rfl rfl (Cf (xs.getD k eO) R) ?_))))
   rintro _ U ⟨rfl,l⟩
   refine⟨_,rfl,?_⟩
   refine⟨fun _=>l,?_⟩
   have b:=K.trans l
   refine Gn 1 rfl ?_
   by_cases m:(edgeOk (xs.getD k eO))=true
   ·refine Ga rfl (.dec (.move rfl) (congrArg not m)) (Gn 2 rfl ?_)
    by_cases s:0<((k:Nat):Int)
    ·refine jN rfl (.dec (.move rfl) (dT s)) (Gn 2 rfl (jN rfl (.fV k underlying22 iI rfl rfl (hV.isSome eQ (by omega)) rfl (by omega)) (jN rfl (.gH iX (hV.isSome eQ (by omega)) rfl) (pz rfl (.ik (j:=k) (o:=0) (v:= .int .i64 ((xs.getD k eO).f)) gM rfl (hV.le b) eQ (gD xs eO (by omega)) rfl) (Gn 2 rfl ?_)))))
     refine jN rfl (.sub rfl rfl (by omega)) (jN rfl (.fV (k-1) underlying22 iI rfl rfl (hV.isSome eQ (by omega)) (by omega) (by omega)) (jN rfl (.gH jK (hV.isSome eQ (by omega)) rfl) (pz rfl (.ik (j:=(k-1)) (o:=1) (v:= .int .i64 ((xs.getD (k-1) eO).t)) gM rfl (hV.le b) eQ (gD xs eO (by omega)) rfl) (Gn 1 rfl (jN rfl (.mM rfl rfl rfl) ?_)))))
     refine Gn 1 rfl (G.nil (E.eY ?_))
     by_cases z:((xs.getD k eO).f)≠((xs.getD (k-1) eO).t)
     ·refine Cy rfl (dT z) (Sr (Wn 1 rfl (Nx (Rt (E.eX (E.gT (E.eX (E.eX (E.gT (E.eX (E.fu rfl rfl ?_)))))))))))
      exact⟨rB (dF (fun hr=>by have hr:=hr.2 k (by omega);first|exact absurd hr.1 (by assumption)|exact hr.2.2 i (by omega) (by assumption)|(have:=hr.2.1;omega))).symm,b⟩
     refine Cn rfl (dF z) (WC.skip (E.meet () (.of rfl) ?_))
     exact⟨m,Or.inl ⟨s,z⟩,b,by have:=y.size;have:=l.size;omega⟩
    refine jN rfl (.dec (.move rfl) (dF s)) (Gn 12 rfl (jN rfl (.mO rfl rfl rfl) (Gn 1 rfl (G.nil (E.eY (WC.iD rfl (WC.skip (E.meet () (.of rfl) ?_))))))))
    exact⟨m,Or.inr s,b,by have:=y.size;have:=l.size;omega⟩
   refine Ga rfl (.dec (.move rfl) (congrArg not (Bool.eq_false_iff.2 m))) (Gn 3 rfl (G.fZ rfl rfl rfl rfl rfl rfl (G.fZ rfl rfl rfl rfl rfl rfl (G.fZ rfl rfl rfl rfl rfl rfl (G.fZ rfl rfl rfl rfl rfl rfl ?_)))))
   refine G.fZ rfl rfl rfl rfl rfl rfl (G.fZ rfl rfl rfl rfl rfl rfl (G.fZ rfl rfl rfl rfl rfl rfl (G.fZ rfl rfl rfl rfl rfl rfl (G.fZ rfl rfl rfl rfl rfl rfl (G.fZ rfl rfl rfl rfl rfl rfl ?_)))))
   refine G.fZ rfl rfl rfl rfl rfl rfl (G.fZ rfl rfl rfl rfl rfl rfl (Gn 2 rfl (G.nil (E.eY (WC.gL rfl (Sr (Wn 1 rfl (Nx (Rt (E.eX (E.gT (E.eX (E.eX (E.gT (E.eX (E.fu rfl rfl ?_))))))))))))))))
   exact⟨rB (dF (fun hr=>by have hr:=hr.2 k (by omega);first|exact absurd hr.1 (by assumption)|exact hr.2.2 i (by omega) (by assumption)|(have:=hr.2.1;omega))).symm,b⟩
  rintro _u e ⟨V,X,S,T⟩
  refine Sr (Wn 1 rfl (Nx (WC.block (WC.loop (ι:=Nat) (fun i=>[(0,.slice A n c),(3,.int .i64 ((k:Nat):Int)),(4,.int .i64 ((i:Nat):Int))]) (fun i C=>(i<=k+1)/\(∀q,q<i->(xs.getD q eO).f≠(xs.getD k eO).t)/\Le w C/\e.heap.size<=C.heap.size) (fun i=>k+1-i) 0 ?_ ?_ ?_))))
  ·exact .of rfl
  ·exact⟨Nat.zero_le _,fun j hj=>absurd hj (Nat.not_lt_zero _),S,Nat.le_refl _⟩
  rintro i C ⟨hi,hy,L,N⟩
  refine Sq (Sr (Wn 3 rfl (Nx ?_)))
  by_cases O:((i:Nat):Int)<=((k:Nat):Int)
  ·refine Cy rfl (dT O) (Sn (Sq (WC.block (Sq (WC.draw [0,1,2,3,4,5,6,7,8,9,10] mixed (by kernel_rfl) fun Y P=>?_)))))
   have u:=L.trans P
   refine Gn 2 rfl (Ga rfl (.fV i underlying22 iI rfl rfl (hV.isSome eQ (by omega)) rfl (by omega)) (Ga rfl (.gH iX (hV.isSome eQ (by omega)) rfl) (Gd rfl (.ik (j:=i) (o:=0) (v:= .int .i64 ((xs.getD i eO).f)) gM rfl (hV.le u) eQ (gD xs eO (by omega)) rfl) (Gn 2 rfl (Ga rfl (.fV k underlying22 iI rfl rfl (hV.isSome eQ (by omega)) rfl (by omega)) ?_)))))
   refine Ga rfl (.gH jK (hV.isSome eQ (by omega)) rfl) (Gd rfl (.ik (j:=k) (o:=1) (v:= .int .i64 ((xs.getD k eO).t)) gM rfl (hV.le u) eQ (gD xs eO (by omega)) rfl) (Gn 1 rfl (G.nil (E.eY ?_))))
   by_cases D:((xs.getD i eO).f)=((xs.getD k eO).t)
   ·refine Cy rfl (dT D) (Sr (Wn 1 rfl (Nx (Rt (E.gT (E.eX (E.eX (E.gT (E.gT (E.eX (E.eX (E.gT (E.eX (E.fu rfl rfl ?_))))))))))))))
    exact⟨rB (dF (fun hr=>by have hr:=hr.2 k (by omega);first|exact absurd hr.1 (by assumption)|exact hr.2.2 i (by omega) (by assumption)|(have:=hr.2.1;omega))).symm,u⟩
   refine Cn rfl (dF D) (WC.skip (E.gI (E.eY (WC.region (Wn 1 rfl (Wa (.add rfl rfl (by omega)) rfl (Wn 1 rfl (W.nil (E.again (i+1) (.of rfl) ?_ ?_)))))))))
   ·exact⟨by omega,fun j hj=>by rcases Nat.lt_or_ge j i with h|h;exact hy j h;rw[show j=i by omega];exact D,u,by have:=N;have:=P.size;omega⟩
   first|omega|(simp only[];omega)
  refine Cn rfl (dF O) (WC.exit (E.fC (E.fC (E.gW (E.gI (E.eY (WC.region (Wn 1 rfl (Wa (.add rfl rfl (by omega)) rfl (Wn 1 rfl (W.nil (E.again (k+1) (.of rfl) ?_ ?_))))))))))))
  ·exact⟨by omega,fun j hj=>by rcases Nat.lt_or_ge j k with h|h;exact hz j h;rw[show j=k by omega];exact⟨by assumption,fun Z=>by omega,fun q hq=>hy q (by omega)⟩,L,by have:=Q;have:=N;have:=T;omega⟩
  first|omega|(simp only[];omega)
 refine Cn rfl (dF J) (WC.exit (E.fC (E.fC (E.gW (E.eY (Sr (Wn 1 rfl (Nx (Rt (E.fu rfl rfl ?_))))))))))
 exact⟨rB (dT ⟨by omega,fun j hj=>hz j (by omega)⟩).symm,I⟩

set_option maxHeartbeats 1000000 in
theorem IK (a x:Int) {A:Option Addr} {n c:Nat} {xs:List fO.Edge} (w:World) (hV:Vec w fD 9 A n xs) (hn:n<=1000000):Calls prog 41 #[.slice A n c,.int .i64 a,.int .i64 (x)] w fun r w'=>∃A1 c1 A2 c2,r= .returned (.tuple #[.slice A1 (fq xs a x).1.length c1,.slice A2 (fq xs a x).2.1.length c2,.int .i64 (fq xs a x).2.2])/\eU w' w.heap.size 3 iv 1 A1 (fq xs a x).1.length c1 (fq xs a x).1/\eU w' w.heap.size 3 iv 1 A2 (fq xs a x).2.1.length c2 (fq xs a x).2.1/\Le w w':=by
 have hl:=hV.1
 refine enter func41 rfl rfl ?_
 have L0:=Le.refl w
 refine Sr (Wn 3 rfl (Nx (Sq (Sr (Wn 1 rfl (W.cl YC rfl rfl (Ew w (hV.le L0) (by omega)) ?_))))))
 rintro _ aE ⟨rfl,aF⟩
 have L1:=L0.trans aF
 refine Wn 1 rfl (Nx ?_)
 by_cases c0:(nH xs)=true
 ·refine Cn rfl (congrArg not c0) (Sn (Sq (Sr (Wn 1 rfl (W.cl Ih rfl rfl (oH a 1 1125899906842624 aE) ?_)))))
  rintro _ aG ⟨rfl,aH⟩
  have L2:=L1.trans aH
  refine Wn 1 rfl ?_
  by_cases ai:(jv a 1 1125899906842624)=true
  ·refine Wa (.dec (.move rfl) (congrArg not ai)) rfl (Wn 1 rfl (W.mW rfl rfl rfl rfl rfl rfl (Ef.call Ih rfl rfl (oH x 1 1048576 aG) ?_)))
   rintro _ aj ⟨rfl,aI⟩
   refine⟨_,rfl,?_⟩
   have y:=L2.trans aI
   refine Wn 2 rfl (Nx ?_)
   by_cases c1:(jv x 1 1048576)=true
   ·refine Cn rfl (congrArg not c1) ?_
    have hwG:nH xs=true:=by assumption
    have hwl:=kZ hwG
    have aV:=jD (by assumption:jv a 1 1125899906842624=true)
    have aW:=jD (by assumption:jv x 1 1048576=true)
    refine Sn (Sr (Wn 1 rfl (Wr (.len underlying22 rfl) rfl (Wn 1 rfl (Nx (Sr (Wn 1 rfl (W.ef rfl rfl rfl (Ef.rA 0 n underlying47 Gx fT rfl rfl rfl rfl rfl (by omega) (by unfold maxLen;omega) ?_)))))))))
    intro V ak aX e al
    have N:=y.trans al
    refine Wn 1 rfl (Nx (Sr (Wn 1 rfl (W.ef rfl rfl rfl (Ef.rA 0 n underlying47 Gx fT rfl rfl rfl rfl rfl (by omega) (by unfold maxLen;omega) ?_)))))
    intro X aJ aY u O
    refine Wn 1 rfl (Nx (Sq (Sr (Wn 1 rfl (Wa (.sub rfl rfl (by omega)) rfl (Wn 1 rfl (Nx (WC.block ?_))))))))
    refine WC.loop (ι:=Nat×(Option (Int×Int))×(List (Int×Int))) (fun⟨j,nx,l⟩=>[(0,.slice A n c),(1,.int .i64 a),(2,.int .i64 x),(9,.int .i64 ((n:Nat):Int)),(10,.slice (some ⟨V,0,none⟩) n n),(11,.slice (some ⟨X,0,none⟩) n n),(12,.int .i64 (((j:Nat):Int)-1))]) (fun⟨j,nx,l⟩ t=>(j<=n)/\(l.length=n-j)/\(jh a x (xs.drop j)= .ok (nx,l))/\(j<n->0<=(l.getD 0 (0,0)).2)/\Le w t/\aJ.heap.size<=t.heap.size/\eU t aj.heap.size 3 iv 1 (some ⟨V,0,none⟩) n n (List.replicate j 0++l.map Prod.fst)/\eU t ak.heap.size 3 iv 1 (some ⟨X,0,none⟩) n n (List.replicate j 0++l.map Prod.snd)) (fun⟨j,nx,l⟩=>j) (n,some (a,x),[]) ?_ ?_ ?_
    ·exact .of rfl
    ·exact⟨Nat.le_refl _,by simp,by rw[List.drop_of_length_le (by omega)];rfl,fun h=>absurd h (Nat.lt_irrefl _),(N.trans O),Nat.le_refl _,(e.le O).cast rfl (by simp),(u).cast rfl (by simp)⟩
    rintro⟨j,nx,l⟩ t ⟨hj,hll,hF,aK,am,an,Y,Z⟩
    have aZ:aj.heap.size<=t.heap.size:=by have:=al.size;have:=O.size;omega
    have a0:ak.heap.size<=t.heap.size:=by have:=O.size;omega
    refine Sq (Sr (Wn 2 rfl (Nx ?_)))
    by_cases c2:0<=(((j:Nat):Int)-1)
    ·refine Cy rfl (dT c2) (Sn (Sq (WC.block (Sr (Wn 3 rfl (Wa (.fV (j-1) underlying47 kR rfl rfl (e.vec.isSome fT (by omega)) (by omega) (by omega)) rfl (W.iO rfl rfl (Ef.vE (j:=(j-1)) (o:=0) a kR rfl (by omega) rfl Y fT (gD (List.replicate j 0++l.map Prod.fst) 0 (by simp;omega)) (by decide) rfl rfl ?_))))))))
     intro a1 aL P
     have o8:=aL.cast (m':=n) (ys:=(List.replicate (j-1) 0++a::l.map Prod.fst)) rfl (Af _ _ _ (by omega))
     refine Nx (Sr (Wn 3 rfl (Wa (.fV (j-1) underlying47 kR rfl rfl (u.vec.isSome fT (by omega)) (by omega) (by omega)) rfl ?_)))
     have Q:=(Z.ch P (fun q k b=>by have:=(e.row k).2;have:=(Z.row b).1;omega))
     refine W.iO rfl rfl (Ef.vE (j:=(j-1)) (o:=0) x kR rfl (by omega) rfl Q fT (gD (List.replicate j 0++l.map Prod.snd) 0 (by simp;omega)) (by decide) rfl rfl ?_)
     intro a2 aM z
     have ao:=(am.gG P (fun q hq=>Nat.le_trans y.size (Y.row hq).1)).gG z (fun q hq=>Nat.le_trans N.size (Q.row hq).1)
     have aa:=aM.cast (m':=n) (ys:=(List.replicate (j-1) 0++x::l.map Prod.snd)) rfl (Af _ _ _ (by omega))
     refine Nx (Sq (Sr (Wn 2 rfl (Wa (.sub rfl rfl (by omega)) rfl (Wn 1 rfl (Nx ?_))))))
     by_cases c3:(((j:Nat):Int)-1)<(((n:Nat):Int)-1)
     ·refine Cy rfl (dT c3) ?_
      have hok:=lK (nN hwG (i:=j) (by omega)).1
      have hpk:=Ac hok.2.2.2.2.2
      have hpI:=Lj hok.2.2.2.2.2
      have hnx:=QL hF (by omega)
      have abK:=aK (by omega)
      refine Sq (WC.draw [0,1,2,3,4,5,6,7,8,9,10,11,12,13,14,15,16] mixed (by kernel_rfl) fun aO R=>?_)
      have ap:=ao.trans R
      refine Gn 2 rfl (Ga rfl (.add rfl rfl (by omega)) (Ga rfl (.fV j underlying22 iI rfl rfl (hV.isSome eQ (by omega)) (by omega) (by omega)) (Ga rfl (.gH oo (hV.isSome eQ (by omega)) rfl) (Gd rfl (.XO (j:=j) (o:=4) (nI ((xs.getD j eO).jF)) Ib rfl (by decide) rfl (hV.le ap) eQ (gD xs eO (by omega)) rfl) (Gn 2 rfl ?_)))))
      refine Ga rfl (.add rfl rfl (by omega)) (Ga rfl (.fV j underlying47 kR rfl rfl (e.vec.isSome fT (by omega)) (by omega) (by omega)) ?_)
      have aq:=((o8.ch z (Apart.symm (fun q k b=>by have:=(e.row k).2;have:=(Q.row b).1;omega))).le R)
      refine Gd rfl (.jB (v:= .int .i64 ((l.getD 0 (0,0)).1)) gM rfl aq.vec fT (F3 (f:=Prod.fst) l _ (by omega) (by omega)) rfl) (G.ef rfl rfl rfl rfl rfl (Ef.call abf rfl rfl (NR ((xs.getD j eO).jF) ((l.getD 0 (0,0)).1) hpI aO) ?_))
      rintro _ aP ⟨rfl,C⟩
      refine⟨_,rfl,?_⟩
      refine⟨fun _=>C,?_⟩
      refine Gn 5 rfl (G.nil (E.eY (Sr (Wn 2 rfl (Wa (.add rfl rfl (by omega)) rfl (Wa (.fV j underlying47 kR rfl rfl (e.vec.isSome fT (by omega)) (by omega) (by omega)) rfl ?_))))))
      have ar:=(aq.le C)
      refine Wr (.jB (v:= .int .i64 ((l.getD 0 (0,0)).1)) gM rfl ar.vec fT (F3 (f:=Prod.fst) l _ (by omega) (by omega)) rfl) rfl (Wn 1 rfl (W.cl YD rfl rfl (Mw ((l.getD 0 (0,0)).1) ((jf ((xs.getD j eO).jF) ((l.getD 0 (0,0)).1)).1) aP) ?_))
      rintro _ a3 ⟨rfl,S⟩
      have ab:=(ap.trans C).trans S
      refine Wn 5 rfl (Nx (Sq (Sr (Wn 2 rfl ?_))))
      by_cases au:((jf ((xs.getD j eO).jF) ((l.getD 0 (0,0)).1)).2)=true
      ·refine Wa (.dec (.move rfl) (congrArg not au)) rfl (Wn 3 rfl (Nx ?_))
       by_cases c4:((jV ((l.getD 0 (0,0)).1) ((jf ((xs.getD j eO).jF) ((l.getD 0 (0,0)).1)).1)).2)=true
       ·refine Cn rfl (congrArg not c4) ?_
        have hsome:nx=some ((jV (l.getD 0 (0,0)).1 (jf (xs.getD j eO).jF (l.getD 0 (0,0)).1).1).1,((l.getD 0 (0,0)).2+(xs.getD j eO).jF.d)):=by rw[hnx.1];exact vW (by assumption) (by assumption)
        refine Sn (Sr (Wn 3 rfl (Wa (.fV (j-1) underlying47 kR rfl rfl (e.vec.isSome fT (by omega)) (by omega) (by omega)) rfl ?_)))
        have av:=(ar.le S)
        refine W.iO rfl rfl (Ef.vE (j:=(j-1)) (o:=0) ((jV ((l.getD 0 (0,0)).1) ((jf ((xs.getD j eO).jF) ((l.getD 0 (0,0)).1)).1)).1) kR rfl (by omega) rfl av fT (gD (List.replicate (j-1) 0++a::l.map Prod.fst) 0 (by simp)) (by decide) rfl rfl ?_)
        intro a4 aQ ac
        have aR:=aQ.cast (m':=n) (ys:=(List.replicate (j-1) 0++(jV (l.getD 0 (0,0)).1 (jf (xs.getD j eO).jF (l.getD 0 (0,0)).1).1).1::l.map Prod.fst)) rfl (IJ _ _ _ _)
        refine Nx (WC.draw [0,1,2,3,4,5,6,7,8,9,10,11,12,13,14,15,16] mixed (by kernel_rfl) fun a5 T=>?_)
        have aw:=(ab.gG ac (fun q hq=>Nat.le_trans y.size (av.row hq).1)).trans T
        refine Gn 4 rfl (Ga rfl (.add rfl rfl (by omega)) (Ga rfl (.fV j underlying47 kR rfl rfl (u.vec.isSome fT (by omega)) (by omega) (by omega)) ?_))
        have U:=(((aa.le (R.trans (C.trans S))).ch ac (fun q k b=>by have:=(e.row k).2;have:=(aa.row b).1;omega)).le T)
        refine Gd rfl (.jB (v:= .int .i64 ((l.getD 0 (0,0)).2)) gM rfl U.vec fT (F3 (f:=Prod.snd) l _ (by omega) (by omega)) rfl) (Gn 2 rfl (Ga rfl (.add rfl rfl (by omega)) (Ga rfl (.fV j underlying22 iI rfl rfl (hV.isSome eQ (by omega)) (by omega) (by omega)) (Ga rfl (.gH oo (hV.isSome eQ (by omega)) rfl) (Ga rfl (.gH BS (hV.isSome eQ (by omega)) rfl) ?_)))))
        refine Gd rfl (.ik (j:=j) (o:=6) (v:= .int .i64 ((xs.getD j eO).jF.d)) gM rfl (hV.le aw) eQ (gD xs eO (by omega)) rfl) (Ga rfl (.add rfl rfl (by omega)) (Ga rfl (.fV (j-1) underlying47 kR rfl rfl (u.vec.isSome fT (by omega)) (by omega) (by omega)) (G.iO rfl rfl rfl rfl (Ef.vE (j:=(j-1)) (o:=0) (((l.getD 0 (0,0)).2)+((xs.getD j eO).jF.d)) kR rfl (by omega) rfl U fT (gD (List.replicate (j-1) 0++x::l.map Prod.snd) 0 (by simp)) (by decide) rfl rfl ?_))))
        intro a6 aS ad
        refine noT (by kernel_rfl) ?_
        have aT:=aS.cast (m':=n) (ys:=(List.replicate (j-1) 0++((l.getD 0 (0,0)).2+(xs.getD j eO).jF.d)::l.map Prod.snd)) rfl (IJ _ _ _ _)
        refine G.nil (E.eY (Sq (Sq (WC.draw [0,1,2,3,4,5,6,7,8,9,10,11,12,13,14,15,16,17,18,19,20,21,22,23,24,25,26,27,28,29] mixed (by kernel_rfl) fun ae s=>?_))))
        have af:=(aw.gG ad (fun q hq=>Nat.le_trans N.size (U.row hq).1)).trans s
        refine Gn 2 rfl (Ga rfl (.fV (j-1) underlying47 kR rfl rfl (e.vec.isSome fT (by omega)) (by omega) (by omega)) ?_)
        have ax:=(((aR.le T).ch ad (Apart.symm (fun q k b=>by have:=(e.row k).2;have:=(U.row b).1;omega))).le s)
        refine Gd rfl (.jB (v:= .int .i64 ((jV (l.getD 0 (0,0)).1 (jf (xs.getD j eO).jF (l.getD 0 (0,0)).1).1).1)) gM rfl ax.vec fT (uS _ _ _ rfl) rfl) (Gn 2 rfl (Ga rfl (.fV (j-1) underlying22 iI rfl rfl (hV.isSome eQ (by omega)) (by omega) (by omega)) (Ga rfl (.gH oo (hV.isSome eQ (by omega)) rfl) (Ga rfl (.gH yA (hV.isSome eQ (by omega)) rfl) (Gd rfl (.ik (j:=(j-1)) (o:=7) (v:= .int .i64 ((xs.getD (j-1) eO).jF.l)) gM rfl (hV.le af) eQ (gD xs eO (by omega)) rfl) ?_)))))
        refine Gn 2 rfl (Ga rfl (.fV (j-1) underlying22 iI rfl rfl (hV.isSome eQ (by omega)) (by omega) (by omega)) (Ga rfl (.gH oo (hV.isSome eQ (by omega)) rfl) (Ga rfl (.gH yB (hV.isSome eQ (by omega)) rfl) (Gd rfl (.ik (j:=(j-1)) (o:=8) (v:= .int .i64 ((xs.getD (j-1) eO).jF.m)) gM rfl (hV.le af) eQ (gD xs eO (by omega)) rfl) (G.ef rfl rfl rfl rfl rfl ?_)))))
        refine Ef.call Ih rfl rfl (oH ((jV (l.getD 0 (0,0)).1 (jf (xs.getD j eO).jF (l.getD 0 (0,0)).1).1).1) ((xs.getD (j-1) eO).jF.l) ((xs.getD (j-1) eO).jF.m) ae) ?_
        rintro _ a7 ⟨rfl,D⟩
        refine⟨_,rfl,?_⟩
        refine⟨fun _=>D,?_⟩
        have F:=af.trans D
        refine Gn 1 rfl ?_
        by_cases H:(jv ((jV (l.getD 0 (0,0)).1 (jf (xs.getD j eO).jF (l.getD 0 (0,0)).1).1).1) ((xs.getD (j-1) eO).jF.l) ((xs.getD (j-1) eO).jF.m))=true
        ·refine Ga rfl (.dec (.move rfl) (congrArg not H)) (Gn 2 rfl (jN rfl (.fV (j-1) underlying47 kR rfl rfl (e.vec.isSome fT (by omega)) (by omega) (by omega)) ?_))
         have ay:=(ax.le D)
         refine pz rfl (.jB (v:= .int .i64 ((jV (l.getD 0 (0,0)).1 (jf (xs.getD j eO).jF (l.getD 0 (0,0)).1).1).1)) gM rfl ay.vec fT (uS _ _ _ rfl) rfl) (Gn 2 rfl (jN rfl (.fV (j-1) underlying22 iI rfl rfl (hV.isSome eQ (by omega)) (by omega) (by omega)) (jN rfl (.gH iF (hV.isSome eQ (by omega)) rfl) (pz rfl (.ik (j:=(j-1)) (o:=3) (v:= .int .i64 ((xs.getD (j-1) eO).r)) gM rfl (hV.le F) eQ (gD xs eO (by omega)) rfl) (Gn 2 rfl (G.nil (E.eY ?_)))))))
         by_cases I:((xs.getD (j-1) eO).r)<((jV (l.getD 0 (0,0)).1 (jf (xs.getD j eO).jF (l.getD 0 (0,0)).1).1).1)
         ·refine Cy rfl (dT I) (Sr (Wn 3 rfl (Nx (Rt (E.eX (E.gT (E.eX (E.eX (E.gT (E.eX (E.gU rfl rfl rfl rfl ?_)))))))))))
          have hc:fq xs a x=([],[],6):=kF (by assumption) (by assumption) (by assumption) (nZ (by omega) (by omega) (hsome▸hF) (fun h=>by have b:=(qL _ _ _ _).1 h;first|exact absurd b.1 (by assumption)|exact b.2 (by assumption)))
          exact⟨none,0,none,0,by rw[hc];rfl,by rw[hc];exact eU.nil _ _ _ _ _ _,by rw[hc];exact eU.nil _ _ _ _ _ _,F⟩
         refine Cn rfl (dF I) (Sn (Sr (Wn 2 rfl (Wa (.fV (j-1) underlying47 kR rfl rfl (u.vec.isSome fT (by omega)) (by omega) (by omega)) rfl ?_))))
         have az:=(aT.le (s.trans D))
         refine Wr (.jB (v:= .int .i64 ((l.getD 0 (0,0)).2+(xs.getD j eO).jF.d)) gM rfl az.vec fT (uS _ _ _ rfl) rfl) rfl (Wn 1 rfl (Nx ?_))
         by_cases J:1048576<((l.getD 0 (0,0)).2+(xs.getD j eO).jF.d)
         ·refine Cy rfl (dT J) (Sr (Wn 3 rfl (Nx (Rt (E.gT (E.eX (E.eX (E.gT (E.eX (E.gU rfl rfl rfl rfl ?_))))))))))
          have hc:fq xs a x=([],[],16):=kF (by assumption) (by assumption) (by assumption) (vV (by omega) (by omega) (hsome▸hF) ((qL _ _ _ _).2 ⟨by assumption,by assumption⟩) (by omega))
          exact⟨none,0,none,0,by rw[hc];rfl,by rw[hc];exact eU.nil _ _ _ _ _ _,by rw[hc];exact eU.nil _ _ _ _ _ _,F⟩
         refine Cn rfl (dF J) (WC.skip (E.gI (E.eY (WC.region (Wn 1 rfl (Wa (.sub rfl rfl (by omega)) rfl (Wn 1 rfl (W.nil (E.again (j-1,pY (xs.getD (j-1) eO) (jV (l.getD 0 (0,0)).1 (jf (xs.getD j eO).jF (l.getD 0 (0,0)).1).1).1 ((l.getD 0 (0,0)).2+(xs.getD j eO).jF.d),((jV (l.getD 0 (0,0)).1 (jf (xs.getD j eO).jF (l.getD 0 (0,0)).1).1).1,((l.getD 0 (0,0)).2+(xs.getD j eO).jF.d))::l) (.cons rfl (.cons rfl (.cons rfl (.cons rfl (.cons rfl (.cons rfl (.cons' rfl (int_eq (by omega)) (.nil _)))))))) ?_ ?_)))))))))
         ·exact⟨by omega,by simp;omega,mZ (by omega) (by omega) (hsome▸hF) ((qL _ _ _ _).2 ⟨by assumption,by assumption⟩) (by omega),fun _=>by show 0<=((l.getD 0 (0,0)).2+(xs.getD j eO).jF.d);omega,F,by have:=an;have:=P.size;have:=z.size;have:=R.size;have:=C.size;have:=S.size;have:=ac.size;have:=T.size;have:=ad.size;have:=s.size;have:=D.size;omega,ay,az⟩
         show j-1<j;omega
        refine Ga rfl (.dec (.move rfl) (congrArg not (Bool.eq_false_iff.2 H))) (Gn 11 rfl (G.nil (E.eY (WC.gL rfl (Sr (Wn 3 rfl (Nx (Rt (E.eX (E.gT (E.eX (E.eX (E.gT (E.eX (E.gU rfl rfl rfl rfl ?_)))))))))))))))
        have hc:fq xs a x=([],[],6):=kF (by assumption) (by assumption) (by assumption) (nZ (by omega) (by omega) (hsome▸hF) (fun h=>by have b:=(qL _ _ _ _).1 h;first|exact absurd b.1 (by assumption)|exact b.2 (by assumption)))
        exact⟨none,0,none,0,by rw[hc];rfl,by rw[hc];exact eU.nil _ _ _ _ _ _,by rw[hc];exact eU.nil _ _ _ _ _ _,F⟩
       refine Cy rfl (congrArg not (Bool.eq_false_iff.2 c4)) (Sr (Wn 3 rfl (Nx (Rt (E.eX (E.eX (E.gT (E.eX (E.eX (E.gT (E.eX (E.gU rfl rfl rfl rfl ?_))))))))))))
       have hc:fq xs a x=([],[],6):=kF (by assumption) (by assumption) (by assumption) (p9 (j:=j) (by omega) (by omega) (by rw[hF,hnx.1,qa (by first|exact .inl (by assumption)|exact .inr (by assumption))]))
       exact⟨none,0,none,0,by rw[hc];rfl,by rw[hc];exact eU.nil _ _ _ _ _ _,by rw[hc];exact eU.nil _ _ _ _ _ _,ab⟩
      refine Wa (.dec (.move rfl) (congrArg not (Bool.eq_false_iff.2 au))) rfl (Wn 3 rfl (Nx (WC.gL rfl (Sr (Wn 3 rfl (Nx (Rt (E.eX (E.eX (E.gT (E.eX (E.eX (E.gT (E.eX (E.gU rfl rfl rfl rfl ?_)))))))))))))))
      have hc:fq xs a x=([],[],6):=kF (by assumption) (by assumption) (by assumption) (p9 (j:=j) (by omega) (by omega) (by rw[hF,hnx.1,qa (by first|exact .inl (by assumption)|exact .inr (by assumption))]))
      exact⟨none,0,none,0,by rw[hc];rfl,by rw[hc];exact eU.nil _ _ _ _ _ _,by rw[hc];exact eU.nil _ _ _ _ _ _,ab⟩
     refine Cn rfl (dF c3) ?_
     have a8:l=[]:=List.eq_nil_of_length_eq_zero (by omega)
     have hsome:nx=some (a,x):=by rw[show j=n by omega,List.drop_of_length_le (by omega)]at hF;simp[jh]at hF;exact hF.1.symm
     refine Sn (Sq (Sq (WC.draw [0,1,2,3,4,5,6,7,8,9,10,11,12,13,14,15,16,17,18,19,20,21,22,23,24,25,26,27,28,29] mixed (by kernel_rfl) fun ae s=>?_)))
     have ah:=ao.trans s
     refine Gn 2 rfl (Ga rfl (.fV (j-1) underlying47 kR rfl rfl (e.vec.isSome fT (by omega)) (by omega) (by omega)) ?_)
     have aA:=((o8.ch z (Apart.symm (fun q k b=>by have:=(e.row k).2;have:=(Q.row b).1;omega))).le s)
     refine Gd rfl (.jB (v:= .int .i64 a) gM rfl aA.vec fT (uS _ _ _ rfl) rfl) (Gn 2 rfl (Ga rfl (.fV (j-1) underlying22 iI rfl rfl (hV.isSome eQ (by omega)) (by omega) (by omega)) (Ga rfl (.gH oo (hV.isSome eQ (by omega)) rfl) (Ga rfl (.gH yA (hV.isSome eQ (by omega)) rfl) (Gd rfl (.ik (j:=(j-1)) (o:=7) (v:= .int .i64 ((xs.getD (j-1) eO).jF.l)) gM rfl (hV.le ah) eQ (gD xs eO (by omega)) rfl) ?_)))))
     refine Gn 2 rfl (Ga rfl (.fV (j-1) underlying22 iI rfl rfl (hV.isSome eQ (by omega)) (by omega) (by omega)) (Ga rfl (.gH oo (hV.isSome eQ (by omega)) rfl) (Ga rfl (.gH yB (hV.isSome eQ (by omega)) rfl) (Gd rfl (.ik (j:=(j-1)) (o:=8) (v:= .int .i64 ((xs.getD (j-1) eO).jF.m)) gM rfl (hV.le ah) eQ (gD xs eO (by omega)) rfl) (G.ef rfl rfl rfl rfl rfl ?_)))))
     refine Ef.call Ih rfl rfl (oH a ((xs.getD (j-1) eO).jF.l) ((xs.getD (j-1) eO).jF.m) ae) ?_
     rintro _ a9 ⟨rfl,K⟩
     refine⟨_,rfl,?_⟩
     refine⟨fun _=>K,?_⟩
     have L:=ah.trans K
     refine Gn 1 rfl ?_
     by_cases H:(jv a ((xs.getD (j-1) eO).jF.l) ((xs.getD (j-1) eO).jF.m))=true
     ·refine Ga rfl (.dec (.move rfl) (congrArg not H)) (Gn 2 rfl (jN rfl (.fV (j-1) underlying47 kR rfl rfl (e.vec.isSome fT (by omega)) (by omega) (by omega)) ?_))
      have aB:=(aA.le K)
      refine pz rfl (.jB (v:= .int .i64 a) gM rfl aB.vec fT (uS _ _ _ rfl) rfl) (Gn 2 rfl (jN rfl (.fV (j-1) underlying22 iI rfl rfl (hV.isSome eQ (by omega)) (by omega) (by omega)) (jN rfl (.gH iF (hV.isSome eQ (by omega)) rfl) (pz rfl (.ik (j:=(j-1)) (o:=3) (v:= .int .i64 ((xs.getD (j-1) eO).r)) gM rfl (hV.le L) eQ (gD xs eO (by omega)) rfl) (Gn 2 rfl (G.nil (E.eY ?_)))))))
      by_cases I:((xs.getD (j-1) eO).r)<a
      ·refine Cy rfl (dT I) (Sr (Wn 3 rfl (Nx (Rt (E.eX (E.gT (E.eX (E.eX (E.gT (E.eX (E.gU rfl rfl rfl rfl ?_)))))))))))
       have hc:fq xs a x=([],[],6):=kF (by assumption) (by assumption) (by assumption) (nZ (by omega) (by omega) (hsome▸hF) (fun h=>by have b:=(qL _ _ _ _).1 h;first|exact absurd b.1 (by assumption)|exact b.2 (by assumption)))
       exact⟨none,0,none,0,by rw[hc];rfl,by rw[hc];exact eU.nil _ _ _ _ _ _,by rw[hc];exact eU.nil _ _ _ _ _ _,L⟩
      refine Cn rfl (dF I) (Sn (Sr (Wn 2 rfl (Wa (.fV (j-1) underlying47 kR rfl rfl (u.vec.isSome fT (by omega)) (by omega) (by omega)) rfl ?_))))
      have aC:=(aa.le (s.trans K))
      refine Wr (.jB (v:= .int .i64 x) gM rfl aC.vec fT (uS _ _ _ rfl) rfl) rfl (Wn 1 rfl (Nx ?_))
      by_cases J:1048576<x
      ·refine Cy rfl (dT J) (Sr (Wn 3 rfl (Nx (Rt (E.gT (E.eX (E.eX (E.gT (E.eX (E.gU rfl rfl rfl rfl ?_))))))))))
       have hc:fq xs a x=([],[],16):=kF (by assumption) (by assumption) (by assumption) (vV (by omega) (by omega) (hsome▸hF) ((qL _ _ _ _).2 ⟨by assumption,by assumption⟩) (by omega))
       exact⟨none,0,none,0,by rw[hc];rfl,by rw[hc];exact eU.nil _ _ _ _ _ _,by rw[hc];exact eU.nil _ _ _ _ _ _,L⟩
      refine Cn rfl (dF J) (WC.skip (E.gI (E.eY (WC.region (Wn 1 rfl (Wa (.sub rfl rfl (by omega)) rfl (Wn 1 rfl (W.nil (E.again (j-1,pY (xs.getD (j-1) eO) a x,(a,x)::l) (.cons rfl (.cons rfl (.cons rfl (.cons rfl (.cons rfl (.cons rfl (.cons' rfl (int_eq (by omega)) (.nil _)))))))) ?_ ?_)))))))))
      ·exact⟨by omega,by simp;omega,mZ (by omega) (by omega) (hsome▸hF) ((qL _ _ _ _).2 ⟨by assumption,by assumption⟩) (by omega),fun _=>by show 0<=x;omega,L,by have:=an;have:=P.size;have:=z.size;have:=s.size;have:=K.size;omega,aB,aC⟩
      show j-1<j;omega
     refine Ga rfl (.dec (.move rfl) (congrArg not (Bool.eq_false_iff.2 H))) (Gn 11 rfl (G.nil (E.eY (WC.gL rfl (Sr (Wn 3 rfl (Nx (Rt (E.eX (E.gT (E.eX (E.eX (E.gT (E.eX (E.gU rfl rfl rfl rfl ?_)))))))))))))))
     have hc:fq xs a x=([],[],6):=kF (by assumption) (by assumption) (by assumption) (nZ (by omega) (by omega) (hsome▸hF) (fun h=>by have b:=(qL _ _ _ _).1 h;first|exact absurd b.1 (by assumption)|exact b.2 (by assumption)))
     exact⟨none,0,none,0,by rw[hc];rfl,by rw[hc];exact eU.nil _ _ _ _ _ _,by rw[hc];exact eU.nil _ _ _ _ _ _,L⟩
    refine Cn rfl (dF c2) (WC.exit (E.fC (E.fC (E.gW (E.eY (Sr (Wn 5 rfl (Nx (Rt (E.gU rfl rfl rfl rfl ?_))))))))))
    have hc:=wQ (by assumption) (by assumption) (by assumption) (show jh a x xs= .ok (nx,l) by rw[show j=0 by omega]at hF;exact hF)
    have aU:j=0:=by omega
    subst aU
    exact⟨some ⟨V,0,none⟩,n,some ⟨X,0,none⟩,n,by rw[hc];simp[show l.length=n by omega],by rw[hc];exact(Y.mono y.size).cast (by simp;omega) (by simp),by rw[hc];exact(Z.mono N.size).cast (by simp;omega) (by simp),am⟩
   refine Cy rfl (congrArg not (Bool.eq_false_iff.2 c1)) (Sr (Wn 3 rfl (Nx (Rt (E.eX (E.gU rfl rfl rfl rfl ?_))))))
   have hc:fq xs a x=([],[],1):=pK (by assumption) (by first|exact .inl (by assumption)|exact .inr (by assumption))
   exact⟨none,0,none,0,by rw[hc];rfl,by rw[hc];exact eU.nil _ _ _ _ _ _,by rw[hc];exact eU.nil _ _ _ _ _ _,y⟩
  refine Wa (.dec (.move rfl) (congrArg not (Bool.eq_false_iff.2 ai))) rfl (Wn 4 rfl (Nx (WC.gL rfl (Sr (Wn 3 rfl (Nx (Rt (E.eX (E.gU rfl rfl rfl rfl ?_)))))))))
  have hc:fq xs a x=([],[],1):=pK (by assumption) (by first|exact .inl (by assumption)|exact .inr (by assumption))
  exact⟨none,0,none,0,by rw[hc];rfl,by rw[hc];exact eU.nil _ _ _ _ _ _,by rw[hc];exact eU.nil _ _ _ _ _ _,L2⟩
 refine Cy rfl (congrArg not (Bool.eq_false_iff.2 c0)) (Sr (Wn 3 rfl (Nx (Rt (E.eX (E.gU rfl rfl rfl rfl ?_))))))
 have hc:fq xs a x=([],[],19):=yj (by assumption)
 exact⟨none,0,none,0,by rw[hc];rfl,by rw[hc];exact eU.nil _ _ _ _ _ _,by rw[hc];exact eU.nil _ _ _ _ _ _,L1⟩


end Go.Proofs.YtkaedikifgpkeaaGreatDoor

