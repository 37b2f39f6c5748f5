/- LedgerSplices: for every input the law answers true and leaves its arguments as they were. -/
import Derived.Test.YtcaehidaejhdfaaGreatLedgerSplicesL
import Derived.Lib.Mul64
set_option linter.unusedVariables false
set_option linter.unusedSimpArgs false
namespace Go.Proofs.YtcaehidaejhdfaaGreat
open Tryz
open Go Go.Sx
set_option maxRecDepth 20000
structure Hid (p:Prop):Prop where
  out:p
theorem abk (c V T K h l y Y U v e1 e0 R Q1 Q2:Nat)(hc:0<c)(hcV:c*V=T)(hK:K*K=T)(hy:0<y)(hY:Y=y*c)(hU:U=h*c+l/V)(hv:v=l*c%T)(h1:e1=v/K)(h0:e0=v%K)(hR:R=(U*K+e1)%Y)(hQ1:Q1=(U*K+e1)/Y)(hQ2:Q2=(R*K+e0)/Y):
    (R*K+e0)%Y/c=(h*T+l)%y/\Q1*K+Q2=(h*T+l)/y:=by
  have j:0<Y:=by rw[hY];exact Nat.mul_pos hy hc
  have e5:K*e1+e0=v:=by rw[h1,h0];exact Nat.div_add_mod v K
  have e6:T*(l/V)+v=l*c:=by
    have:l*c/T=l/V:=by rw[<-hcV,Nat.mul_comm c V];exact Nat.mul_div_mul_right l V hc
    rw[<-this,hv];exact Nat.div_add_mod _ _
  have e:(U*K+e1)*K+e0=(h*T+l)*c:=by
    rw[Nat.add_mul,Nat.mul_assoc,hK,Nat.mul_comm e1,Nat.add_assoc,e5,hU,Nat.add_mul,Nat.mul_comm (l/V),Nat.add_assoc,e6,Nat.add_mul,Nat.mul_right_comm]
  have k:Y*Q1+R=U*K+e1:=by rw[hQ1,hR];exact Nat.div_add_mod _ _
  have d:Y*Q2+(R*K+e0)%Y=R*K+e0:=by rw[hQ2];exact Nat.div_add_mod _ _
  have b:(R*K+e0)%Y<Y:=Nat.mod_lt _ j
  obtain⟨r,hr⟩:∃r,r=(R*K+e0)%Y:=⟨_,rfl⟩
  rw[<-hr]at d b ⊢
  obtain⟨N,hN⟩:∃N,N=h*T+l:=⟨_,rfl⟩
  rw[<-hN]at e ⊢
  obtain⟨G,hG⟩:∃G,G=Q1*K+Q2:=⟨_,rfl⟩
  rw[<-hG]
  have m:y*G*c+r=N*c:=by
    rw[<-e,<-k,Nat.add_mul,Nat.add_assoc,<-d,hG,hY,Nat.mul_right_comm,Nat.mul_add,Nat.mul_assoc (y*c),Nat.add_assoc]
  have n:y*G<=N:=Nat.le_of_mul_le_mul_right (by omega) hc
  obtain⟨D,hD⟩:=Nat.le.dest n
  have f:r=D*c:=by rw[<-hD,Nat.add_mul]at m;omega
  have i:D<y:=by rw[f,hY]at b;exact Nat.lt_of_mul_lt_mul_right b
  rw[f,Nat.mul_div_cancel _ hc,<-hD,Nat.mul_add_mod,Nat.mod_eq_of_lt i,Nat.mul_add_div hy,Nat.div_eq_of_lt i]
  exact⟨rfl,rfl⟩
theorem abl (s t h l y:Nat)(hst:2^s*2^t=18446744073709551616)(hY2:9223372036854775808<=y*2^s)(hY1:y*2^s<18446744073709551616)(hh:h<y)(hl:l<18446744073709551616):
    ∃Y H G U v,Hid (y*2^s%18446744073709551616=Y)/\Hid (h*2^s%18446744073709551616=H)/\Hid (l/2^t=G)/\Hid (H|||G=U)/\Hid (l*2^s%18446744073709551616=v)/\9223372036854775808<=Y/\Y<18446744073709551616/\U<Y/\v<18446744073709551616/\H<18446744073709551616/\G<18446744073709551616/\
      ∀e1 e0 R Q1 Q2,e1=v/4294967296->e0=v%4294967296->R=(U*4294967296+e1)%Y->Q1=(U*4294967296+e1)/Y->Q2=(R*4294967296+e0)/Y->
        Hid ((R*4294967296+e0)%Y/2^s=(h*18446744073709551616+l)%y)/\Hid ((Q1*4294967296%18446744073709551616+Q2)%18446744073709551616=(h*18446744073709551616+l)/y):=by
  have hS:2^s<=18446744073709551616:=by rw[<-hst];exact Nat.le_mul_of_pos_right _ (Nat.two_pow_pos t)
  have hG:l/2^t<2^s:=by rw[Nat.div_lt_iff_lt_mul (Nat.two_pow_pos t),hst];exact hl
  have hHY:h*2^s+2^s<=y*2^s:=by rw[<-Nat.succ_mul];exact Nat.mul_le_mul_right _ hh
  have hH:h*2^s%18446744073709551616=h*2^s:=Nat.mod_eq_of_lt (Nat.lt_of_le_of_lt (Nat.le_trans (Nat.le_add_right _ _) hHY) hY1)
  have hor:h*2^s|||l/2^t=h*2^s+l/2^t:=by rw[Nat.mul_comm h];exact(Nat.two_pow_add_eq_or_of_lt hG h).symm
  refine⟨y*2^s,h*2^s,l/2^t,h*2^s+l/2^t,l*2^s%18446744073709551616,⟨Nat.mod_eq_of_lt hY1⟩,⟨hH⟩,⟨rfl⟩,⟨hor⟩,⟨rfl⟩,hY2,hY1,Nat.lt_of_lt_of_le (Nat.add_lt_add_left hG _) hHY,Nat.mod_lt _ (by decide),by rw[<-hH];exact Nat.mod_lt _ (by decide),Nat.lt_of_lt_of_le hG hS,?_⟩
  intro e1 e0 R Q1 Q2 b c hR d e
  obtain⟨f,i⟩:=abk (2^s) (2^t) 18446744073709551616 4294967296 h l y _ _ _ e1 e0 R Q1 Q2 (Nat.two_pow_pos s) hst (by decide) (by omega) rfl rfl rfl b c hR d e
  refine⟨⟨f⟩,⟨?_⟩⟩
  rw[Nat.mod_add_mod,i]
  apply Nat.mod_eq_of_lt
  rw[Nat.div_lt_iff_lt_mul (by omega)]
  exact Nat.lt_of_lt_of_le (show h*18446744073709551616+l<(h+1)*18446744073709551616 from by rw[Nat.succ_mul];exact Nat.add_lt_add_left hl _) (by rw[Nat.mul_comm 18446744073709551616 y];exact Nat.mul_le_mul_right _ hh)
theorem QB (x y:Nat)(hx:x<18446744073709551616)(hy:y<18446744073709551616)(w:World):Calls prog 146 #[.int .u64 ((x:Nat):Int),.int .u64 ((y:Nat):Int)] w fun e w'=>e= .returned (.tuple #[.int .u64 ((x*y/18446744073709551616:Nat):Int),.int .u64 ((x*y%18446744073709551616:Nat):Int)])/\Le w w':=by
 obtain⟨d,f,i,c⟩:=Go.Lib.mul64_hi x y hx hy
 have j:x*y/18446744073709551616<18446744073709551616:=by
  rw[Nat.div_lt_iff_lt_mul (by decide)]
  exact Nat.mul_lt_mul'' hx hy
 have ha:=Go.Lib.half_mul_le (a:=x/4294967296) (b:=y/4294967296) (by omega) (by omega)
 have hb:=Go.Lib.half_mul_le (a:=x/4294967296) (b:=y%4294967296) (by omega) (by omega)
 have hc:=Go.Lib.half_mul_le (a:=x%4294967296) (b:=y/4294967296) (by omega) (by omega)
 refine enter func146 rfl rfl (Sr (Wn 2 rfl (Nx (Sr (Wn 1 rfl (Wa (.Kq x 4294967295 (x%4294967296) rfl rfl rfl rfl (by omega) (by omega) (mask32 _)) rfl (Wn 1 rfl (Nx (Sr (Wn 1 rfl (Wa (.zn x 32 (x/4294967296) rfl rfl rfl rfl (by decide) rfl) rfl (Wn 1 rfl (Nx (Sr (Wn 1 rfl ?_)))))))))))))))
 refine Wa (.Kq y 4294967295 (y%4294967296) rfl rfl rfl rfl (by omega) (by omega) (mask32 _)) rfl (Wn 1 rfl (Nx (Sr (Wn 1 rfl (Wa (.zn y 32 (y/4294967296) rfl rfl rfl rfl (by decide) rfl) rfl (Wn 1 rfl (Nx (Sr (Wn 2 rfl (Wa (.mulN (x%4294967296) (y%4294967296) ((x%4294967296)*(y%4294967296)) rfl rfl rfl rfl (Nat.mod_eq_of_lt d)) rfl (Wn 1 rfl (Nx (Sr (Wn 2 rfl ?_))))))))))))))
 refine Wa (.mulN (x/4294967296) (y%4294967296) ((x/4294967296)*(y%4294967296)) rfl rfl rfl rfl (Nat.mod_eq_of_lt (by omega))) rfl (Wn 1 rfl (Wa (.zn ((x%4294967296)*(y%4294967296)) 32 ((x%4294967296)*(y%4294967296)/4294967296) rfl rfl rfl rfl (by decide) rfl) rfl (Wa (.addN ((x/4294967296)*(y%4294967296)) ((x%4294967296)*(y%4294967296)/4294967296) ((x/4294967296)*(y%4294967296)+(x%4294967296)*(y%4294967296)/4294967296) rfl rfl rfl rfl (Nat.mod_eq_of_lt f)) rfl (Wn 1 rfl (Nx (Sr (Wn 1 rfl ?_)))))))
 refine Wa (.Kq ((x/4294967296)*(y%4294967296)+(x%4294967296)*(y%4294967296)/4294967296) 4294967295 (((x/4294967296)*(y%4294967296)+(x%4294967296)*(y%4294967296)/4294967296)%4294967296) rfl rfl rfl rfl (by omega) (by omega) (mask32 _)) rfl (Wn 1 rfl (Nx (Sr (Wn 1 rfl (Wa (.zn ((x/4294967296)*(y%4294967296)+(x%4294967296)*(y%4294967296)/4294967296) 32 (((x/4294967296)*(y%4294967296)+(x%4294967296)*(y%4294967296)/4294967296)/4294967296) rfl rfl rfl rfl (by decide) rfl) rfl (Wn 1 rfl (Nx (Sr (Wn 3 rfl ?_)))))))))
 refine Wa (.mulN (x%4294967296) (y/4294967296) ((x%4294967296)*(y/4294967296)) rfl rfl rfl rfl (Nat.mod_eq_of_lt (by omega))) rfl (Wa (.addN (((x/4294967296)*(y%4294967296)+(x%4294967296)*(y%4294967296)/4294967296)%4294967296) ((x%4294967296)*(y/4294967296)) (((x/4294967296)*(y%4294967296)+(x%4294967296)*(y%4294967296)/4294967296)%4294967296+(x%4294967296)*(y/4294967296)) rfl rfl rfl rfl (Nat.mod_eq_of_lt i)) rfl (Wn 1 rfl (Nx (Sr (Wn 2 rfl (Wa (.mulN (x/4294967296) (y/4294967296) ((x/4294967296)*(y/4294967296)) rfl rfl rfl rfl (Nat.mod_eq_of_lt (by omega))) rfl (Wn 1 rfl ?_)))))))
 refine Wa (.addN ((x/4294967296)*(y/4294967296)) (((x/4294967296)*(y%4294967296)+(x%4294967296)*(y%4294967296)/4294967296)/4294967296) ((x/4294967296)*(y/4294967296)+((x/4294967296)*(y%4294967296)+(x%4294967296)*(y%4294967296)/4294967296)/4294967296) rfl rfl rfl rfl (Nat.mod_eq_of_lt (by omega))) rfl (Wn 1 rfl ?_)
 refine Wa (.zn (((x/4294967296)*(y%4294967296)+(x%4294967296)*(y%4294967296)/4294967296)%4294967296+(x%4294967296)*(y/4294967296)) 32 ((((x/4294967296)*(y%4294967296)+(x%4294967296)*(y%4294967296)/4294967296)%4294967296+(x%4294967296)*(y/4294967296))/4294967296) rfl rfl rfl rfl (by decide) rfl) rfl ?_
 refine Wa (.addN ((x/4294967296)*(y/4294967296)+((x/4294967296)*(y%4294967296)+(x%4294967296)*(y%4294967296)/4294967296)/4294967296) ((((x/4294967296)*(y%4294967296)+(x%4294967296)*(y%4294967296)/4294967296)%4294967296+(x%4294967296)*(y/4294967296))/4294967296) (x*y/18446744073709551616) rfl rfl rfl rfl ((Nat.mod_eq_of_lt (by rw[c];exact j)).trans c)) rfl ?_
 refine Wn 1 rfl (Nx (Sr (Wn 2 rfl (Wa (.mulN x y (x*y%18446744073709551616) rfl rfl rfl rfl rfl) rfl (Wn 1 rfl (Nx (Rt (E.Vg rfl rfl rfl ?_))))))))
 exact⟨rfl,(Le.refl w)⟩

def Zb:ByteArray:=⟨[0,1,2,2,3,3,3,3,4,4,4,4,4,4,4,4,5,5,5,5,5,5,5,5,5,5,5,5,5,5,5,5,6,6,6,6,6,6,6,6,6,6,6,6,6,6,6,6,6,6,6,6,6,6,6,6,6,6,6,6,6,6,6,6,7,7,7,7,7,7,7,7,7,7,7,7,7,7,7,7,7,7,7,7,7,7,7,7,7,7,7,7,7,7,7,7,7,7,7,7,7,7,7,7,7,7,7,7,7,7,7,7,7,7,7,7,7,7,7,7,7,7,7,7,7,7,7,7,8,8,8,8,8,8,8,8,8,8,8,8,8,8,8,8,8,8,8,8,8,8,8,8,8,8,8,8,8,8,8,8,8,8,8,8,8,8,8,8,8,8,8,8,8,8,8,8,8,8,8,8,8,8,8,8,8,8,8,8,8,8,8,8,8,8,8,8,8,8,8,8,8,8,8,8,8,8,8,8,8,8,8,8,8,8,8,8,8,8,8,8,8,8,8,8,8,8,8,8,8,8,8,8,8,8,8,8,8,8,8,8,8,8,8,8,8,8,8,8,8,8,8,8,8,8,8,8].toArray⟩

theorem len8:∀m,16<=m->m<64->Zb[m]? =some (if m<32 then 5 else 6):=by
  have h:∀m:Fin 64,16<=m.val->Zb[m.val]? =some (if m.val<32 then 5 else 6):=by decide+kernel
  exact fun m b c=>h ⟨m,c⟩ b

theorem QC (y:Nat)(h1:1152921504606846976<=y)(h2:y<4611686018427387904)(w:World):Calls prog 158 #[.int .u64 ((y:Nat):Int)] w fun e w'=>e= .returned (.int .i64 (if y<2305843009213693952 then 61 else 62))/\Le w w':=by
 refine enter func158 rfl rfl (Sr (Wn 1 rfl (Nx (Sq (Sr (Wn 2 rfl (Nx (WC.xu rfl (fun _=>?_) (fun h=>absurd h (by simp;omega))))))))))
 refine Sr (Wn 1 rfl (Wa (.zn y 32 (y/4294967296) rfl rfl rfl rfl (by decide) rfl) rfl (Wn 1 rfl (Nx (WC.region (Wn 1 rfl (Nx (Sq (Sr (Wn 2 rfl (Nx (WC.xu rfl (fun _=>?_) (fun h=>absurd h (by simp;omega))))))))))))))
 refine Sr (Wn 1 rfl (Wa (.zn (y/4294967296) 16 (y/281474976710656) rfl rfl rfl rfl (by decide) (by omega)) rfl (Wn 1 rfl (Nx (WC.region (Wn 1 rfl (Wa (.add rfl rfl (by omega)) rfl (Wn 1 rfl (Nx (Sq (Sr (Wn 2 rfl (Nx (WC.xu rfl (fun _=>?_) (fun h=>absurd h (by simp;omega))))))))))))))))
 refine Sr (Wn 1 rfl (Wa (.zn (y/281474976710656) 8 (y/72057594037927936) rfl rfl rfl rfl (by decide) (by omega)) rfl (Wn 1 rfl (Nx (WC.region (Wn 1 rfl (Wa (.add rfl rfl (by omega)) rfl (Wn 1 rfl (Nx (Sr (Wn 2 rfl (Wr (.toU8 (y/72057594037927936) (y5 underlying38) underlying5 rfl rfl) rfl ?_))))))))))))
 refine Wa (.Vl (y/72057594037927936) (if y/72057594037927936<32 then 5 else 6) underlying9 rfl rfl (by rw[BitVec.toNat_ofNat,Nat.mod_eq_of_lt (by omega)]) (len8 (y/72057594037927936) (by omega) (by omega))) rfl ?_
 refine Wr (.Su (y5 underlying5) underlying3 rfl (IntWalk.i64_in _ (by split<;>decide))) rfl ?_
 refine Wa (.add rfl rfl (by split<;>decide)) rfl ?_
 refine Wn 1 rfl (Nx (Rt (E.o9 rfl rfl ?_)))
 exact⟨by congr 2;split<;>split<;>simp_all<;>omega,(Le.refl w)⟩

theorem Mk (y:Nat)(h1:1152921504606846976<=y)(h2:y<4611686018427387904)(w:World):Calls prog 178 #[.int .u64 ((y:Nat):Int)] w fun e w'=>e= .returned (.int .i64 (if y<2305843009213693952 then 3 else 2))/\Le w w':=by
 refine enter func178 rfl rfl ?_
 have b:=Le.refl w
 refine Sr (Wn 1 rfl (Nx (Sr (Wn 1 rfl (W.cl YO rfl rfl (QC y h1 h2 w) ?_)))))
 rintro _ f ⟨rfl,c⟩
 have d:=b.trans c
 refine Wa (.sub rfl rfl (by split<;>omega)) rfl ?_
 refine Wn 1 rfl (Nx (Rt (E.o9 rfl rfl ?_)))
 exact⟨by congr 2;split<;>rfl,d⟩

theorem Ml (s t h l y:Nat)(hs:s+t=64)(hst:2^s*2^t=18446744073709551616)(h1:9223372036854775808<=y*2^s)(h2:y*2^s<18446744073709551616)(hy:0<y)(hh:h<y)(hl:l<18446744073709551616)(hy2:y<18446744073709551616)(hlz:∀w,Calls prog 178 #[.int .u64 ((y:Nat):Int)] w (fun e w'=>e= .returned (.int .i64 (s:Int))/\Le w w'))(w:World):Calls prog 166 #[.int .u64 ((h:Nat):Int),.int .u64 ((l:Nat):Int),.int .u64 ((y:Nat):Int)] w fun e w'=>e= .returned (.tuple #[.int .u64 (((h*18446744073709551616+l)/y:Nat):Int),.int .u64 (((h*18446744073709551616+l)%y:Nat):Int)])/\Le w w':=by
 obtain⟨Y,Hn,Gn,U,v,fY,fH,fG,fU,fv,abN,abO,hU,Q,S,T,fin⟩:=abl s t h l y hst h1 h2 hh hl
 obtain⟨a,ha⟩:∃a,a=Y/4294967296:=⟨_,rfl⟩
 obtain⟨b,A⟩:∃b,b=Y%4294967296:=⟨_,rfl⟩
 obtain⟨e1,B⟩:∃e1,e1=v/4294967296:=⟨_,rfl⟩
 obtain⟨d,o⟩:∃d,d=v%4294967296:=⟨_,rfl⟩
 have hY:Y=a*4294967296+b:=by omega
 have V:2147483648<=a:=by omega
 have X:a<4294967296:=by omega
 have k:b<4294967296:=by omega
 have Z:e1<4294967296:=by omega
 have aa:d<4294967296:=by omega
 obtain⟨R,hR⟩:∃R,R=(U*4294967296+e1)%Y:=⟨_,rfl⟩
 obtain⟨c,i⟩:∃c,c=(U*4294967296+e1)/Y:=⟨_,rfl⟩
 obtain⟨f,j⟩:∃f,f=(R*4294967296+d)/Y:=⟨_,rfl⟩
 have ZC:R<Y:=by rw[hR];exact Nat.mod_lt _ (by omega)
 obtain⟨hfin,abm⟩:=fin e1 d R c f B o hR i j
 refine enter func166 rfl rfl ?_
 have u:=Le.refl w
 refine Sr (Wn 2 rfl (Nx (Sq (Sr (Wn 2 rfl (Nx (WC.xu rfl (fun h=>absurd h (by simp;omega)) (fun _=>?_))))))))
 refine Sn (Sq (Sr (Wn 3 rfl (Nx (WC.xu rfl (fun h=>absurd h (by simp;omega)) (fun _=>?_))))))
 refine Sn (Sq (Sr (Wn 2 rfl (Nx (WC.cond rfl (fun C=>?_) (fun C=>?_))))))
 ·have D:h=0:=by omega
  subst D
  refine Sq (WC.draw [0,1,2,3,4,5,6,7] mixed (by kernel_rfl) fun w6 F=>?_)
  have H:=u.trans F
  refine G.run 2 rfl (Ga rfl (.Ko l y (l/y) rfl rfl rfl rfl (by omega) (by omega) rfl) (G.run 2 rfl (Ga rfl (.FD l y (l%y) rfl rfl rfl rfl (by omega) rfl) (G.run 2 rfl (G.nil (E.jG (Rt (E.jH (E.Vg rfl rfl rfl ?_)))))))))
  exact⟨by rw[Nat.zero_mul,Nat.zero_add],H⟩
 refine Sn (Sr (Wn 1 rfl (W.cl YZ rfl rfl (hlz w) ?_)))
 rintro _ ab ⟨rfl,I⟩
 have J:=u.trans I
 refine Wr (.Su (y5 underlying3) underlying187 rfl (IntWalk.u64_in _ (by omega))) rfl (Wn 1 rfl (Nx (Sr (Wn 2 rfl (Wa (.SB y s Y rfl rfl rfl rfl (show s<=64 by omega) fY.out) rfl (Wn 1 rfl (Nx (Sr (Wn 1 rfl (Wa (.zn Y 32 a rfl rfl rfl rfl (by decide) (by omega)) rfl (Wn 1 rfl (Nx (Sr (Wn 1 rfl ?_))))))))))))))
 refine Wa (.Kq Y 4294967295 b rfl rfl rfl rfl (by omega) (by omega) ((mask32 _).trans A.symm)) rfl (Wn 1 rfl (Nx (Sr (Wn 2 rfl (Wa (.SB h s Hn rfl rfl rfl rfl (show s<=64 by omega) fH.out) rfl (Wn 2 rfl (Wa (.G8 64 s t rfl rfl rfl rfl (by omega) (by omega)) rfl (Wa (.zn l t Gn rfl rfl rfl rfl (show t<=64 by omega) fG.out) rfl ?_))))))))
 refine Wa (.orE Hn Gn U rfl rfl rfl rfl (by omega) (by omega) fU.out) rfl (Wn 1 rfl (Nx (Sr (Wn 2 rfl (Wa (.SB l s v rfl rfl rfl rfl (show s<=64 by omega) fv.out) rfl (Wn 1 rfl (Nx (Sr (Wn 1 rfl (Wa (.zn v 32 e1 rfl rfl rfl rfl (by decide) (by omega)) rfl (Wn 1 rfl (Nx (Sr (Wn 1 rfl ?_))))))))))))))
 refine Wa (.Kq v 4294967295 d rfl rfl rfl rfl (by omega) (by omega) ((mask32 _).trans o.symm)) rfl (Wn 1 rfl (Nx (Sr (Wn 2 rfl (Wa (.Ko U a (U/a) rfl rfl rfl rfl (by omega) (by omega) rfl) rfl (Wn 1 rfl (Nx (Sr (Wn 3 rfl (Wa (.mulN (U/a) a (U/a*a) rfl rfl rfl rfl (Nat.mod_eq_of_lt (Nat.lt_of_le_of_lt (Nat.div_mul_le_self _ _) (by omega)))) rfl (Wa (.G8 U (U/a*a) (U%a) rfl rfl rfl rfl (Nat.le_trans (Nat.div_mul_le_self _ _) (by omega)) (LM U a (by omega))) rfl ?_)))))))))))
 refine Wn 1 rfl (Nx (WC.cut (ι:=Unit) (fun()=>[(2,.int .u64 ((Y:Nat):Int)),(8,.int .u64 ((s:Nat):Int)),(9,.int .u64 ((a:Nat):Int)),(10,.int .u64 ((b:Nat):Int)),(11,.int .u64 ((U:Nat):Int)),(13,.int .u64 ((e1:Nat):Int)),(14,.int .u64 ((d:Nat):Int)),(15,.int .u64 ((c:Nat):Int))]) (fun() x=>Le w x) ?_ ?_))
 ·refine WC.block (WC.loop (ι:=Nat×Nat) (fun⟨qh,rh⟩=>[(2,.int .u64 ((Y:Nat):Int)),(8,.int .u64 ((s:Nat):Int)),(9,.int .u64 ((a:Nat):Int)),(10,.int .u64 ((b:Nat):Int)),(11,.int .u64 ((U:Nat):Int)),(13,.int .u64 ((e1:Nat):Int)),(14,.int .u64 ((d:Nat):Int)),(15,.int .u64 ((qh:Nat):Int)),(16,.int .u64 ((rh:Nat):Int))]) (fun⟨qh,rh⟩ wl=>Le w wl/\qh*a+rh=U/\c<=qh/\rh<4294967296/\qh<=4294967297) (fun⟨qh,rh⟩=>qh) (U/a,U%a) ?_ ?_ ?_)
  ·exact .of rfl
  ·exact⟨J,by rw[Nat.mul_comm];exact Nat.div_add_mod _ _,by rw[i];exact FW hY (by omega) hU (by omega),Nat.lt_of_lt_of_le (Nat.mod_lt _ (by omega)) (by omega),FV hY (by omega) (by omega) hU⟩
  rintro⟨qh,rh⟩ wl ⟨Ll,hi,hq,hr,K⟩
  refine Sq (Sr (Wn 2 rfl ?_))
  by_cases hb:4294967296<=qh
  ·refine Wn 1 rfl (W.skip rfl rfl rfl (dT (by omega)) rfl rfl (W.skip rfl rfl rfl (dT (by omega)) rfl rfl (W.skip rfl rfl rfl (dT (by omega)) rfl rfl (W.skip rfl rfl rfl (dT (by omega)) rfl rfl (W.skip rfl rfl rfl (dT (by omega)) rfl rfl ?_)))))
   refine W.skip rfl rfl rfl (dT (by omega)) rfl rfl (W.skip rfl rfl rfl (dT (by omega)) rfl rfl (W.skip rfl rfl rfl (dT (by omega)) rfl rfl (Wa (.I5 rfl (dT (by omega)) rfl) rfl ?_)))
   have hgt:c<qh:=by rw[i];exact G9 hY hU (by omega) hi (by omega)
   have hd:qh*a=(qh-1)*a+a:=by rw[<-Nat.succ_mul];congr 1;omega
   have hinv:(qh-1)*a+(rh+a)=U:=by omega
   refine Nx (WC.jS rfl (Sn (WC.block (Sr (Wn 1 rfl (Wa (.G8 qh 1 (qh-1) rfl rfl rfl rfl (by omega) (by omega)) rfl (Wn 1 rfl (Nx (Sr (Wn 2 rfl (Wa (.addN rh a (rh+a) rfl rfl rfl rfl (by omega)) rfl (Wn 1 rfl (Nx (Sr (Wn 2 rfl (Nx (WC.cond rfl (fun m=>?_) (fun m=>?_))))))))))))))))))
   ·have hqe:qh-1=c:=Nat.le_antisymm (by rw[i];exact Dr hY (by omega) k hinv (by omega) (by omega)) (by omega)
    refine WC.exit (E.Kl rfl (E.jJ (E.ko (E.meet () (.cons rfl (.cons rfl (.cons rfl (.cons rfl (.cons rfl (.cons rfl (.cons rfl (.cons' rfl (int_eq (by rw[hqe])) (.nil _))))))))) ?_))))
    exact Ll
   refine WC.skip (E.jZ (E.again (qh-1,rh+a) (.of rfl) ?_ ?_))
   ·exact⟨Ll,hinv,by omega,by omega,by omega⟩
   first|omega|(simp only[];omega)
  refine Wn 1 rfl (W.Dl (Any.rd (.move rfl) _) rfl rfl rfl (dF (by omega)) rfl rfl (W.Dl (Any.rd (.move rfl) _) rfl rfl rfl (dF (by omega)) rfl rfl ?_))
  have hqb:qh*b<18446744073709551616:=Nat.lt_of_le_of_lt (Nat.mul_le_mul (show qh<=4294967295 by omega) (show b<=4294967295 by omega)) (by decide)
  refine W.Dl (Any.rd (.mulN qh b (qh*b) rfl rfl rfl rfl (Nat.mod_eq_of_lt hqb)) _) rfl rfl rfl (dF (by omega)) rfl rfl (W.Dl (Any.rd (.move rfl) _) rfl rfl rfl (dF (by omega)) rfl rfl (W.Dl (Any.rd (.mulN 4294967296 rh (4294967296*rh) rfl rfl rfl rfl (by omega)) _) rfl rfl rfl (dF (by omega)) rfl rfl (W.Dl (Any.rd (.move rfl) _) rfl rfl rfl (dF (by omega)) rfl rfl (W.Dl (Any.rd (.addN (4294967296*rh) e1 (4294967296*rh+e1) rfl rfl rfl rfl (by omega)) _) rfl rfl rfl (dF (by omega)) rfl rfl (W.Dl (Any.rd (.gtr rfl rfl) _) rfl rfl rfl (dF (by omega)) rfl rfl ?_)))))
  refine Wa (.I6 rfl (dF (by omega)) rfl) rfl (Nx (WC.cond rfl (fun L=>?_) (fun L=>?_)))
  ·have hgt:c<qh:=by rw[i];exact G9 hY hU (by omega) hi (by omega)
   have hd:qh*a=(qh-1)*a+a:=by rw[<-Nat.succ_mul];congr 1;omega
   have hinv:(qh-1)*a+(rh+a)=U:=by omega
   refine Sn (WC.block (Sr (Wn 1 rfl (Wa (.G8 qh 1 (qh-1) rfl rfl rfl rfl (by omega) (by omega)) rfl (Wn 1 rfl (Nx (Sr (Wn 2 rfl (Wa (.addN rh a (rh+a) rfl rfl rfl rfl (by omega)) rfl (Wn 1 rfl (Nx (Sr (Wn 2 rfl (Nx (WC.cond rfl (fun m=>?_) (fun m=>?_))))))))))))))))
   ·have hqe:qh-1=c:=Nat.le_antisymm (by rw[i];exact Dr hY (by omega) k hinv (by omega) (by omega)) (by omega)
    refine WC.exit (E.Kl rfl (E.jJ (E.ko (E.meet () (.cons rfl (.cons rfl (.cons rfl (.cons rfl (.cons rfl (.cons rfl (.cons rfl (.cons' rfl (int_eq (by rw[hqe])) (.nil _))))))))) ?_))))
    exact Ll
   refine WC.skip (E.jZ (E.again (qh-1,rh+a) (.of rfl) ?_ ?_))
   ·exact⟨Ll,hinv,by omega,by omega,by omega⟩
   first|omega|(simp only[];omega)
  have hqe:qh=c:=Nat.le_antisymm (by rw[i];exact Kr hY (by omega) hi (by omega)) hq
  refine WC.exit (E.jJ (E.jJ (E.ko (E.meet () (.cons rfl (.cons rfl (.cons rfl (.cons rfl (.cons rfl (.cons rfl (.cons rfl (.cons' rfl (int_eq (by rw[hqe])) (.nil _))))))))) ?_))))
  exact Ll
 rintro⟨⟩ x N
 refine Sr (Wn 1 rfl (Wa (.mulN U 4294967296 (U*4294967296%18446744073709551616) rfl rfl rfl rfl rfl) rfl (Wn 1 rfl (Wa (.addN (U*4294967296%18446744073709551616) e1 ((U*4294967296+e1)%18446744073709551616) rfl rfl rfl rfl (by rw[Nat.mod_add_mod])) rfl ?_))))
 refine Wn 2 rfl (Wa (.mulN c Y (c*Y%18446744073709551616) rfl rfl rfl rfl rfl) rfl (Wa (.G8 ((U*4294967296+e1)%18446744073709551616) (c*Y%18446744073709551616) R rfl rfl rfl rfl (Nat.le_of_lt (Nat.mod_lt _ (by decide))) ((Jc Y _ _ i (by omega) (by omega)).trans hR.symm)) rfl (Wn 1 rfl (Nx (Sr (Wn 2 rfl (Wa (.Ko R a (R/a) rfl rfl rfl rfl (by omega) (by omega) rfl) rfl (Wn 1 rfl (Nx (Sr (Wn 3 rfl ?_)))))))))))
 refine Wa (.mulN (R/a) a (R/a*a) rfl rfl rfl rfl (Nat.mod_eq_of_lt (Nat.lt_of_le_of_lt (Nat.div_mul_le_self _ _) (by omega)))) rfl (Wa (.G8 R (R/a*a) (R%a) rfl rfl rfl rfl (Nat.le_trans (Nat.div_mul_le_self _ _) (by omega)) (LM R a (by omega))) rfl (Wn 1 rfl (Nx (WC.cut (ι:=Unit) (fun()=>[(2,.int .u64 ((Y:Nat):Int)),(8,.int .u64 ((s:Nat):Int)),(9,.int .u64 ((a:Nat):Int)),(10,.int .u64 ((b:Nat):Int)),(14,.int .u64 ((d:Nat):Int)),(17,.int .u64 ((R:Nat):Int)),(15,.int .u64 ((c:Nat):Int)),(18,.int .u64 ((f:Nat):Int))]) (fun() z=>Le w z) ?_ ?_))))
 ·refine WC.block (WC.loop (ι:=Nat×Nat) (fun⟨qh,rh⟩=>[(2,.int .u64 ((Y:Nat):Int)),(8,.int .u64 ((s:Nat):Int)),(9,.int .u64 ((a:Nat):Int)),(10,.int .u64 ((b:Nat):Int)),(14,.int .u64 ((d:Nat):Int)),(17,.int .u64 ((R:Nat):Int)),(15,.int .u64 ((c:Nat):Int)),(18,.int .u64 ((qh:Nat):Int)),(16,.int .u64 ((rh:Nat):Int))]) (fun⟨qh,rh⟩ wl=>Le w wl/\qh*a+rh=R/\f<=qh/\rh<4294967296/\qh<=4294967297) (fun⟨qh,rh⟩=>qh) (R/a,R%a) ?_ ?_ ?_)
  ·exact .of rfl
  ·exact⟨N,by rw[Nat.mul_comm];exact Nat.div_add_mod _ _,by rw[j];exact FW hY (by omega) ZC (by omega),Nat.lt_of_lt_of_le (Nat.mod_lt _ (by omega)) (by omega),FV hY (by omega) (by omega) ZC⟩
  rintro⟨qh,rh⟩ wl ⟨Ll,hi,hq,hr,K⟩
  refine Sq (Sr (Wn 2 rfl ?_))
  by_cases hb:4294967296<=qh
  ·refine Wn 1 rfl (W.skip rfl rfl rfl (dT (by omega)) rfl rfl (W.skip rfl rfl rfl (dT (by omega)) rfl rfl (W.skip rfl rfl rfl (dT (by omega)) rfl rfl (W.skip rfl rfl rfl (dT (by omega)) rfl rfl (W.skip rfl rfl rfl (dT (by omega)) rfl rfl ?_)))))
   refine W.skip rfl rfl rfl (dT (by omega)) rfl rfl (W.skip rfl rfl rfl (dT (by omega)) rfl rfl (W.skip rfl rfl rfl (dT (by omega)) rfl rfl (Wa (.I5 rfl (dT (by omega)) rfl) rfl ?_)))
   have hgt:f<qh:=by rw[j];exact G9 hY ZC (by omega) hi (by omega)
   have hd:qh*a=(qh-1)*a+a:=by rw[<-Nat.succ_mul];congr 1;omega
   have hinv:(qh-1)*a+(rh+a)=R:=by omega
   refine Nx (WC.jS rfl (Sn (WC.block (Sr (Wn 1 rfl (Wa (.G8 qh 1 (qh-1) rfl rfl rfl rfl (by omega) (by omega)) rfl (Wn 1 rfl (Nx (Sr (Wn 2 rfl (Wa (.addN rh a (rh+a) rfl rfl rfl rfl (by omega)) rfl (Wn 1 rfl (Nx (Sr (Wn 2 rfl (Nx (WC.cond rfl (fun n=>?_) (fun n=>?_))))))))))))))))))
   ·have hqe:qh-1=f:=Nat.le_antisymm (by rw[j];exact Dr hY (by omega) k hinv (by omega) (by omega)) (by omega)
    refine WC.exit (E.Kl rfl (E.jJ (E.ko (E.meet () (.cons rfl (.cons rfl (.cons rfl (.cons rfl (.cons rfl (.cons rfl (.cons rfl (.cons' rfl (int_eq (by rw[hqe])) (.nil _))))))))) ?_))))
    exact Ll
   refine WC.skip (E.jZ (E.again (qh-1,rh+a) (.of rfl) ?_ ?_))
   ·exact⟨Ll,hinv,by omega,by omega,by omega⟩
   first|omega|(simp only[];omega)
  refine Wn 1 rfl (W.Dl (Any.rd (.move rfl) _) rfl rfl rfl (dF (by omega)) rfl rfl (W.Dl (Any.rd (.move rfl) _) rfl rfl rfl (dF (by omega)) rfl rfl ?_))
  have hqb:qh*b<18446744073709551616:=Nat.lt_of_le_of_lt (Nat.mul_le_mul (show qh<=4294967295 by omega) (show b<=4294967295 by omega)) (by decide)
  refine W.Dl (Any.rd (.mulN qh b (qh*b) rfl rfl rfl rfl (Nat.mod_eq_of_lt hqb)) _) rfl rfl rfl (dF (by omega)) rfl rfl (W.Dl (Any.rd (.move rfl) _) rfl rfl rfl (dF (by omega)) rfl rfl (W.Dl (Any.rd (.mulN 4294967296 rh (4294967296*rh) rfl rfl rfl rfl (by omega)) _) rfl rfl rfl (dF (by omega)) rfl rfl (W.Dl (Any.rd (.move rfl) _) rfl rfl rfl (dF (by omega)) rfl rfl (W.Dl (Any.rd (.addN (4294967296*rh) d (4294967296*rh+d) rfl rfl rfl rfl (by omega)) _) rfl rfl rfl (dF (by omega)) rfl rfl (W.Dl (Any.rd (.gtr rfl rfl) _) rfl rfl rfl (dF (by omega)) rfl rfl ?_)))))
  refine Wa (.I6 rfl (dF (by omega)) rfl) rfl (Nx (WC.cond rfl (fun O=>?_) (fun O=>?_)))
  ·have hgt:f<qh:=by rw[j];exact G9 hY ZC (by omega) hi (by omega)
   have hd:qh*a=(qh-1)*a+a:=by rw[<-Nat.succ_mul];congr 1;omega
   have hinv:(qh-1)*a+(rh+a)=R:=by omega
   refine Sn (WC.block (Sr (Wn 1 rfl (Wa (.G8 qh 1 (qh-1) rfl rfl rfl rfl (by omega) (by omega)) rfl (Wn 1 rfl (Nx (Sr (Wn 2 rfl (Wa (.addN rh a (rh+a) rfl rfl rfl rfl (by omega)) rfl (Wn 1 rfl (Nx (Sr (Wn 2 rfl (Nx (WC.cond rfl (fun n=>?_) (fun n=>?_))))))))))))))))
   ·have hqe:qh-1=f:=Nat.le_antisymm (by rw[j];exact Dr hY (by omega) k hinv (by omega) (by omega)) (by omega)
    refine WC.exit (E.Kl rfl (E.jJ (E.ko (E.meet () (.cons rfl (.cons rfl (.cons rfl (.cons rfl (.cons rfl (.cons rfl (.cons rfl (.cons' rfl (int_eq (by rw[hqe])) (.nil _))))))))) ?_))))
    exact Ll
   refine WC.skip (E.jZ (E.again (qh-1,rh+a) (.of rfl) ?_ ?_))
   ·exact⟨Ll,hinv,by omega,by omega,by omega⟩
   first|omega|(simp only[];omega)
  have hqe:qh=f:=Nat.le_antisymm (by rw[j];exact Kr hY (by omega) hi (by omega)) hq
  refine WC.exit (E.jJ (E.jJ (E.ko (E.meet () (.cons rfl (.cons rfl (.cons rfl (.cons rfl (.cons rfl (.cons rfl (.cons rfl (.cons' rfl (int_eq (by rw[hqe])) (.nil _))))))))) ?_))))
  exact Ll
 rintro⟨⟩ z P
 refine Sr (Wn 1 rfl (Wa (.mulN c 4294967296 (c*4294967296%18446744073709551616) rfl rfl rfl rfl rfl) rfl (Wn 1 rfl (Wa (.addN (c*4294967296%18446744073709551616) f ((c*4294967296%18446744073709551616+f)%18446744073709551616) rfl rfl rfl rfl rfl) rfl (Wn 1 rfl (Wa (.mulN R 4294967296 (R*4294967296%18446744073709551616) rfl rfl rfl rfl rfl) rfl ?_))))))
 refine Wn 1 rfl (Wa (.addN (R*4294967296%18446744073709551616) d ((R*4294967296+d)%18446744073709551616) rfl rfl rfl rfl (by rw[Nat.mod_add_mod])) rfl ?_)
 refine Wn 2 rfl (Wa (.mulN f Y (f*Y%18446744073709551616) rfl rfl rfl rfl rfl) rfl (Wa (.G8 ((R*4294967296+d)%18446744073709551616) (f*Y%18446744073709551616) ((R*4294967296+d)%Y) rfl rfl rfl rfl (Nat.le_of_lt (Nat.mod_lt _ (by decide))) (Jc Y _ _ j (by omega) (by omega))) rfl (Wn 1 rfl (Wa (.zn ((R*4294967296+d)%Y) s ((h*18446744073709551616+l)%y) rfl rfl rfl rfl (show s<=64 by omega) hfin.out) rfl (Wn 2 rfl (Nx (Rt ?_)))))))
 refine E.Vg rfl rfl rfl ?_
 exact⟨by rw[abm.out],P⟩

theorem QD (h l y:Nat)(h1:1152921504606846976<=y)(h2:y<4611686018427387904)(hl:l<18446744073709551616)(w:World):Calls prog 147 #[.int .u64 ((h:Nat):Int),.int .u64 ((l:Nat):Int),.int .u64 ((y:Nat):Int)] w fun e w'=>e= .returned (.int .u64 (((h*18446744073709551616+l)%y:Nat):Int))/\Le w w':=by
 have hd:∀w,Calls prog 166 #[.int .u64 ((h%y:Nat):Int),.int .u64 ((l:Nat):Int),.int .u64 ((y:Nat):Int)] w fun e w'=>e= .returned (.tuple #[.int .u64 (((h%y*18446744073709551616+l)/y:Nat):Int),.int .u64 (((h*18446744073709551616+l)%y:Nat):Int)])/\Le w w':=fun w=>by
  rw[show(h*18446744073709551616+l)%y=(h%y*18446744073709551616+l)%y by rw[Nat.add_mod (h%y*_),Nat.mul_mod (h%y),Nat.mod_mod,<-Nat.mul_mod,<-Nat.add_mod]]
  by_cases hs:y<2305843009213693952
  ·exact Ml 3 61 (h%y) l y rfl (by decide) (by omega) (by omega) (by omega) (Nat.mod_lt _ (by omega)) hl (by omega) (fun w=>by have:=Mk y h1 h2 w;rw[if_pos hs]at this;exact this) w
  exact Ml 2 62 (h%y) l y rfl (by decide) (by omega) (by omega) (by omega) (Nat.mod_lt _ (by omega)) hl (by omega) (fun w=>by have:=Mk y h1 h2 w;rw[if_neg hs]at this;exact this) w
 refine enter func147 rfl rfl ?_
 have b:=Le.refl w
 refine Sr (Wn 1 rfl (Nx (Sr (Wn 2 rfl (Wa (.FD h y (h%y) rfl rfl rfl rfl (by omega) rfl) rfl (Wn 2 rfl (W.cl YU rfl rfl (hd w) ?_)))))))
 rintro _ f ⟨rfl,c⟩
 have d:=b.trans c
 refine Wn 1 rfl (Wa (.extract rfl rfl) rfl (Wa (.extract rfl rfl) rfl (Wn 2 rfl (Nx (Sr (Wn 2 rfl (Nx (Rt (E.o9 rfl rfl ?_)))))))))
 exact⟨rfl,d⟩
end Go.Proofs.YtcaehidaejhdfaaGreat

namespace Go.Proofs.YtcaehidaejhdfaaGreat
open Tryz
open Go Go.Sx Go.Num
set_option maxRecDepth 20000
theorem EM (a b:Nat)(ha:a<18446744073709551616)(hb:b<18446744073709551616)(w:World):Calls prog 128 #[.int .u64 ((a:Nat):Int),.int .u64 ((b:Nat):Int)] w fun e w'=>e= .returned (.int .u64 ((a*b%M:Nat):Int))/\Le w w':=by
 refine enter func128 rfl rfl ?_
 have c:=Le.refl w
 refine Sr (Wn 1 rfl (Nx (Sr (Wn 2 rfl (W.cl YM rfl rfl (QB a b ha hb w) ?_)))))
 rintro _ d ⟨rfl,f⟩
 have i:=c.trans f
 refine Wn 1 rfl (Wa (.extract rfl rfl) rfl (Wa (.extract rfl rfl) rfl (Wn 2 rfl (Nx (Sr (Wn 2 rfl (W.cl YN rfl rfl (QD (a*b/18446744073709551616) (a*b%18446744073709551616) 4611686018427377339 (by decide) (by decide) (Nat.mod_lt _ (by decide)) d) ?_)))))))
 rintro _ l ⟨rfl,j⟩
 have k:=i.trans j
 refine Wn 1 rfl (Nx (Rt (E.o9 rfl rfl ?_)))
 exact⟨by rw[Nat.div_add_mod'];rfl,k⟩



theorem JH (a n:Nat)(ha:a<18446744073709551616)(hn:n<18446744073709551616)(w:World):Calls prog 91 #[.int .u64 ((a:Nat):Int),.int .u64 ((n:Nat):Int)] w fun e w'=>e= .returned (.int .u64 ((pw a n:Nat):Int))/\Le w w':=by
 refine enter func91 rfl rfl (Sr (Wn 1 rfl (Nx (Sr (Wn 1 rfl (Nx (Sq (WC.block (WC.loop (ι:=Nat×Nat×Nat) (fun⟨b,m,out⟩=>[(0,.int .u64 ((b:Nat):Int)),(1,.int .u64 ((m:Nat):Int)),(5,.int .u64 ((out:Nat):Int))]) (fun⟨b,m,out⟩ wl=>Le w wl/\b<18446744073709551616/\m<18446744073709551616/\out<M/\out*b^m%M=pw a n) (fun⟨b,m,out⟩=>m) (a,n,1) ?_ ?_ ?_)))))))))
 ·exact .of rfl
 ·exact⟨(Le.refl w),ha,hn,DJ,II a n hn⟩
 rintro⟨b,m,out⟩ wl ⟨Ll,hb,hm,ho,hi⟩
 refine Sq (Sr (Wn 2 rfl (Nx (WC.cond rfl (fun f=>?_) (fun f=>?_)))))
 ·have hbb:b*b%M<18446744073709551616:=Nat.lt_trans (Nat.mod_lt _ (by decide)) (by decide)
  have i:out<18446744073709551616:=Nat.lt_trans ho (by decide)
  refine Sn (Sq (WC.block (Sq (Sr (Wn 1 rfl (Wa (.Kq m 1 (m%2) rfl rfl rfl rfl (by omega) (by omega) (Uw _)) rfl (Wn 1 rfl (Nx (WC.cond rfl (fun j=>?_) (fun j=>?_))))))))))
  ·refine WC.region (Wn 2 rfl (W.cl Qm rfl rfl (EM out b i hb wl) ?_))
   rintro _ k ⟨rfl,l⟩
   have o:=Ll.trans l
   refine Wn 1 rfl (Nx (WC.region (Wn 2 rfl (W.cl Qm rfl rfl (EM b b hb hb k) ?_))))
   rintro _ s ⟨rfl,c⟩
   have d:=o.trans c
   refine Wn 1 rfl (W.nil (E.jZ (E.jG (WC.region (Wn 1 rfl (Wa (.zn m 1 (m/2) rfl rfl rfl rfl (by decide) rfl) rfl (Wn 1 rfl (W.nil (E.again (b*b%M,m/2,out*b%M) (.of rfl) ?_ ?_)))))))))
   ·exact⟨d,hbb,by omega,Nat.mod_lt _ (by decide),by rw[step1 b m out (by omega)];exact hi⟩
   first|omega|(simp only[];omega)
  refine Sn (WC.region (Wn 2 rfl (W.cl Qm rfl rfl (EM b b hb hb wl) ?_)))
  rintro _ s ⟨rfl,c⟩
  have d:=Ll.trans c
  refine Wn 1 rfl (W.nil (E.jZ (E.jG (WC.region (Wn 1 rfl (Wa (.zn m 1 (m/2) rfl rfl rfl rfl (by decide) rfl) rfl (Wn 1 rfl (W.nil (E.again (b*b%M,m/2,out) (.of rfl) ?_ ?_)))))))))
  ·exact⟨d,hbb,by omega,ho,by rw[step0 b m out (by omega)];exact hi⟩
  first|omega|(simp only[];omega)
 have t:m=0:=by omega
 subst t
 rw[OZ b out ho]at hi
 refine WC.exit (E.jJ (E.jJ (E.ko (E.jG (Sr (Wn 2 rfl (Nx (Rt (E.o9 rfl rfl ?_)))))))))
 exact⟨by rw[hi],Ll⟩

theorem Zc (x:Nat):decide ((x:Int)=1)=decide (x=1):=decide_eq_decide.2 (by omega)

theorem yG (p:Nat)(hp:p<18446744073709551616)(w:World):Calls prog 43 #[.int .u64 ((p:Nat):Int)] w fun e w'=>e= .returned (.bool (right p))/\Le w w':=by
 refine enter func43 rfl rfl ?_
 have b:=Le.refl w
 refine Sr (Wn 1 rfl (Nx (Sr (Wn 1 rfl ?_))))
 by_cases c:0<p
 ·refine Wa (.dec (.gtr rfl rfl) (dT (by omega))) rfl (Wn 2 rfl ?_)
  by_cases d:p<4611686018427377339
  ·refine Wg (Any.rd (.dec (.lss rfl rfl) (dT (by omega))) _) rfl (Wn 3 rfl (W.mY rfl rfl rfl rfl rfl rfl (Ef.call Yt rfl rfl (JH p 2305843009213688669 hp (by decide) w) ?_)))
   rintro _ j ⟨rfl,f⟩
   refine⟨_,rfl,?_⟩
   have i:=b.trans f
   refine Wn 3 rfl (Nx (Rt (E.o9 rfl rfl ?_)))
   exact⟨by rw[right,dT c,dT (show p<M from d),Bool.true_and,Bool.true_and,<-Zc];rfl,i⟩
  refine Wg (Any.rd (.dec (.lss rfl rfl) (dF (by omega))) _) rfl (Wn 7 rfl (Nx (Rt (E.o9 rfl rfl ?_))))
  exact⟨by rw[right,dF (show¬p<M from d),Bool.and_false,Bool.false_and],b⟩
 refine Wa (.dec (.gtr rfl rfl) (dF (by omega))) rfl (Wn 10 rfl (Nx (Rt (E.o9 rfl rfl ?_))))
 exact⟨by rw[right,dF c,Bool.false_and,Bool.false_and],b⟩

theorem QE (p:Nat)(hp:p<18446744073709551616)(w:World):Calls prog 105 #[.int .u64 ((p:Nat):Int)] w fun e w'=>e= .returned (.int .u64 ((taken p:Nat):Int))/\Le w w':=by
 refine enter func105 rfl rfl ?_
 have d:=Le.refl w
 refine Sr (Wn 1 rfl (Nx (Sq (Sr (Wn 1 rfl (W.cl Tt rfl rfl (yG p hp w) ?_))))))
 rintro _ i ⟨rfl,f⟩
 have c:=d.trans f
 refine Nx (WC.xu rfl (fun b=>?_) (fun b=>?_))
 ·refine Sr (Wn 2 rfl (Nx (Rt (E.jH (E.o9 rfl rfl ?_)))))
  exact⟨by rw[taken,if_pos b],c⟩
 refine Sn (Sr (Wn 1 rfl (Nx (Rt (E.o9 rfl rfl ?_)))))
 exact⟨by rw[taken,if_neg (by rw[b];simp)];rfl,c⟩

theorem QF (p:Nat):taken p<18446744073709551616:=Nat.lt_trans ((tZ _).1 (uQ p)).2.1 (by decide)

theorem QG (p k:Nat)(hp:p<18446744073709551616)(w:World):Calls prog 62 #[.int .u64 ((p:Nat):Int),.int .u64 ((k:Nat):Int)] w fun e w'=>e= .returned (.int .u64 ((scale p k:Nat):Int))/\Le w w':=by
 refine enter func62 rfl rfl ?_
 have b:=Le.refl w
 refine Sr (Wn 1 rfl (Nx (Sr (Wn 1 rfl (W.cl Yw rfl rfl (QE p hp w) ?_)))))
 rintro _ c ⟨rfl,d⟩
 have f:=b.trans d
 refine Wn 1 rfl (Wa (.FD k 2305843009213688669 (k%2305843009213688669) rfl rfl rfl rfl (by decide) rfl) rfl (W.cl Yt rfl rfl (JH (taken p) (k%2305843009213688669) (QF p) (by omega) c) ?_))
 rintro _ l ⟨rfl,i⟩
 have j:=f.trans i
 refine Wn 1 rfl (Nx (Rt (E.o9 rfl rfl ?_)))
 exact⟨rfl,j⟩

theorem TE (k:Nat)(w:World):Calls prog 27 #[.int .u64 ((k:Nat):Int)] w fun e w'=>e= .returned (.int .u64 ((base k:Nat):Int))/\Le w w':=by
 refine enter func27 rfl rfl ?_
 have b:=Le.refl w
 refine Sr (Wn 1 rfl (Nx (Sr (Wn 1 rfl (W.cl aa1 rfl rfl (QG 4 k (by decide) w) ?_)))))
 rintro _ f ⟨rfl,c⟩
 have d:=b.trans c
 refine Wn 1 rfl (Nx (Rt (E.o9 rfl rfl ?_)))
 exact⟨rfl,d⟩














end Go.Proofs.YtcaehidaejhdfaaGreat

namespace Go.Proofs.YtcaehidaejhdfaaGreat
open Tryz
open Go Go.Sx Go.Num Go.rZ Go.Lsp
set_option maxRecDepth 20000
def jT (s:Seat):List Value:=[.int .i64 s.ch,.int .i64 s.p0,.int .i64 s.p1,.int .i64 s.h0,.int .i64 s.h1]
theorem jQ:oz jT 5:=⟨fun _=>rfl,fun x v hv=>by simp[jT]at hv;rcases hv with rfl|rfl|rfl|rfl|rfl<;>rfl,by decide⟩
def qx (h:wJ):List Value:=[.int .i64 h.am,.int .u64 ((h.pt:Nat):Int)]
theorem mO:oz qx 2:=⟨fun _=>rfl,fun x v hv=>by simp[qx]at hv;rcases hv with rfl|rfl<;>rfl,by decide⟩
def mh (k:lX):List Value:=[.int .i64 k.ch,.int .i64 k.side,.int .i64 k.id]
theorem pW:oz mh 3:=⟨fun _=>rfl,fun x v hv=>by simp[mh]at hv;rcases hv with rfl|rfl|rfl<;>rfl,by decide⟩
def Bf (g:xn):List Value:=[.int .i64 g.ch,.int .i64 g.side,.int .i64 g.am]
theorem sO:oz Bf 3:=⟨fun _=>rfl,fun x v hv=>by simp[Bf]at hv;rcases hv with rfl|rfl|rfl<;>rfl,by decide⟩
theorem JI (s:Seat){j:Nat}(h:j<2):(jT s).toArray[1+j]? =some (.int .i64 (s.p j)):=by
  have:j=0\/j=1:=by omega
  rcases this with rfl|rfl<;>rfl
theorem nG (s:Seat){j:Nat}(h:j<2):(jT s).toArray[3+j]? =some (.int .i64 (s.h j)):=by
  have:j=0\/j=1:=by omega
  rcases this with rfl|rfl<;>rfl
theorem wo (s:Seat){j:Nat}(h:j<2):#[Value.int .i64 s.p0,.int .i64 s.p1][j]? =some (.int .i64 (s.p j)):=by
  have:j=0\/j=1:=by omega
  rcases this with rfl|rfl<;>rfl
theorem wu (s:Seat)(v:Int){j:Nat}(h:j<2):(jT s).toArray.setIfInBounds (3+j) (.int .i64 v)=(jT (s.setH j v)).toArray:=by
  have:j=0\/j=1:=by omega
  rcases this with rfl|rfl<;>rfl
def sw (x:Int):Value:= .int .i64 x
def Bg (k:lX):Value:= .agg (mh k).toArray
def mK (s:Seat):Value:= .agg (jT s).toArray
def oK (h:wJ):Value:= .agg (qx h).toArray
theorem oU:wP prog 3 sw:=wP.int underlying3
theorem KX {d:Nat}(a b:lX):Ad prog (d+2) 138 (.agg (mh a).toArray) (.agg (mh b).toArray) (decide (a=b)):=by
  have h:=Ad.ints (P:=prog) (d:=d) (t:=138) (mh a) (mh b) [(.i64,0),(.i64,1),(.i64,2)] (by kernel_rfl) (by kernel_rfl) (by
    rw[show(prog.fieldsOf 138)=_ from(by unfold Program.fieldsOf;rw[underlying138])]
    exact⟨by decide,rfl,underlying3,⟨_,_,rfl,rfl⟩,by decide,rfl,underlying3,⟨_,_,rfl,rfl⟩,by decide,rfl,underlying3,⟨_,_,rfl,rfl⟩,trivial⟩)
  have e:Ed (mh a) (mh b) [(.i64,0),(.i64,1),(.i64,2)]=decide (a=b):=by
    obtain⟨c,f,i⟩:=a
    obtain⟨j,k,l⟩:=b
    simp only[Ed,mh,List.getElem?_cons_zero,List.getElem?_cons_succ]
    rw[Bool.eq_iff_iff]
    simp only[Bool.and_eq_true,decide_eq_true_eq,Bool.and_true,lX.mk.injEq]
  rw[e]at h
  exact h
theorem JJ (b:Bool)(k:lX)(w:World):∀m:Nat,(Instr.checkKey b (m+2) 138 (Bg k)).run prog w= .ok () w:=by
  intro m
  have hi:∀(v:Int) (w:World),(Instr.checkKey b (m+1) 3 (.int .i64 v)).run prog w= .ok () w:=fun v w=>by unfold Instr.checkKey;simp[run_underlying underlying3]
  have c:∀w:World,(part 3 (mh k).toArray 0).run prog w= .ok (.int .i64 k.ch) w:=mr j5 rfl
  have d:∀w:World,(part 3 (mh k).toArray 1).run prog w= .ok (.int .i64 k.side) w:=mr j5 rfl
  have e:∀w:World,(part 3 (mh k).toArray 2).run prog w= .ok (.int .i64 k.id) w:=mr j5 rfl
  unfold Instr.checkKey
  simp only[Sem.run_bind,run_underlying underlying138,Result.andThen_ok,Bg]
  simp[c,d,e,hi]
theorem xc:wP prog 138 Bg:=wP.struct underlying138 (fun b k w=>JJ b k w 9998) (fun k=>⟨_,rfl⟩) (fun a b=>KX (d:=9998) a b)
theorem Bh {κ β:Type}[DecidableEq κ]{f:κ->β->Int}{seen:Array Nat}:∀{l:List (Nat×κ×β)},(∀x∈l,0<=f x.2.1 x.2.2)->0<=lJ f (vB l seen)/\lJ f (vB l seen)<=lJ f l
  |[],_=>by simp[vB,lJ]
  |x::l,h=>by
    have h1:=Bh (f:=f) (seen:=seen) (l:=l) (fun y hy=>h y (List.mem_cons_of_mem _ hy))
    have b:=h x List.mem_cons_self
    unfold vB at*
    rw[List.filter_cons]
    split
    · rw[ky,ky];omega
    · rw[ky];omega
theorem uF {ch side:Int}{lh:HM}(hb:∀x∈lh,0<=x.2.2.am):∀x∈lh,0<=mR ch side x.2.1 x.2.2:=by
  intro x hx
  unfold mR
  split
  · exact hb x hx
  · exact Int.le_refl _
structure mf (w:World)(gp gs gh:Nat)(A:Option Addr)(c cs ck:Nat)(own:List Int)(ls:SM)(lh:HM)(lost:Int):Prop where
  hp:jL w gp 132 #[.slice A own.length c,.map (some gs),.map (some gh),.int .i64 lost]
  hO:jO w 0 3 iv 1 A own.length c own
  hS:kH w sw mK gs ls cs
  hH:kH w Bg oK gh lh ck
  ps:gp≠gs
  ph:gp≠gh
  sh:gs≠gh
  op:rowOf A c≠some gp
  os:rowOf A c≠some gs
  oh:rowOf A c≠some gh
def LF (gp gs gh:Nat)(A:Option Addr)(c:Nat)(k:Nat):Prop:=k=gp\/k=gs\/k=gh\/rowOf A c=some k
section
variable {w w':World}{gp gs gh c cs ck:Nat}{A:Option Addr}{own:List Int}{ls:SM}{lh:HM}{lost:Int}
theorem mf.kX {F':Nat->Prop}(h:mf w gp gs gh A c cs ck own ls lh lost)(hc:ll w w' F')(hne:∀k,LF gp gs gh A c k->¬F' k):mf w' gp gs gh A c cs ck own ls lh lost:=
  ⟨h.hp.kX hc (hne _ (.inl rfl)),h.hO.kX hc (fun k hk=>hne _ (.inr (.inr (.inr hk)))),h.hS.kX hc (hne _ (.inr (.inl rfl))),h.hH.kX hc (hne _ (.inr (.inr (.inl rfl)))),h.ps,h.ph,h.sh,h.op,h.os,h.oh⟩
theorem mf.le (h:mf w gp gs gh A c cs ck own ls lh lost)(hl:Le w w'):mf w' gp gs gh A c cs ck own ls lh lost:=h.kX (hl.kX (fun _=>False)) (fun _ _ hf=>hf)
theorem mf.lt (h:mf w gp gs gh A c cs ck own ls lh lost){k:Nat}(hk:LF gp gs gh A c k):k<w.heap.size:=by
  rcases hk with rfl|rfl|rfl|hk
  · exact h.hp.lt
  · exact h.hS.lt
  · exact h.hH.lt
  · exact(h.hO.row hk).2
end
theorem qL (n:Int)(w:World):Calls prog 41 #[.int .i64 (n)] w fun r w'=>r= .returned (.bool (nu n))/\Le w w':=by
 refine enter func41 rfl rfl ?_
 have c:=Le.refl w
 refine Sr (Wn 1 rfl (Nx (Sr (Wn 2 rfl ?_))))
 by_cases b:0<=n
 ·refine Dt b rfl rfl (Wn 4 rfl (Nx (Rt (E.jI rfl rfl ?_))))
  exact⟨rB (by simp[nu,b]),c⟩
 refine Df b rfl rfl (Wn 4 rfl (Nx (Rt (E.jI rfl rfl ?_))))
 exact⟨rB (by simp[nu,b]),c⟩

theorem TF {gp gs gh c cs ck:Nat}{A:Option Addr}{own:List Int}{ls:SM}{lh:HM}{lost:Int}(w:World)(hL:mf w gp gs gh A c cs ck own ls lh lost):Calls prog 12 #[.pointer (some ⟨gp,0,none⟩)] w fun r w'=>r= .returned (.int .i64 lost)/\Le w w':=by
 refine enter func12 rfl rfl ?_
 have b:=Le.refl w
 refine Sr (Wn 1 rfl (Nx (Sr (Wn 1 rfl (Wa (.nilCheck rfl) rfl (Wa (.jE Be rfl) rfl (Wr (.jF (v:= .int .i64 lost) j5 rfl (hL.hp.le b) rfl) rfl (Wn 1 rfl (Nx (Rt (E.jI rfl rfl ?_)))))))))))
 exact⟨rfl,b⟩

theorem Mm {gp gs gh c cs ck:Nat}{A:Option Addr}{own:List Int}{ls:SM}{lh:HM}{lost:Int}(party:Int)(w:World)(hL:mf w gp gs gh A c cs ck own ls lh lost):Calls prog 13 #[.pointer (some ⟨gp,0,none⟩),.int .i64 (party)] w fun r w'=>r= .returned (.int .i64 (tJ own party))/\Le w w':=by
 refine enter func13 rfl rfl ?_
 have d:=Le.refl w
 refine Sr (Wn 1 rfl (Nx (Sq (Sr (Wn 2 rfl ?_)))))
 by_cases e:party<0
 ·refine Dt e rfl rfl (Wn 8 rfl (Nx (WC.jS rfl (Sr (Wn 1 rfl (Nx (Rt (E.jH (E.jI rfl rfl ?_)))))))))
  exact⟨congrArg (fun b=>Ending.returned (Value.int .i64 b)) (by unfold tJ;first|(rw[if_pos (by omega)])|(rw[if_neg (by omega)])),d⟩
 refine Df e rfl rfl (Wn 2 rfl (Wg (Any.rd (.nilCheck rfl) _) rfl (Wg (Any.rd (.jE tV rfl) _) rfl (Wg (.jF (v:= .slice A own.length c) Hy rfl (hL.hp.le d) rfl) rfl (Wg (.len underlying67 rfl) rfl (Wn 2 rfl (Nx ?_)))))))
 by_cases f:((own.length:Nat):Int)<=party
 ·refine Cy rfl (dT f) (Sr (Wn 1 rfl (Nx (Rt (E.jH (E.jI rfl rfl ?_))))))
  exact⟨congrArg (fun b=>Ending.returned (Value.int .i64 b)) (by unfold tJ;first|(rw[if_pos (by omega)])|(rw[if_neg (by omega)])),d⟩
 refine Cn rfl (dF f) (Sn (Sr (Wn 1 rfl (Wa (.nilCheck rfl) rfl (Wa (.jE tV rfl) rfl (Wr (.jF (v:= .slice A own.length c) Hy rfl (hL.hp.le d) rfl) rfl (Wn 1 rfl ?_)))))))
 refine Wa (.lL ((party).toNat) underlying67 kz rfl rfl (hL.hO.vec.isSome kr (by omega)) (by omega) (by omega)) rfl (Wr (.pg (v:= .int .i64 (own.getD ((party).toNat) 0)) j5 rfl (hL.hO.vec.le d) kr (lF own 0 (by omega)) rfl) rfl (Wn 1 rfl (Nx (Rt (E.jI rfl rfl ?_)))))
 exact⟨congrArg (fun b=>Ending.returned (Value.int .i64 b)) (by unfold tJ;first|(rw[if_pos (by omega)])|(rw[if_neg (by omega)])),d⟩

theorem QH {gp gs gh c cs ck:Nat}{A:Option Addr}{own:List Int}{ls:SM}{lh:HM}{lost:Int}(ch:Int)(w:World)(hL:mf w gp gs gh A c cs ck own ls lh lost):Calls prog 11 #[.pointer (some ⟨gp,0,none⟩),.int .i64 (ch)] w fun r w'=>r= .returned (.tuple #[.agg (jT ((jW ch ls).getD jM)).toArray,.bool (jW ch ls).isSome])/\Le w w':=by
 refine enter func11 rfl rfl ?_
 have i:=Le.refl w
 refine Sr (W.ef rfl rfl rfl (Ef.jR z70 fun j B o (f:jL B j 70 (jT jM).toArray) C=>?_))
 have b:=i.trans C
 refine Wn 1 rfl (Nx (Sr (Wn 1 rfl (Wa (.nilCheck rfl) rfl (Wa (.jE mM rfl) rfl (Wr (.jF (v:= .map (some gs)) rR rfl (hL.hp.le b) rfl) rfl (Wn 1 rfl ?_)))))))
 rcases optG (jW ch ls)with d|⟨e,d⟩
 ·refine Wr (.as (.mi (key:=ch) underlying129 oU z70 rfl rfl (hL.hS.le b)) (by rw[d]<;>rfl)) rfl ?_
  refine Wn 1 rfl (Wa (.extract (v:= .agg (jT jM).toArray) rfl rfl) rfl (Wn 1 rfl (W.ef rfl rfl rfl (Ef.jR z70 fun s D F (H:jL D s 70 (jT jM).toArray) t=>(W.kP rfl rfl (Ef.storeAll rQ (by rfl) rfl rfl H (by simp only[List.size_toArray,jQ.len]) (jQ.one jM) ?_))))))
  intro I k u
  have k:jL I s 70 (jT jM).toArray:=k
  refine Wn 1 rfl (Nx (Sr (Wr (.jK wW (by rfl) rfl k) rfl ?_)))
  refine Wn 1 rfl ?_
  have J:=((f.le t).cn u (by have:=f.lt;omega))
  refine W.kP rfl rfl (Ef.storeAll rQ (by rfl) rfl rfl J (by simp only[List.size_toArray,jQ.len]) (jQ.one jM) ?_)
  intro K l L
  have l:jL K j 70 (jT jM).toArray:=l
  have N:=((b.trans t).tb u b F).tb L i o
  refine Wn 1 rfl (Nx (Rt (E.mI rfl (lS rfl l wW (by rfl)) rfl ?_)))
  exact⟨by rw[d];rfl,N⟩
 refine Wr (.as (.mi (key:=ch) underlying129 oU z70 rfl rfl (hL.hS.le b)) (by rw[d]<;>rfl)) rfl ?_
 refine Wn 1 rfl (Wa (.extract (v:= .agg (jT e).toArray) rfl rfl) rfl (Wn 1 rfl (W.ef rfl rfl rfl (Ef.jR z70 fun x O P (Q:jL O x 70 (jT jM).toArray) y=>(W.kP rfl rfl (Ef.storeAll rQ (by rfl) rfl rfl Q (by simp only[List.size_toArray,jQ.len]) (jQ.one e) ?_))))))
 intro R m z
 have m:jL R x 70 (jT e).toArray:=m
 refine Wn 1 rfl (Nx (Sr (Wr (.jK wW (by rfl) rfl m) rfl ?_)))
 refine Wn 1 rfl ?_
 have S:=((f.le y).cn z (by have:=f.lt;omega))
 refine W.kP rfl rfl (Ef.storeAll rQ (by rfl) rfl rfl S (by simp only[List.size_toArray,jQ.len]) (jQ.one e) ?_)
 intro T n U
 have n:jL T j 70 (jT e).toArray:=n
 have V:=((b.trans y).tb z b P).tb U i o
 refine Wn 1 rfl (Nx (Rt (E.mI rfl (lS rfl n wW (by rfl)) rfl ?_)))
 exact⟨by rw[d];rfl,V⟩

theorem Bi {gp gs gh c cs ck:Nat}{A:Option Addr}{own:List Int}{ls:SM}{lh:HM}{lost:Int}(ch side:Int)(w:World)(hL:mf w gp gs gh A c cs ck own ls lh lost)(hb:∀x∈lh,0<=x.2.2.am)(ht:kE lh ch side<=4611686018427387904):Calls prog 16 #[.pointer (some ⟨gp,0,none⟩),.int .i64 ch,.int .i64 (side)] w fun r w'=>r= .returned (.int .i64 (kE lh ch side))/\Le w w':=by
 refine enter func16 rfl rfl ?_
 have t:=Le.refl w
 refine Sr (Wn 1 rfl (Nx (Sr (Wn 1 rfl (Nx (Sq (Sr (Wn 1 rfl (Wa (.nilCheck rfl) rfl (Wa (.jE wZ rfl) rfl (Wr (.jF (v:= .map (some gh)) EH rfl (hL.hp.le t) rfl) rfl (W.ef rfl rfl rfl (Ef.PV underlying130 rfl (hL.hH.le t) ?_)))))))))))))
 intro J Q R S T
 refine Nx (WC.block (WC.loop (ι:=(Array Nat)) (fun seen=>[(1,.int .i64 ch),(2,.int .i64 side),(7,.int .i64 (kE lh ch side-lJ (mR ch side) (vB lh seen))),(14,.pointer (some ⟨J,0,none⟩))]) (fun seen u=>Le w u/\Q.heap.size<=u.heap.size/\FE u J gh ck seen) (fun seen=>(vB lh seen).length) (#[]) ?_ ?_ ?_))
 ·exact .cons rfl (.cons rfl (.cons' rfl (int_eq (by rw[Jy];show _=lJ _ lh-_;omega)) (.cons rfl (.nil _))))
 ·exact⟨(t.trans T),Nat.le_refl _,S⟩
 rintro seen u ⟨y,C,U⟩
 refine Sr (W.ef rfl rfl rfl (Ef.UE rfl (hL.hH.le y) U ?_ ?_))
 ·intro V
  refine Wn 1 rfl (Nx (Sq (WC.kF rfl (WC.exit (E.jJ (E.jJ (E.ko (E.jG (Sr (Wn 2 rfl (Nx (Rt (E.jI rfl rfl ?_)))))))))))))
  exact⟨congrArg (fun b=>Ending.returned (Value.int .i64 b)) (by rw[V,IW];omega),y⟩
 intro d aj K i z
 have D:=y.tb z t R
 have n:=Gg (hL.hH.le y).2 K
 have X:=n.length_eq
 rw[List.length_cons]at X
 refine Wn 1 rfl (Nx (Sq (WC.jS rfl (Sn (WC.block (Sr (W.ef rfl rfl rfl (Ef.PW (e:=d) rfl (hL.hH.le D) i (EE K) (Wa (.extract (v:= .agg (mh d.2.1).toArray) rfl rfl) rfl (Wa (.extract (v:= .agg (qx d.2.2).toArray) rfl rfl) rfl (W.ef rfl rfl rfl (Ef.jR z138 ?_))))))))))))
 intro L Y Z o j
 have N:=D.trans j
 have o:jL Y L 138 (mh GV).toArray:=o
 refine W.ef rfl rfl rfl (Ef.jR yR fun O aa ab (ac:jL aa O 140 (qx qP).toArray) k=>(W.kP rfl rfl (Ef.storeAll JC (by rfl) rfl rfl (o.le k) (by simp only[List.size_toArray,pW.len]) (pW.one d.2.1) ?_)))
 intro ad F l
 have F:jL ad L 138 (mh d.2.1).toArray:=F
 have f7:=(ac.cn l (by have:=o.lt;omega))
 refine W.kP rfl rfl (Ef.storeAll EI (by rfl) rfl rfl f7 (by simp only[List.size_toArray,mO.len]) (mO.one d.2.2) ?_)
 intro ae H m
 have H:jL ae O 140 (qx d.2.2).toArray:=H
 have I:=((N.trans k).tb l D Z).tb m N ab
 refine Nx (Sr (Wa (.jE H9 rfl) rfl ?_))
 have P:=(F.cn m (by have:=o.lt;omega))
 refine Wr (.jF (v:= .int .i64 d.2.1.ch) j5 rfl P rfl) rfl (Wn 2 rfl ?_)
 by_cases s:d.2.1.ch=ch
 ·refine Dt s rfl rfl (Wg (Any.rd (.jE Ty rfl) _) rfl (Wg (.jF (v:= .int .i64 d.2.1.side) j5 rfl P rfl) rfl (Wn 3 rfl (Nx ?_))))
  by_cases B:d.2.1.side=side
  ·refine Cy rfl (dT B) (WC.region (Wn 1 rfl (Wa (.jE Tz rfl) rfl (Wr (.jF (v:= .int .i64 d.2.2.am) j5 rfl H rfl) rfl (Wa (.add rfl rfl (by have h1:=uf (f:=mR ch side) n;rw[ky]at h1;have h2:=Bh (f:=mR ch side) (seen:=seen.push d.1) (uF (ch:=ch) (side:=side) hb);have h3:mR ch side d.2.1 d.2.2=d.2.2.am:=if_pos ⟨by assumption,by assumption⟩;unfold kE at*;omega)) rfl ?_)))))
   refine Wn 1 rfl (W.nil (E.jZ ?_))
   have af:=(((i.le (j.trans k)).cn l (by have:=i.lt;omega)).cn m (by have:=i.lt;have:=j.size;omega))
   refine E.again (seen.push d.1) (.cons rfl (.cons rfl (.cons' rfl (int_eq (by have:=uf (f:=mR ch side) n;rw[ky]at this;unfold mR at this;first|(rw[if_pos ⟨by assumption,by assumption⟩]at this;unfold mR;omega)|(rw[if_neg (by simp[s,B])]at this;unfold mR;omega))) (.cons rfl (.nil _))))) ?_ ?_
   ·exact⟨I,by have:=C;have:=z.size;have:=j.size;have:=k.size;have:=l.size;have:=m.size;omega,af⟩
   first|omega|(simp only[];omega)
  refine Cn rfl (dF B) (WC.skip (E.jZ ?_))
  have ah:=(((i.le (j.trans k)).cn l (by have:=i.lt;omega)).cn m (by have:=i.lt;have:=j.size;omega))
  refine E.again (seen.push d.1) (.cons rfl (.cons rfl (.cons' rfl (int_eq (by have:=uf (f:=mR ch side) n;rw[ky]at this;unfold mR at this;first|(rw[if_pos ⟨by assumption,by assumption⟩]at this;unfold mR;omega)|(rw[if_neg (by simp[s,B])]at this;unfold mR;omega))) (.cons rfl (.nil _))))) ?_ ?_
  ·exact⟨I,by have:=C;have:=z.size;have:=j.size;have:=k.size;have:=l.size;have:=m.size;omega,ah⟩
  first|omega|(simp only[];omega)
 refine Df s rfl rfl (Wn 5 rfl (Nx (WC.kF rfl (WC.skip (E.jZ ?_)))))
 have ai:=(((i.le (j.trans k)).cn l (by have:=i.lt;omega)).cn m (by have:=i.lt;have:=j.size;omega))
 refine E.again (seen.push d.1) (.cons rfl (.cons rfl (.cons' rfl (int_eq (by have:=uf (f:=mR ch side) n;rw[ky]at this;unfold mR at this;first|(rw[if_pos ⟨by assumption,by assumption⟩]at this;unfold mR;omega)|(rw[if_neg (by simp[s])]at this;unfold mR;omega))) (.cons rfl (.nil _))))) ?_ ?_
 ·exact⟨I,by have:=C;have:=z.size;have:=j.size;have:=k.size;have:=l.size;have:=m.size;omega,ai⟩
 first|omega|(simp only[];omega)
end Go.Proofs.YtcaehidaejhdfaaGreat

namespace Go.Proofs.YtcaehidaejhdfaaGreat
open Tryz
open Go Go.Sx Go.Num Go.rZ Go.Lsp
set_option maxRecDepth 20000
theorem NK {lh:HM}{ls:SM}{party:Int}(hb:∀x∈lh,0<=x.2.2.am)(hw:∀x∈ls,0<=x.2.2.h0/\0<=x.2.2.h1):∀x∈ls,0<=mX lh party x.2.1 x.2.2:=by
  intro x hx
  have h1:∀s,0<=kE lh x.2.1 s:=fun s=>mF (uF hb)
  have:=hw x hx
  have:=h1 0
  have:=h1 1
  unfold mX
  split<;>split<;>omega
theorem NL {s:Seat}(k:Nat)(h0:0<=s.h0)(h1:0<=s.h1):0<=s.h k:=by
  unfold Seat.h
  split
  · exact h0
  · exact h1
def tF (lh:HM)(party ch:Int)(s:Seat)(k:Nat):Int:=(if 0<k/\s.p0=party then s.h0+kE lh ch 0 else 0)+(if 1<k/\s.p1=party then s.h1+kE lh ch 1 else 0)
theorem QI (lh:HM)(party ch:Int)(s:Seat):tF lh party ch s 0=0:=by simp[tF]
theorem QJ (lh:HM)(party ch:Int)(s:Seat):tF lh party ch s 2=mX lh party ch s:=by simp[tF,mX]
theorem xZ {lh:HM}{party ch:Int}{s:Seat}{k:Nat}(hk:k<2):tF lh party ch s (k+1)=tF lh party ch s k+if s.p k=party then s.h k+kE lh ch (k:Int)else 0:=by
  have:k=0\/k=1:=by omega
  rcases this with rfl|rfl
  · simp[tF,Seat.p,Seat.h]
  · simp[tF,Seat.p,Seat.h]
theorem Gp {lh:HM}{party ch:Int}{s:Seat}(k:Nat)(hb:∀x∈lh,0<=x.2.2.am)(h0:0<=s.h0)(h1:0<=s.h1):0<=tF lh party ch s k/\tF lh party ch s k<=mX lh party ch s:=by
  have e:0<=kE lh ch 0:=mF (uF hb)
  have e1:0<=kE lh ch 1:=mF (uF hb)
  unfold tF mX
  by_cases a:s.p0=party<;>by_cases b:s.p1=party<;>by_cases c:0<k<;>by_cases d:1<k<;>simp[a,b,c,d]<;>omega
theorem NM {Aq:Option Addr}{n cq:Nat}{xs:List Int}(w:World)(hO:Vec w iv 1 Aq n xs)(hn:n<=1000000):Calls prog 39 #[.slice Aq n cq] w fun r w'=>∃(A:Option Addr) (c:Nat),r= .returned (.slice A n c)/\jO w' w.heap.size 3 iv 1 A n c xs/\Le w w':=by
 refine enter func39 rfl rfl ?_
 have b:=Le.refl w
 refine Sr (Wn 1 rfl (Nx (Sq (Sr (Wn 1 rfl (Wa (.isNil underlying67 rfl) rfl (Nx ?_)))))))
 by_cases d:Aq.isNone=true
 ·refine Cy rfl d (Sr (Wn 1 rfl (Nx (Rt (E.jH (E.jI rfl rfl ?_))))))
  have j:n=0:=(Nat.eq_zero_of_not_pos (fun hp=>by have:=hO.isSome kr hp;rw[Option.isSome_iff_ne_none]at this;exact this (Option.isNone_iff_eq_none.1 d)));subst j;have hx:xs=[]:=List.eq_nil_of_length_eq_zero hO.1;subst hx;exact⟨none,0,rfl,jO.nil _ _ _ _ _ _,b⟩
 refine Cn rfl (Bool.eq_false_iff.2 d) (Sn (Sr (W.ef rfl rfl rfl (Ef.oH underlying67 Mf fun k l t u e=>?_))))
 have f:=b.trans e
 have i:jO l w.heap.size 3 iv 1 (some ⟨k,0,none⟩) 0 0 []:=jO.nil _ _ _ _ _ _
 refine Wn 1 rfl (W.ef rfl rfl rfl (Ef.Ps underlying67 Mf underlying67 kr rfl i rfl (hO.le f) (by omega) (by unfold maxLen;omega) (by have:=e.size;omega) ?_))
 intro v x y m o z
 have s:=m.cast (m':=n) (ys:=xs) (by omega) (by simp)
 refine Wn 1 rfl (Nx (Rt (E.jI rfl rfl ?_)))
 exact⟨_,_,(by rw[show 0+n=n by omega]),(s.mono b.size),(f.kI o (fun q hq=>Nat.le_trans b.size (i.row hq).1))⟩

theorem NN {g ck:Nat}{l:SM}(w:World)(hM:kH w sw mK g l ck):Calls prog 46 #[.map (some g)] w fun r w'=>∃g',r= .returned (.map (some g'))/\w.heap.size<=g'/\kH w' sw mK g' l ck/\Le w w':=by
 refine enter func46 rfl rfl ?_
 have b:=Le.refl w
 refine Sr (Wn 1 rfl (Nx (Sq (Sr (Wn 1 rfl (Wa (.dec (.Vx underlying129 rfl) rfl) rfl (Nx (WC.kF rfl (Sn (Sr (Wn 1 rfl (Wa (.Xw underlying129 rfl rfl) rfl (W.ef rfl rfl rfl (Ef.Vy func92 rfl rfl (by kernel_rfl) (by kernel_rfl) rfl (hM.le b) ?_))))))))))))))
 intro f i c d e
 refine Wr (.Tf underlying129 rfl) rfl (Wn 1 rfl (Nx (Rt (E.jI rfl rfl ?_))))
 exact⟨_,rfl,(by have:=c;have:=b.size;omega),d,(b.trans e)⟩



theorem Gq {gp gs gh c cs ck:Nat}{A:Option Addr}{own:List Int}{ls:SM}{lh:HM}{lost:Int}(party:Int)(w:World)(hL:mf w gp gs gh A c cs ck own ls lh lost)(hb:∀x∈lh,0<=x.2.2.am)(hw:∀x∈ls,0<=x.2.2.h0/\0<=x.2.2.h1)(ho:0<=tJ own party)(ht:nM own ls lh party<=4611686018427387904):Calls prog 14 #[.pointer (some ⟨gp,0,none⟩),.int .i64 (party)] w fun r w'=>r= .returned (.int .i64 (nM own ls lh party))/\Le w w':=by
 have hnn:=NK (party:=party) hb hw
 refine enter func14 rfl rfl ?_
 have T:=Le.refl w
 refine Sr (Wn 1 rfl (Nx (Sr (Wn 2 rfl (W.cl NC rfl rfl (Mm party w (hL.le T)) ?_)))))
 rintro _ ao ⟨rfl,y⟩
 have z:=T.trans y
 refine Wn 1 rfl (Nx (Sq (Sr (Wn 1 rfl (Wa (.nilCheck rfl) rfl (Wa (.jE mM rfl) rfl (Wr (.jF (v:= .map (some gs)) rR rfl (hL.hp.le z) rfl) rfl (W.ef rfl rfl rfl (Ef.PV underlying129 rfl (hL.hS.le z) ?_)))))))))
 intro B ad ae af U
 have F:=z.trans U
 refine Nx (WC.block (WC.loop (ι:=(Array Nat)) (fun seen=>[(0,.pointer (some ⟨gp,0,none⟩)),(1,.int .i64 party),(5,.int .i64 (nM own ls lh party-lJ (mX lh party) (vB ls seen))),(17,.pointer (some ⟨B,0,none⟩))]) (fun seen m=>Le w m/\ad.heap.size<=m.heap.size/\kH m sw mK gs ls cs/\kH m Bg oK gh lh ck/\FE m B gs cs seen) (fun seen=>(vB ls seen).length) (#[]) ?_ ?_ ?_))
 ·exact .cons rfl (.cons rfl (.cons' rfl (int_eq (by rw[Jy];unfold nM;omega)) (.cons rfl (.nil _))))
 ·exact⟨F,Nat.le_refl _,(hL.hS.le F),(hL.hH.le F),af⟩
 rintro seen m ⟨V,ah,H,X,ai⟩
 refine Sr (W.ef rfl rfl rfl (Ef.UE rfl H ai ?_ ?_))
 ·intro aj
  refine Wn 1 rfl (Nx (Sq (WC.kF rfl (WC.exit (E.jJ (E.jJ (E.ko (E.jG (Sr (Wn 2 rfl (Nx (Rt (E.jI rfl rfl ?_)))))))))))))
  exact⟨congrArg (fun b=>Ending.returned (Value.int .i64 b)) (by rw[aj,IW];omega),V⟩
 intro d ap I J o
 have Y:=V.tb o z ae
 have K:=Gg H.2 I
 have ak:=K.length_eq
 rw[List.length_cons]at ak
 have WJ:=hw _ (EE I)
 have hsu:=Bh (f:=mX lh party) (seen:=seen.push d.1) hnn
 have hsp:=uf (f:=mX lh party) K
 rw[ky]at hsp
 have aq:=Bh (f:=mX lh party) (seen:=seen) hnn
 refine Wn 1 rfl (Nx (Sq (WC.jS rfl (Sn (WC.block (Sr ?_))))))
 have L:=(H.cn o (by have:=hL.hS.lt;have:=y.size;omega))
 refine W.ef rfl rfl rfl (Ef.PW (e:=d) rfl L J (EE I) (Wn 1 rfl (Wa (.extract (v:= .agg (jT d.2.2).toArray) rfl rfl) rfl (W.ef rfl rfl rfl (Ef.jR z70 ?_)))))
 intro C al an N t
 have N:jL al C 70 (jT jM).toArray:=N
 refine Wn 1 rfl (W.kP rfl rfl (Ef.storeAll rQ (by rfl) rfl rfl N (by simp only[List.size_toArray,jQ.len]) (jQ.one d.2.2) ?_))
 intro Z D u
 have D:jL Z C 70 (jT d.2.2).toArray:=D
 refine Nx (Sr (Wa (.jE tC rfl) rfl (Wr (.mV [.int .i64 d.2.2.p0,.int .i64 (d.2.2.p1)] vY rfl (by decide) rfl D rfl) rfl (Wn 1 rfl (Nx (WC.block ?_))))))
 refine WC.loop (ι:=Nat) (fun k=>[(0,.pointer (some ⟨gp,0,none⟩)),(1,.int .i64 party),(5,.int .i64 (nM own ls lh party-lJ (mX lh party) (vB ls seen)+tF lh party d.2.1 d.2.2 k)),(6,.int .i64 d.2.1),(7,.pointer (some ⟨C,0,none⟩)),(17,.pointer (some ⟨B,0,none⟩)),(24,.agg #[.int .i64 d.2.2.p0,.int .i64 (d.2.2.p1)]),(25,.int .i64 ((k:Nat):Int))]) (fun k i=>(k<=2)/\Le w i/\Z.heap.size<=i.heap.size/\kH i sw mK gs ls cs/\kH i Bg oK gh lh ck/\jL i C 70 (jT d.2.2).toArray/\FE i B gs cs (seen.push d.1)) (fun k=>2-k) 0 ?_ ?_ ?_
 ·exact .cons rfl (.cons rfl (.cons' rfl (int_eq (by rw[QI];omega)) (.of rfl)))
 ·exact⟨Nat.zero_le _,((Y.trans t).tb u Y an),Nat.le_refl _,((L.le t).cn u (by have:=L.lt;omega)),(((X.cn o (by have:=hL.hH.lt;have:=y.size;omega)).le t).cn u (by have:=X.lt;have:=o.size;omega)),D,((J.le t).cn u (by have:=J.lt;omega))⟩
 rintro k i ⟨hk,O,P,Q,R,aa,S⟩
 have hkl:=Gp (lh:=lh) (party:=party) (ch:=d.2.1) (s:=d.2.2) k hb WJ.1 WJ.2
 have ar:=Gp (lh:=lh) (party:=party) (ch:=d.2.1) (s:=d.2.2) (k+1) hb WJ.1 WJ.2
 refine Sr (Wn 1 rfl (Nx (Sq ?_)))
 by_cases c1:((k:Nat):Int)<2
 ·refine Cy rfl (dT c1) (Sn (Sq (WC.block (Sr (Wn 1 rfl (Wa (.sU (v:= .int .i64 (d.2.2.p k)) k underlying52 kz j5 rfl rfl rfl (by omega) (wo d.2.2 (by omega))) rfl (Wn 2 rfl (Nx (Sr (Wn 3 rfl (Nx ?_)))))))))))
  by_cases j:(d.2.2.p k)=party
  ·refine Cy rfl (dT j) ?_
   have hhn:0<=kE lh d.2.1 ((k:Nat):Int):=mF (uF hb)
   have hhk:=NL k WJ.1 WJ.2
   have hst:=xZ (lh:=lh) (party:=party) (ch:=d.2.1) (s:=d.2.2) (k:=k) (by omega)
   rw[if_pos j]at hst
   have hwl:nM own ls lh party=tJ own party+lJ (mX lh party) ls:=rfl
   refine WC.draw [0,1,2,3,4,5,6,7,8,9,10,11] mixed (by kernel_rfl) fun w9 n=>?_
   have ab:=O.trans n
   refine Gn 2 rfl (Ga rfl (.jE lZ rfl) (Ga rfl (.j3 k underlying52 kz rfl rfl rfl (by omega)) ?_))
   have ac:=(aa.le n)
   refine Gd rfl (.jF (v:= .int .i64 (d.2.2.h k)) j5 rfl ac (nG d.2.2 (by omega))) (Gn 3 rfl (G.ef rfl rfl rfl rfl rfl (Ef.call Tp rfl rfl (Bi d.2.1 ((k:Nat):Int) w9 (hL.le ab) hb (by omega)) ?_)))
   rintro _ au ⟨rfl,l⟩
   refine⟨_,rfl,?_⟩
   refine⟨fun _=>l,?_⟩
   refine Ga rfl (.add rfl rfl (by omega)) (Ga rfl (.add rfl rfl (by omega)) (Gn 1 rfl (G.nil (E.jZ (E.jG (WC.region (Wa (.add rfl rfl (by omega)) rfl (Wn 1 rfl (W.nil (E.again (k+1) (.cons rfl (.cons rfl (.cons' rfl (int_eq (by rw[xZ (by omega)];first|(rw[if_pos j];omega)|(rw[if_neg j];omega))) (.of rfl)))) ?_ ?_))))))))))
   ·exact⟨by omega,(ab.trans l),by have:=P;have:=n.size;have:=l.size;omega,(Q.le (n.trans l)),(R.le (n.trans l)),(ac.le l),(S.le (n.trans l))⟩
   first|omega|(simp only[];omega)
  refine Cn rfl (dF j) (WC.skip (E.jZ (E.jG (WC.region (Wa (.add rfl rfl (by omega)) rfl (Wn 1 rfl (W.nil (E.again (k+1) (.cons rfl (.cons rfl (.cons' rfl (int_eq (by rw[xZ (by omega)];first|(rw[if_pos j];omega)|(rw[if_neg j];omega))) (.of rfl)))) ?_ ?_))))))))
  ·exact⟨by omega,O,by have:=P;omega,Q,R,aa,S⟩
  first|omega|(simp only[];omega)
 refine Cn rfl (dF c1) (WC.exit (E.jJ (E.jJ (E.ko (E.jZ (E.again (seen.push d.1) (.cons rfl (.cons rfl (.cons' rfl (int_eq (by have h9:=uf (f:=mX lh party) K;rw[ky]at h9;have:k=2:=(by omega);subst this;rw[QJ];omega)) (.cons rfl (.nil _))))) ?_ ?_))))))
 ·exact⟨O,by have:=ah;have:=P;have:=y.size;have:=U.size;have:=o.size;have:=t.size;have:=u.size;omega,Q,R,S⟩
 first|omega|(simp only[];omega)
end Go.Proofs.YtcaehidaejhdfaaGreat

namespace Go.Proofs.YtcaehidaejhdfaaGreat
open Tryz
open Go Go.Sx Go.Num Go.rZ Go.Lsp
set_option maxRecDepth 20000
theorem j6 {n:Int}:nu n=true↔0<=n/\n<=1125899906842624:=by simp[nu]
theorem Mo {gp gs gh c cs ck:Nat}{A:Option Addr}{own:List Int}{ls:SM}{lh:HM}{lost:Int}(s:Seat)(w:World)(hL:mf w gp gs gh A c cs ck own ls lh lost):Calls prog 40 #[.pointer (some ⟨gp,0,none⟩),.agg (jT s).toArray] w fun r w'=>∃b:Bool,r= .returned (.bool b)/\(b=true↔vM own.length s)/\Le w w':=by
 refine enter func40 rfl rfl (Sr (W.ef rfl rfl rfl (Ef.mH rfl fun m o K (t:jL o m 70 (jT s).toArray) F=>?_)))
 have n:=(Le.refl w).trans F
 refine Wn 1 rfl (Nx (Sq (Sr (Wa (.jE tC rfl) rfl (Wr (.mV [.int .i64 s.p0,.int .i64 (s.p1)] vY rfl (by decide) rfl t rfl) rfl (Wn 1 rfl (Nx (WC.block (WC.loop (ι:=Nat) (fun k=>[(0,.pointer (some ⟨gp,0,none⟩)),(3,.pointer (some ⟨m,0,none⟩)),(8,.agg #[.int .i64 s.p0,.int .i64 (s.p1)]),(9,.int .i64 ((k:Nat):Int))]) (fun k d=>(k<=2)/\(∀i,i<k->0<=s.p i/\s.p i<own.length/\0<=s.h i/\s.h i<=1125899906842624)/\Le w d/\o.heap.size<=d.heap.size/\kH d sw mK gs ls cs/\kH d Bg oK gh lh ck/\jL d m 70 (jT s).toArray) (fun k=>2-k) 0 ?_ ?_ ?_)))))))))
 ·exact .of rfl
 ·exact⟨Nat.zero_le _,fun i hi=>by omega,n,Nat.le_refl _,(hL.hS.le n),(hL.hH.le n),t⟩
 rintro k d ⟨hk,hall,e,H,I,J,f⟩
 refine Sr (Wn 1 rfl (Nx (Sq ?_)))
 by_cases u:((k:Nat):Int)<2
 ·refine Cy rfl (dT u) (Sn (Sq (WC.block (Sr (Wn 1 rfl (Wa (.sU (v:= .int .i64 (s.p k)) k underlying52 kz j5 rfl rfl rfl (by omega) (wo s (by omega))) rfl (Wn 2 rfl (Nx (Sr (Wn 2 rfl ?_))))))))))
  by_cases x:(s.p k)<0
  ·refine Dt x rfl rfl (Wn 16 rfl (Nx (WC.jS rfl (Sr (Wn 1 rfl (Nx (Rt (E.j4 (E.jH (E.jH (E.j4 (E.jH (E.jI rfl rfl ?_)))))))))))))
   exact⟨false,rfl,⟨fun h=>(by cases h),fun h=>by have hh:=(vN.1 h).1 k (by omega);(try simp only[j6]at*);omega⟩,e⟩
  refine Df x rfl rfl (Wn 2 rfl (Wg (Any.rd (.nilCheck rfl) _) rfl (Wg (Any.rd (.jE tV rfl) _) rfl (Wg (.jF (v:= .slice A own.length c) Hy rfl (hL.hp.le e) rfl) rfl (Wg (.len underlying67 rfl) rfl (Wn 2 rfl ?_))))))
  by_cases y:((own.length:Nat):Int)<=(s.p k)
  ·refine Dt y rfl rfl (Wn 7 rfl (Nx (WC.jS rfl (Sr (Wn 1 rfl (Nx (Rt (E.j4 (E.jH (E.jH (E.j4 (E.jH (E.jI rfl rfl ?_)))))))))))))
   exact⟨false,rfl,⟨fun h=>(by cases h),fun h=>by have hh:=(vN.1 h).1 k (by omega);(try simp only[j6]at*);omega⟩,e⟩
  refine Df y rfl rfl (Wn 1 rfl (Wg (Any.rd (.jE lZ rfl) _) rfl (Wg (Any.rd (.j3 k underlying52 kz rfl rfl rfl (by omega)) _) rfl (Wg (.jF (v:= .int .i64 (s.h k)) j5 rfl f (nG s (by omega))) rfl (W.mY rfl rfl rfl rfl rfl rfl (Ef.call Dm rfl rfl (qL (s.h k) d) ?_))))))
  rintro _ L ⟨rfl,j⟩
  refine⟨_,rfl,?_⟩
  have z:=e.trans j
  refine Wn 2 rfl (Nx ?_)
  by_cases B:(nu (s.h k))=true
  ·refine Cn rfl (congrArg not B) (WC.skip (E.jZ (E.jG (WC.region (Wa (.add rfl rfl (by omega)) rfl (Wn 1 rfl (W.nil (E.again (k+1) (.of rfl) ?_ ?_))))))))
   ·exact⟨by omega,fun i hi=>(Nat.lt_succ_iff_lt_or_eq.1 hi).elim (hall i) (fun hh=>by subst hh;(try simp only[j6]at*);omega),z,by have:=H;have:=j.size;omega,(I.le j),(J.le j),(f.le j)⟩
   first|omega|(simp only[];omega)
  refine Cy rfl (congrArg not (Bool.eq_false_iff.2 B)) (Sr (Wn 1 rfl (Nx (Rt (E.j4 (E.jH (E.jH (E.j4 (E.jH (E.jI rfl rfl ?_))))))))))
  exact⟨false,rfl,⟨fun h=>(by cases h),fun h=>by have hh:=(vN.1 h).1 k (by omega);(try simp only[j6]at*);omega⟩,z⟩
 refine Cn rfl (dF u) (WC.exit (E.jJ (E.jJ (E.ko (E.jG (Sr (Wa (.jE uE rfl) rfl (Wr (.jF (v:= .int .i64 s.ch) j5 rfl f rfl) rfl (Wn 1 rfl ?_)))))))))
 by_cases C:0<=s.ch
 ·refine Dt C rfl rfl (Wg (Any.rd (.jE uE rfl) _) rfl (Wg (.jF (v:= .int .i64 s.ch) j5 rfl f rfl) rfl (Wn 2 rfl ?_)))
  by_cases D:s.ch<40
  ·refine Dt D rfl rfl (Wg (Any.rd (.jE tC rfl) _) rfl (Wg (Any.rd (.j3 0 underlying52 kz rfl rfl rfl (by omega)) _) rfl (Wg (.jF (v:= .int .i64 s.p0) j5 rfl f rfl) rfl (Wg (Any.rd (.jE tC rfl) _) rfl (Wg (Any.rd (.j3 1 underlying52 kz rfl rfl rfl (by omega)) _) rfl ?_)))))
   refine Wg (.jF (v:= .int .i64 s.p1) j5 rfl f rfl) rfl (Wn 3 rfl (Nx (Rt (E.jI rfl rfl ?_))))
   refine⟨_,rfl,?_,e⟩;rw[vN];have l:∀i,i<2->0<=s.p i/\s.p i<own.length/\0<=s.h i/\s.h i<=1125899906842624:=(fun i hi=>hall i (by omega));simp only[decide_eq_true_eq,Bool.false_eq_true,false_iff];first|exact⟨fun h=>⟨l,by omega,by omega,h⟩,fun h=>h.2.2.2⟩|exact fun h=>by omega
  refine Df D rfl rfl (Wn 9 rfl (Nx (Rt (E.jI rfl rfl ?_))))
  refine⟨_,rfl,?_,e⟩;rw[vN];have l:∀i,i<2->0<=s.p i/\s.p i<own.length/\0<=s.h i/\s.h i<=1125899906842624:=(fun i hi=>hall i (by omega));simp only[decide_eq_true_eq,Bool.false_eq_true,false_iff];first|exact⟨fun h=>⟨l,by omega,by omega,h⟩,fun h=>h.2.2.2⟩|exact fun h=>by omega
 refine Df C rfl rfl (Wn 14 rfl (Nx (Rt (E.jI rfl rfl ?_))))
 refine⟨_,rfl,?_,e⟩;rw[vN];have l:∀i,i<2->0<=s.p i/\s.p i<own.length/\0<=s.h i/\s.h i<=1125899906842624:=(fun i hi=>hall i (by omega));simp only[decide_eq_true_eq,Bool.false_eq_true,false_iff];first|exact⟨fun h=>⟨l,by omega,by omega,h⟩,fun h=>h.2.2.2⟩|exact fun h=>by omega

theorem DD {gp gs gh c n:Nat}{A:Option Addr}{own:List Int}{lost:Int}(s:Seat)(j:Nat)(amount fee:Int)(w:World)(hp0:jL w gp 132 #[.slice A n c,.map (some gs),.map (some gh),.int .i64 (lost)])(Fw:jO w 0 3 iv 1 A n c own)(n4:rowOf A c≠some gp)(hj:j<2)(hp:0<=s.p j/\s.p j<n)(h1: -2251799813685248<=amount/\amount<=2251799813685248)(h2:0<=fee/\fee<=1125899906842624)(h3: -2251799813685248<=own.getD (s.p j).toNat 0/\own.getD (s.p j).toNat 0<=2251799813685248)(h4:0<=lost/\lost<=2251799813685248):Calls prog 42 #[.pointer (some ⟨gp,0,none⟩),.agg (jT s).toArray,.int .i64 ((j:Nat):Int),.int .i64 amount,.int .i64 (fee)] w fun r w'=>r= .returned (.tuple #[])/\jL w' gp 132 #[.slice A n c,.map (some gs),.map (some gh),.int .i64 (lost+fee)]/\jO w' 0 3 iv 1 A n c (own.set (s.p j).toNat (own.getD (s.p j).toNat 0-(amount+fee)))/\ll w w' (fun k=>k=gp\/rowOf A c=some k):=by
 have hon:=Fw.1
 refine enter func42 rfl rfl (Sr (W.ef rfl rfl rfl (Ef.mH rfl fun y z K (B:jL z y 70 (jT s).toArray) d=>(Nx (Sq (WC.draw [0,1,2,3,4,5,6,7,8,9,10,11,12,13,14,15] mixed (by kernel_rfl) fun L b=>?_))))))
 have C:=((ll.refl w (fun k=>k=gp\/rowOf A c=some k)).le d).le b
 refine Gn 1 rfl (Ga rfl (.nilCheck rfl) (Ga rfl (.jE tV rfl) ?_))
 have f:=(hp0.le (d.trans b))
 refine Gd rfl (.jF (v:= .slice A n c) Hy rfl f rfl) (Gn 1 rfl (Ga rfl (.jE tC rfl) (Ga rfl (.j3 j underlying52 kz rfl rfl rfl (by omega)) (Gd rfl (.jF (v:= .int .i64 (s.p j)) j5 rfl (B.le b) (JI s (by omega))) (Ga rfl (.lL ((s.p j).toNat) underlying67 kz rfl rfl (Fw.vec.isSome kr (by omega)) (by omega) (by omega)) ?_)))))
 have l:=(Fw.le (d.trans b))
 refine Gd rfl (.pg (v:= .int .i64 (own.getD ((s.p j).toNat) 0)) j5 rfl l.vec kr (lF own 0 (by omega)) rfl) (Gn 2 rfl (Ga rfl (.add rfl rfl (by omega)) (Ga rfl (.sub rfl rfl (by omega)) (Ga rfl (.lL ((s.p j).toNat) underlying67 kz rfl rfl (Fw.vec.isSome kr (by omega)) (by omega) (by omega)) (G.kP rfl rfl rfl rfl ?_)))))
 refine Ef.Jf (j:=(s.p j).toNat) (o:=0) ((own.getD ((s.p j).toNat) 0)-(amount+fee)) kz rfl (by omega) rfl l kr (lF own 0 (by omega)) (by decide) rfl rfl fun D F m=>(noT (by kernel_rfl) ?_)
 have H:ll w D (fun k=>k=gp\/rowOf A c=some k):=C.ch m (fun i hi _=>(fun i hi=>Or.inr hi) i hi)
 refine G.nil (E.jG (WC.region (Wn 1 rfl (Wa (.nilCheck rfl) rfl (Wa (.jE Be rfl) rfl ?_)))))
 have t:=(f.ch m n4)
 refine Wr (.jF (v:= .int .i64 lost) j5 rfl t rfl) rfl (Wn 1 rfl (Wa (.add rfl rfl (by omega)) rfl (Wa (.nilCheck rfl) rfl (Wa (.jE Be rfl) rfl (W.kP rfl rfl ?_)))))
 refine Ef.store kz rfl rfl t (by first|decide|(simp;done)) rfl ?_
 intro u e x
 have e:jL u gp 132 #[.slice A n c,.map (some gs),.map (some gh),.int .i64 (lost+fee)]:=e
 have I:ll w u (fun k=>k=gp\/rowOf A c=some k):=H.ch x (fun i hi _=>by cases hi;exact Or.inl rfl)
 refine W.nil (E.end_ ?_)
 have J:=(F.ch x (fun q hq=>by cases hq;exact n4))
 refine E.Vh rfl ?_
 exact⟨rfl,e,J,I⟩

theorem QK {gp gs gh c cs ck:Nat}{A:Option Addr}{own:List Int}{ls:SM}{lh:HM}{lost:Int}(s:Seat)(fee:Int)(w:World)(hL:mf w gp gs gh A c cs ck own ls lh lost)(hw:∀i,0<=own.getD i 0/\own.getD i 0<=1125899906842624)(hl:0<=lost/\lost<=1125899906842624):Calls prog 9 #[.pointer (some ⟨gp,0,none⟩),.agg (jT s).toArray,.int .i64 (fee)] w fun r w'=>ll w w' (LF gp gs gh A c)/\((¬(vM own.length s/\0<=fee/\fee<=1125899906842624)/\r= .returned (.int .i64 1)/\mf w' gp gs gh A c cs ck own ls lh lost)\/((vM own.length s/\0<=fee/\fee<=1125899906842624)/\(∃t,jW s.ch ls=some t)/\r= .returned (.int .i64 4)/\mf w' gp gs gh A c cs ck own ls lh lost)\/((vM own.length s/\0<=fee/\fee<=1125899906842624)/\jW s.ch ls=none/\(own.getD s.p0.toNat 0<s.h0+fee\/own.getD s.p1.toNat 0<s.h1)/\r= .returned (.int .i64 8)/\mf w' gp gs gh A c cs ck own ls lh lost)\/((vM own.length s/\0<=fee/\fee<=1125899906842624)/\jW s.ch ls=none/\¬(own.getD s.p0.toNat 0<s.h0+fee\/own.getD s.p1.toNat 0<s.h1)/\r= .returned (.int .i64 0)/\mf w' gp gs gh A c (cs+1) ck (pI (pI own s 0 s.h0 fee) s 1 s.h1 0) (ls++[(cs,s.ch,s)]) lh (lost+fee))):=by
 have N:=hL.hp
 have m:=hL.hO
 have S:=hL.hS
 have n:=hL.hH
 have y:=hL.ps
 have B:=hL.ph
 have H:=hL.sh
 have C:=hL.op
 have z:=hL.os
 have D:=hL.oh
 have aS:=hw s.p0.toNat
 have aT:=hw s.p1.toNat
 have aU:s.p 0=s.p0:=rfl
 have aV:s.p 1=s.p1:=rfl
 refine enter func9 rfl rfl (Sr (W.ef rfl rfl rfl (Ef.mH rfl fun Y af aW (ah:jL af Y 70 (jT s).toArray) b=>(Wn 1 rfl (Nx (Sq (Sr (Wn 1 rfl (Wr (.jK wW (by rfl) rfl ah) rfl ?_)))))))))
 refine W.cl Ye rfl rfl (Mo s af (hL.le b)) ?_
 rintro _ ap ⟨aq,rfl,Z,d⟩
 have L3:=((ll.refl w (LF gp gs gh A c)).le b).le d
 refine Wn 1 rfl ?_
 by_cases aa:aq=true
 ·refine Wa (.dec (.move rfl) (congrArg not aa)) rfl (Wn 1 rfl (W.mY rfl rfl rfl rfl rfl rfl (Ef.call Dm rfl rfl (qL fee ap) ?_)))
  rintro _ aX ⟨rfl,e⟩
  refine⟨_,rfl,?_⟩
  have L4:=L3.le e
  refine Wn 2 rfl (Nx ?_)
  by_cases c0:(nu fee)=true
  ·refine Cn rfl (congrArg not c0) ?_
   have hok:vM own.length s/\0<=fee/\fee<=1125899906842624:=⟨Z.1 aa,j6.1 c0⟩
   have hm:=hok.1
   unfold vM at hm
   refine Sn (Sq (Sq (WC.draw [0,1,2,3,4,5,6,7,8,9,10,11,12] mixed (by kernel_rfl) fun w3 f=>?_)))
   have T:=L4.le f
   refine Gn 1 rfl (Ga rfl (.nilCheck rfl) (Ga rfl (.jE mM rfl) ?_))
   have O:=(N.le (b.trans (d.trans (e.trans f))))
   refine Gd rfl (.jF (v:= .map (some gs)) rR rfl O rfl) (Ga rfl (.jE uE rfl) ?_)
   have f7:=(ah.le (d.trans (e.trans f)))
   refine Gd rfl (.jF (v:= .int .i64 s.ch) j5 rfl f7 rfl) ?_
   rcases optG (jW s.ch ls)with F|⟨ab,F⟩
   ·have I:=(S.le (b.trans (d.trans (e.trans f))))
    refine Gd rfl (.as (.mi (key:=s.ch) underlying129 oU z70 rfl rfl I) (by rw[F]<;>rfl)) ?_
    refine Gn 1 rfl (Ga rfl (.extract (v:= .agg (jT jM).toArray) rfl rfl) (Gn 1 rfl (G.ef rfl rfl rfl rfl rfl (Ef.jR z70 fun ar au av (aw:jL au ar 70 (jT jM).toArray) l=>⟨fun _=>l,?_⟩))))
    have L9:=T.le l
    refine G.kP rfl rfl rfl rfl (Ef.storeAll rQ (by rfl) rfl rfl aw (by simp only[List.size_toArray,jQ.len]) (jQ.one jM) ?_)
    intro ax aY o
    refine noT (by kernel_rfl) ?_
    have ay:ll w ax (LF gp gs gh A c):=L9.ch o (fun i hi hlt=>by cases hi;exact absurd hlt (by have:=T.size;have:=av;omega))
    refine Gn 1 rfl (G.nil (E.jG (Sr (Wn 1 rfl (Nx (WC.kF rfl (Sn (Sq (Sq (WC.draw [0,1,2,3,4,5,6,7,8,9,10,11,12,13,14,15,16,17,18,19,20,21,22,23,24,25,26,27,28,29] mixed (by kernel_rfl) fun w6 x=>?_))))))))))
    have ac:=ay.le x
    refine Gn 1 rfl (Ga rfl (.nilCheck rfl) (Ga rfl (.jE tV rfl) ?_))
    have P:=(((O.le l).cn o (by have:=O.lt;omega)).le x)
    refine Gd rfl (.jF (v:= .slice A own.length c) Hy rfl P rfl) (Ga rfl (.jE tC rfl) (Ga rfl (.j3 0 underlying52 kz rfl rfl rfl (by omega)) ?_))
    have J:=(((f7.le l).cn o (by have:=f7.lt;omega)).le x)
    refine Gd rfl (.jF (v:= .int .i64 s.p0) j5 rfl J rfl) (Ga rfl (.lL ((s.p0).toNat) underlying67 kz rfl rfl (m.vec.isSome kr (by omega)) (by omega) (by omega)) ?_)
    have Q:=(((m.le (b.trans (d.trans (e.trans (f.trans l))))).cb o (m.rn (by have:=b.size;have:=d.size;have:=e.size;have:=f.size;omega))).le x)
    refine Gd rfl (.pg (v:= .int .i64 (own.getD ((s.p0).toNat) 0)) j5 rfl Q.vec kr (lF own 0 (by omega)) rfl) (Ga rfl (.jE lZ rfl) (Ga rfl (.j3 0 underlying52 kz rfl rfl rfl (by omega)) (Gd rfl (.jF (v:= .int .i64 s.h0) j5 rfl J rfl) (Gn 1 rfl (Ga rfl (.add rfl rfl (by omega)) ?_)))))
    refine Gn 1 rfl ?_
    by_cases ai:(own.getD ((s.p0).toNat) 0)<(s.h0+fee)
    ·refine Ga rfl (.dec (.move rfl) (dT ai)) (Gn 14 rfl (G.nil (E.jG (WC.jS rfl (Sr (Wn 1 rfl (Nx (Rt (E.jH (E.jI rfl rfl ?_))))))))))
     exact⟨ac,.inr (.inr (.inl ⟨hok,F,(by omega),rfl,⟨P,Q,(((I.le l).cn o (by have:=I.lt;omega)).le x),(((n.le (b.trans (d.trans (e.trans (f.trans l))))).cn o (by have:=n.lt;have:=b.size;have:=d.size;have:=e.size;have:=f.size;omega)).le x),y,B,H,C,z,D⟩⟩))⟩
    refine Ga rfl (.dec (.move rfl) (dF ai)) (Gn 1 rfl (oJ rfl (.nilCheck rfl) (oJ rfl (.jE tV rfl) (uw rfl (.jF (v:= .slice A own.length c) Hy rfl P rfl) (oJ rfl (.jE tC rfl) ?_)))))
    refine oJ rfl (.j3 1 underlying52 kz rfl rfl rfl (by omega)) (uw rfl (.jF (v:= .int .i64 s.p1) j5 rfl J rfl) (oJ rfl (.lL ((s.p1).toNat) underlying67 kz rfl rfl (m.vec.isSome kr (by omega)) (by omega) (by omega)) (uw rfl (.pg (v:= .int .i64 (own.getD ((s.p1).toNat) 0)) j5 rfl Q.vec kr (lF own 0 (by omega)) rfl) (oJ rfl (.jE lZ rfl) (oJ rfl (.j3 1 underlying52 kz rfl rfl rfl (by omega)) ?_)))))
    refine uw rfl (.jF (v:= .int .i64 s.h1) j5 rfl J rfl) (Gn 2 rfl (G.nil (E.jG ?_)))
    by_cases c2:(own.getD ((s.p1).toNat) 0)<s.h1
    ·refine Cy rfl (dT c2) (Sr (Wn 1 rfl (Nx (Rt (E.jH (E.jI rfl rfl ?_))))))
     exact⟨ac,.inr (.inr (.inl ⟨hok,F,(by omega),rfl,⟨P,Q,(((I.le l).cn o (by have:=I.lt;omega)).le x),(((n.le (b.trans (d.trans (e.trans (f.trans l))))).cn o (by have:=n.lt;have:=b.size;have:=d.size;have:=e.size;have:=f.size;omega)).le x),y,B,H,C,z,D⟩⟩))⟩
    refine Cn rfl (dF c2) (Sn (Sr (Wn 1 rfl (Wr (.jK wW (by rfl) rfl J) rfl ?_))))
    refine Wa (.jE lZ rfl) rfl (Wa (.j3 0 underlying52 kz rfl rfl rfl (by omega)) rfl (Wr (.jF (v:= .int .i64 s.h0) j5 rfl J rfl) rfl (Wn 1 rfl (W.cl Tq rfl rfl (DD (own:=own) (lost:=lost) s 0 s.h0 fee w6 P Q C (by decide) (by omega) (by omega) (by omega) (by have:=hw (s.p 0).toNat;omega) (by omega)) ?_))))
    rintro _ az ⟨rfl,aA,aB,U⟩
    have aC:=ac.sub U (fun i hi hlt=>Or.elim hi (fun hi=>(by subst hi;exact Or.inl rfl)) (fun hi=>((fun i hi=>Or.inr (Or.inr (Or.inr hi))) i hi)))
    refine Nx (Sr (Wn 1 rfl ?_))
    have ad:=(J.kX U (fun hF=>Or.elim hF (fun hF=>(show Y≠gp from by have:=N.lt;omega) hF) (fun hF=>(m.rn (by omega)) hF)))
    refine Wr (.jK wW (by rfl) rfl ad) rfl ?_
    refine Wa (.jE lZ rfl) rfl (Wa (.j3 1 underlying52 kz rfl rfl rfl (by omega)) rfl (Wr (.jF (v:= .int .i64 s.h1) j5 rfl ad rfl) rfl (W.cl Tq rfl rfl (DD (own:=(own.set (s.p 0).toNat (own.getD (s.p 0).toNat 0-(s.h0+fee)))) (lost:=(lost+fee)) s 1 s.h1 0 az aA aB C (by decide) (by omega) (by omega) (by omega) (by have e9:=vO (own:=own) (s:=s) (j:=0) (k:=1) (am:=s.h0) (fee:=fee) (by omega) (by omega) (by omega);unfold pI at e9;rw[e9];have:=hw (s.p 1).toNat;omega) (by omega)) ?_)))
    rintro _ aZ ⟨rfl,aD,aE,V⟩
    have aF:=aC.sub V (fun i hi hlt=>Or.elim hi (fun hi=>(by subst hi;exact Or.inl rfl)) (fun hi=>((fun i hi=>Or.inr (Or.inr (Or.inr hi))) i hi)))
    refine Nx (Sq (WC.draw [0,1,2,3,4,5,6,7] mixed (by kernel_rfl) fun a0 K=>?_))
    have aG:=aF.le K
    refine Gn 1 rfl (Ga rfl (.nilCheck rfl) (Ga rfl (.jE mM rfl) ?_))
    have aj:=(aD.le K)
    refine Gd rfl (.jF (v:= .map (some gs)) rR rfl aj rfl) (Ga rfl (.jE uE rfl) ?_)
    have ak:=((ad.kX V (fun hF=>Or.elim hF (fun hF=>(show Y≠gp from by have:=N.lt;omega) hF) (fun hF=>(m.rn (by omega)) hF))).le K)
    refine Gd rfl (.jF (v:= .int .i64 s.ch) j5 rfl ak rfl) (Gd rfl (.jK wW (by rfl) rfl ak) ?_)
    refine G.kP rfl rfl rfl rfl (Ef.yB (key:=s.ch) (u:=s) underlying129 oU rfl rfl rfl ((((((I.le l).cn o (by have:=I.lt;omega)).le x).kX U (fun hF=>Or.elim hF (fun hF=>(Ne.symm y) hF) (fun hF=>z hF))).kX V (fun hF=>Or.elim hF (fun hF=>(Ne.symm y) hF) (fun hF=>z hF))).le K) F ?_)
    intro aH aI X
    refine noT (by kernel_rfl) ?_
    have aJ:ll w aH (LF gp gs gh A c):=aG.ch X (fun i hi _=>by cases hi;exact Or.inr (Or.inl rfl))
    refine G.nil (E.jG (Sr (Wn 1 rfl (Nx (Rt ?_)))))
    have aK:=((aE.le K).ch X (fun q hq=>by cases hq;exact z))
    have aL:=(aj.ch X (fun h=>(Ne.symm y) (oI h)))
    have aM:=(((((((n.le (b.trans (d.trans (e.trans (f.trans l))))).cn o (by have:=n.lt;have:=b.size;have:=d.size;have:=e.size;have:=f.size;omega)).le x).kX U (fun hF=>Or.elim hF (fun hF=>(Ne.symm B) hF) (fun hF=>D hF))).kX V (fun hF=>Or.elim hF (fun hF=>(Ne.symm B) hF) (fun hF=>D hF))).le K).ch X (fun h=>H (oI h)))
    refine E.jI rfl rfl ?_
    exact⟨aJ,.inr (.inr (.inr ⟨hok,F,(by omega),rfl,⟨(by rw[oo,oo];have hh:=aL;rw[Int.add_zero]at hh;exact hh),(by rw[oo,oo];exact aK),aI,aM,y,B,H,C,z,D⟩⟩))⟩
   have ae:=(S.le (b.trans (d.trans (e.trans f))))
   refine Gd rfl (.as (.mi (key:=s.ch) underlying129 oU z70 rfl rfl ae) (by rw[F]<;>rfl)) ?_
   refine Gn 1 rfl (Ga rfl (.extract (v:= .agg (jT ab).toArray) rfl rfl) (Gn 1 rfl (G.ef rfl rfl rfl rfl rfl (Ef.jR z70 fun al aN aO (aP:jL aN al 70 (jT jM).toArray) L=>⟨fun _=>L,?_⟩))))
   have aQ:=T.le L
   refine G.kP rfl rfl rfl rfl (Ef.storeAll rQ (by rfl) rfl rfl aP (by simp only[List.size_toArray,jQ.len]) (jQ.one ab) ?_)
   intro an ao R
   refine noT (by kernel_rfl) ?_
   have ao:jL an al 70 (jT ab).toArray:=ao
   have aR:ll w an (LF gp gs gh A c):=aQ.ch R (fun i hi hlt=>by cases hi;exact absurd hlt (by have:=T.size;have:=aO;omega))
   refine Gn 1 rfl (G.nil (E.jG (Sr (Wn 1 rfl (Nx (WC.jS rfl (Sr (Wn 1 rfl (Nx (Rt (E.jH (E.jI rfl rfl ?_))))))))))))
   exact⟨aR,.inr (.inl ⟨hok,⟨_,F⟩,rfl,⟨((O.le L).cn R (by have:=O.lt;omega)),((m.le (b.trans (d.trans (e.trans (f.trans L))))).cb R (m.rn (by have:=b.size;have:=d.size;have:=e.size;have:=f.size;omega))),((ae.le L).cn R (by have:=ae.lt;omega)),((n.le (b.trans (d.trans (e.trans (f.trans L))))).cn R (by have:=n.lt;have:=b.size;have:=d.size;have:=e.size;have:=f.size;omega)),y,B,H,C,z,D⟩⟩)⟩
  refine Cy rfl (congrArg not (Bool.eq_false_iff.2 c0)) (Sr (Wn 1 rfl (Nx (Rt (E.jH (E.jI rfl rfl ?_))))))
  exact⟨L4,.inl ⟨(fun h=>by first|(exact absurd (Z.2 h.1) (by assumption))|(exact absurd (j6.2 h.2) (by assumption))),rfl,⟨(N.le (b.trans (d.trans e))),(m.le (b.trans (d.trans e))),(S.le (b.trans (d.trans e))),(n.le (b.trans (d.trans e))),y,B,H,C,z,D⟩⟩⟩
 refine Wa (.dec (.move rfl) (congrArg not (Bool.eq_false_iff.2 aa))) rfl (Wn 4 rfl (Nx (WC.jS rfl (Sr (Wn 1 rfl (Nx (Rt (E.jH (E.jI rfl rfl ?_)))))))))
 exact⟨L3,.inl ⟨(fun h=>by first|(exact absurd (Z.2 h.1) (by assumption))|(exact absurd (j6.2 h.2) (by assumption))),rfl,⟨(N.le (b.trans d)),(m.le (b.trans d)),(S.le (b.trans d)),(n.le (b.trans d)),y,B,H,C,z,D⟩⟩⟩
end Go.Proofs.YtcaehidaejhdfaaGreat

namespace Go.Proofs.YtcaehidaejhdfaaGreat
open Tryz
open Go Go.Sx Go.Num Go.rZ Go.Lsp
set_option maxRecDepth 20000
theorem x8 {x:Int}(w:World):(Instr.keyThatStays (sw x) (sw x)).run prog w= .ok (sw x) w:=by
  have h:Instr.sameBits 10000 (.int .i64 x) (.int .i64 x)=true:=by simp[Instr.sameBits]
  unfold sw
  simp[Instr.keyThatStays,h]
theorem JK {gp gs gh c cs ck:Nat}{A:Option Addr}{own:List Int}{ls:SM}{lh:HM}{lost:Int}(ch:Int)(w:World)(hL:mf w gp gs gh A c cs ck own ls lh lost)(hb:∀x∈lh,0<=x.2.2.am)(ht0:kE lh ch 0<=1125899906842624)(ht1:kE lh ch 1<=1125899906842624):Calls prog 44 #[.pointer (some ⟨gp,0,none⟩),.int .i64 (ch)] w fun r w'=>r= .returned (.bool (decide (kE lh ch 0+kE lh ch 1=0)))/\Le w w':=by
 have j:0<=kE lh ch 0:=mF (uF hb)
 have e1:0<=kE lh ch 1:=mF (uF hb)
 refine enter func44 rfl rfl ?_
 have b:=Le.refl w
 refine Sr (Wn 1 rfl (Nx (Sr (Wn 2 rfl (W.cl Tp rfl rfl (Bi ch 0 w (hL.le b) hb (by omega)) ?_)))))
 rintro _ e ⟨rfl,f⟩
 have d:=b.trans f
 refine Wn 2 rfl (W.cl Tp rfl rfl (Bi ch 1 e (hL.le d) hb (by omega)) ?_)
 rintro _ k ⟨rfl,i⟩
 refine Wa (.add rfl rfl (by omega)) rfl (Wn 2 rfl (Nx (Rt (E.jI rfl rfl ?_))))
 exact⟨rfl,(d.trans i)⟩

theorem NP {gp gs gh c cs ck:Nat}{A:Option Addr}{own:List Int}{ls:SM}{lh:HM}{lost:Int}(ch side id am:Int)(pt:Nat)(w:World)(hL:mf w gp gs gh A c cs ck own ls lh lost)(hpt:pt<18446744073709551616)(hw:∀x∈ls,∀i,0<=x.2.2.h i/\x.2.2.h i<=1125899906842624):Calls prog 15 #[.pointer (some ⟨gp,0,none⟩),.int .i64 ch,.int .i64 side,.int .i64 id,.int .i64 am,.int .u64 ((pt:Nat):Int)] w fun r w'=>ll w w' (LF gp gs gh A c)/\((¬wK side id am pt/\r= .returned (.int .i64 1)/\mf w' gp gs gh A c cs ck own ls lh lost)\/(wK side id am pt/\jW ch ls=none/\r= .returned (.int .i64 5)/\mf w' gp gs gh A c cs ck own ls lh lost)\/(wK side id am pt/\∃s,jW ch ls=some s/\((∃h,jW (⟨ch,side,id⟩:lX) lh=some h/\r= .returned (.int .i64 4)/\mf w' gp gs gh A c cs ck own ls lh lost)\/(jW (⟨ch,side,id⟩:lX) lh=none/\((s.h side.toNat<am/\r= .returned (.int .i64 8)/\mf w' gp gs gh A c cs ck own ls lh lost)\/(¬s.h side.toNat<am/\r= .returned (.int .i64 0)/\mf w' gp gs gh A c cs (ck+1) own (oq ch (s.setH side.toNat (s.h side.toNat-am)) ls) (lh++[(ck,(⟨ch,side,id⟩:lX),⟨am,pt⟩)]) lost)))))):=by
 have Q:=hL.hp
 have j:=hL.hO
 have O:=hL.hS
 have k:=hL.hH
 have B:=hL.ps
 have C:=hL.ph
 have y:=hL.sh
 have L:=hL.op
 have D:=hL.os
 have F:=hL.oh
 refine enter func15 rfl rfl ?_
 have L0:=ll.refl w (LF gp gs gh A c)
 refine Sr (Wn 1 rfl (Nx (Sq (Sr (Wn 2 rfl ?_)))))
 by_cases ax:side<0
 ·refine Dt ax rfl rfl (Wn 25 rfl (Nx (WC.jS rfl (Sr (Wn 1 rfl (Nx (Rt (E.jH (E.jI rfl rfl ?_)))))))))
  exact⟨L0,.inl ⟨(fun h=>by obtain⟨V,X,H,I,J⟩:=h;first|omega|(exact absurd (j6.2 ⟨by omega,H.2⟩) (by assumption))|(exact absurd J (by assumption))|(apply I;omega)),rfl,⟨Q,j,O,k,B,C,y,L,D,F⟩⟩⟩
 refine Df ax rfl rfl (Wn 3 rfl ?_)
 by_cases ay:1<side
 ·refine Dt ay rfl rfl (Wn 21 rfl (Nx (WC.jS rfl (Sr (Wn 1 rfl (Nx (Rt (E.jH (E.jI rfl rfl ?_)))))))))
  exact⟨L0,.inl ⟨(fun h=>by obtain⟨V,X,H,I,J⟩:=h;first|omega|(exact absurd (j6.2 ⟨by omega,H.2⟩) (by assumption))|(exact absurd J (by assumption))|(apply I;omega)),rfl,⟨Q,j,O,k,B,C,y,L,D,F⟩⟩⟩
 refine Df ay rfl rfl (Wn 3 rfl ?_)
 by_cases az:id<1
 ·refine Dt az rfl rfl (Wn 17 rfl (Nx (WC.jS rfl (Sr (Wn 1 rfl (Nx (Rt (E.jH (E.jI rfl rfl ?_)))))))))
  exact⟨L0,.inl ⟨(fun h=>by obtain⟨V,X,H,I,J⟩:=h;first|omega|(exact absurd (j6.2 ⟨by omega,H.2⟩) (by assumption))|(exact absurd J (by assumption))|(apply I;omega)),rfl,⟨Q,j,O,k,B,C,y,L,D,F⟩⟩⟩
 refine Df az rfl rfl (Wn 3 rfl ?_)
 by_cases aA:am<1
 ·refine Dt aA rfl rfl (Wn 13 rfl (Nx (WC.jS rfl (Sr (Wn 1 rfl (Nx (Rt (E.jH (E.jI rfl rfl ?_)))))))))
  exact⟨L0,.inl ⟨(fun h=>by obtain⟨V,X,H,I,J⟩:=h;first|omega|(exact absurd (j6.2 ⟨by omega,H.2⟩) (by assumption))|(exact absurd J (by assumption))|(apply I;omega)),rfl,⟨Q,j,O,k,B,C,y,L,D,F⟩⟩⟩
 refine Df aA rfl rfl (Wn 1 rfl (W.mY rfl rfl rfl rfl rfl rfl (Ef.call Dm rfl rfl (qL am w) ?_)))
 rintro _ a4 ⟨rfl,b⟩
 refine⟨_,rfl,?_⟩
 have L1:=L0.le b
 refine Wn 2 rfl ?_
 by_cases aB:(nu am)=true
 ·refine Wa (.dec (.move rfl) (congrArg not aB)) rfl (Wn 3 rfl ?_)
  by_cases aC:((pt:Nat):Int)=1
  ·refine Dt aC rfl rfl (Wn 4 rfl (Nx (WC.jS rfl (Sr (Wn 1 rfl (Nx (Rt (E.jH (E.jI rfl rfl ?_)))))))))
   exact⟨L1,.inl ⟨(fun h=>by obtain⟨V,X,H,I,J⟩:=h;first|omega|(exact absurd (j6.2 ⟨by omega,H.2⟩) (by assumption))|(exact absurd J (by assumption))|(apply I;omega)),rfl,⟨(Q.le b),(j.le b),(O.le b),(k.le b),B,C,y,L,D,F⟩⟩⟩
  refine Df aC rfl rfl (Wn 1 rfl (W.mY rfl rfl rfl rfl rfl rfl (Ef.call Tt rfl rfl (yG pt hpt a4) ?_)))
  rintro _ bP ⟨rfl,d⟩
  refine⟨_,rfl,?_⟩
  have Y:=L1.le d
  refine Wn 2 rfl (Nx ?_)
  by_cases c0:(right pt)=true
  ·refine Cn rfl (congrArg not c0) ?_
   have hok:wK side id am pt:=⟨by omega,by omega,⟨by omega,(j6.1 (by assumption)).2⟩,by omega,by assumption⟩
   have a5:=hok
   obtain⟨o1,o2,o3,o4,o5⟩:=a5
   refine Sn (Sr (Wn 1 rfl (Wa (.nilCheck rfl) rfl (Wa (.jE mM rfl) rfl ?_))))
   have S:=(Q.le (b.trans d))
   refine Wr (.jF (v:= .map (some gs)) rR rfl S rfl) rfl (Wn 1 rfl ?_)
   rcases optG (jW ch ls)with P|⟨m,P⟩
   ·have f8:=(O.le (b.trans d))
    refine Wr (.as (.mi (key:=ch) underlying129 oU z70 rfl rfl f8) (by rw[P]<;>rfl)) rfl ?_
    refine Wn 1 rfl (Wa (.extract (v:= .agg (jT jM).toArray) rfl rfl) rfl (Wn 1 rfl (W.ef rfl rfl rfl (Ef.jR z70 fun a6 a7 a8 (a9:jL a7 a6 70 (jT jM).toArray) ah=>?_))))
    have L9:=Y.le ah
    refine W.kP rfl rfl (Ef.storeAll rQ (by rfl) rfl rfl a9 (by simp only[List.size_toArray,jQ.len]) (jQ.one jM) ?_)
    intro ba bQ ai
    have bb:ll w ba (LF gp gs gh A c):=L9.ch ai (fun i hi hlt=>by cases hi;exact absurd hlt (by have:=Y.size;have:=a8;omega))
    refine Wn 1 rfl (Nx (Sq (Sr (Wn 2 rfl (Nx (WC.jS rfl (Sr (Wn 1 rfl (Nx (Rt (E.jH (E.jI rfl rfl ?_))))))))))))
    exact⟨bb,.inr (.inl ⟨hok,P,rfl,⟨((S.le ah).cn ai (by have:=S.lt;omega)),((j.le (b.trans (d.trans ah))).cb ai (j.rn (by have:=b.size;have:=d.size;omega))),((f8.le ah).cn ai (by have:=f8.lt;omega)),((k.le (b.trans (d.trans ah))).cn ai (by have:=k.lt;have:=b.size;have:=d.size;omega)),B,C,y,L,D,F⟩⟩)⟩
   obtain⟨bh,Mq⟩:=oQ P
   have hsw:0<=m.h side.toNat/\m.h side.toNat<=1125899906842624:=hw _ Mq side.toNat
   have n:=(O.le (b.trans d))
   refine Wr (.as (.mi (key:=ch) underlying129 oU z70 rfl rfl n) (by rw[P]<;>rfl)) rfl ?_
   refine Wn 1 rfl (Wa (.extract (v:= .agg (jT m).toArray) rfl rfl) rfl (Wn 1 rfl (W.ef rfl rfl rfl (Ef.jR z70 fun al bc aD (bd:jL bc al 70 (jT jM).toArray) e=>?_))))
   have be:=Y.le e
   refine W.kP rfl rfl (Ef.storeAll rQ (by rfl) rfl rfl bd (by simp only[List.size_toArray,jQ.len]) (jQ.one m) ?_)
   intro aE Z f
   have Z:jL aE al 70 (jT m).toArray:=Z
   have aF:ll w aE (LF gp gs gh A c):=be.ch f (fun i hi hlt=>by cases hi;exact absurd hlt (by have:=Y.size;have:=aD;omega))
   refine Wn 1 rfl (Nx (Sq (Sr (Wn 2 rfl (Nx (WC.kF rfl (Sn (Sr (Wn 3 rfl (Wa (.kK (mh (⟨ch,side,id⟩:lX)) Qv z138 rfl rfl) rfl (W.ef rfl rfl rfl (Ef.jR z138 fun ao bf bg (bi:jL bf ao 138 (mh GV).toArray) o=>?_))))))))))))
   have bj:=aF.le o
   refine W.kP rfl rfl (Ef.storeAll JC (by rfl) rfl rfl bi (by simp only[List.size_toArray,pW.len]) (pW.one (⟨ch,side,id⟩:lX)) ?_)
   intro aG ap t
   have ap:jL aG ao 138 (mh (⟨ch,side,id⟩:lX)).toArray:=ap
   have bk:ll w aG (LF gp gs gh A c):=bj.ch t (fun i hi hlt=>by cases hi;exact absurd hlt (by have:=aF.size;have:=bg;omega))
   refine Nx (Sq (Sq (WC.draw [0,1,2,3,4,5,6,7,8,9,10,11] mixed (by kernel_rfl) fun w7 l=>?_)))
   have an:=bk.le l
   refine Gn 1 rfl (Ga rfl (.nilCheck rfl) (Ga rfl (.jE wZ rfl) ?_))
   have T:=(((((S.le e).cn f (by have:=S.lt;omega)).le o).cn t (by have:=S.lt;have:=e.size;have:=f.size;omega)).le l)
   refine Gd rfl (.jF (v:= .map (some gh)) EH rfl T rfl) ?_
   have aq:=(ap.le l)
   refine Gd rfl (.jK Da (by rfl) rfl aq) ?_
   rcases optG (jW (⟨ch,side,id⟩:lX) lh)with R|⟨ar,R⟩
   ·have aj:=(((((k.le (b.trans (d.trans e))).cn f (by have:=k.lt;have:=b.size;have:=d.size;omega)).le o).cn t (by have:=k.lt;have:=b.size;have:=d.size;have:=e.size;have:=f.size;omega)).le l)
    refine Gd rfl (.as (.mi (key:=(⟨ch,side,id⟩:lX)) underlying130 xc yR rfl rfl aj) (by rw[R]<;>rfl)) ?_
    refine Gn 1 rfl (Ga rfl (.extract (v:= .agg (qx qP).toArray) rfl rfl) (Gn 1 rfl (G.ef rfl rfl rfl rfl rfl (Ef.jR yR fun bl bm bn (bo:jL bm bl 140 (qx qP).toArray) K=>⟨fun _=>K,?_⟩))))
    have bp:=an.le K
    refine G.kP rfl rfl rfl rfl (Ef.storeAll EI (by rfl) rfl rfl bo (by simp only[List.size_toArray,mO.len]) (mO.one qP) ?_)
    intro bq bR N
    refine noT (by kernel_rfl) ?_
    have aH:ll w bq (LF gp gs gh A c):=bp.ch N (fun i hi hlt=>by cases hi;exact absurd hlt (by have:=an.size;have:=bn;omega))
    refine Gn 1 rfl (G.nil (E.jG (Sr (Wn 1 rfl (Nx (WC.kF rfl (Sn (Sq (Sr (Wn 1 rfl (Wa (.jE lZ rfl) rfl (Wa (.j3 ((side).toNat) underlying52 kz rfl rfl (by omega) (by omega)) rfl ?_))))))))))))
    have au:=((((Z.le o).cn t (by have:=Z.lt;omega)).le (l.trans K)).cn N (by have:=Z.lt;have:=o.size;have:=t.size;have:=l.size;omega))
    refine Wr (.jF (v:= .int .i64 (m.h ((side).toNat))) j5 rfl au (nG m (by omega))) rfl (Wn 2 rfl (Nx ?_))
    by_cases c3:(m.h ((side).toNat))<am
    ·refine Cy rfl (dT c3) (Sr (Wn 1 rfl (Nx (Rt (E.jH ?_)))))
     have bs:=((((((n.le e).cn f (by have:=n.lt;omega)).le o).cn t (by have:=n.lt;have:=e.size;have:=f.size;omega)).le (l.trans K)).cn N (by have:=n.lt;have:=e.size;have:=f.size;have:=o.size;have:=t.size;have:=l.size;omega))
     have bt:=((aj.le K).cn N (by have:=aj.lt;omega))
     refine E.jI rfl rfl ?_
     exact⟨aH,.inr (.inr ⟨hok,_,P,.inr ⟨R,.inl ⟨c3,rfl,⟨((T.le K).cn N (by have:=T.lt;omega)),((((((j.le (b.trans (d.trans e))).cb f (j.rn (by have:=b.size;have:=d.size;omega))).le o).cb t (j.rn (by have:=b.size;have:=d.size;have:=e.size;have:=f.size;omega))).le (l.trans K)).cb N (j.rn (by have:=b.size;have:=d.size;have:=e.size;have:=f.size;have:=o.size;have:=t.size;have:=l.size;omega))),bs,bt,B,C,y,L,D,F⟩⟩⟩⟩)⟩
    refine Cn rfl (dF c3) (Sn (Sr (Wn 1 rfl (Wa (.jE lZ rfl) rfl (Wa (.j3 ((side).toNat) underlying52 kz rfl rfl (by omega) (by omega)) rfl (Wr (.jF (v:= .int .i64 (m.h ((side).toNat))) j5 rfl au (nG m (by omega))) rfl (Wn 1 rfl ?_)))))))
    refine Wa (.sub rfl rfl (by omega)) rfl (Wa (.jE lZ rfl) rfl (Wa (.j3 ((side).toNat) underlying52 kz rfl rfl (by omega) (by omega)) rfl (W.kP rfl rfl (Ef.store kz rfl rfl au (by simp[jQ.len,-List.getD_eq_getElem?_getD];omega) rfl ?_))))
    intro aI av aa
    have av:jL aI al 70 (jT (m.setH ((side).toNat) ((m.h ((side).toNat))-am))).toArray:=av.cast (wu m ((m.h ((side).toNat))-am) (by omega))
    have bu:ll w aI (LF gp gs gh A c):=aH.ch aa (fun i hi hlt=>by cases hi;exact absurd hlt (by have:=Y.size;have:=aD;omega))
    refine Nx (Sq (WC.LP (fun bv w'=>ll w w' (LF gp gs gh A c)/\jL w' gp 132 #[.slice A own.length c,.map (some gs),.map (some gh),.int .i64 (lost)]/\jL w' ao 138 (mh (⟨ch,side,id⟩:lX)).toArray/\jL w' al 70 (jT (m.setH ((side).toNat) ((m.h ((side).toNat))-am))).toArray) [0,1,2,3,4,5,6,7,8,9,10,11,12,13,14,15,16,17,18,19] mixed (by kernel_rfl) fun bv U=>?_))
    have aJ:=bu.le U
    have aK:=((((T.le K).cn N (by have:=T.lt;omega)).cn aa (by have:=S.lt;omega)).le U)
    have aL:=((((aq.le K).cn N (by have:=aq.lt;omega)).cn aa (by have:=Z.lt;omega)).le U)
    have aM:=(av.le U)
    refine⟨⟨aJ,aK,aL,aM⟩,?_⟩
    refine GS.any rfl rfl (.move rfl) rfl rfl rfl (GS.any rfl rfl (.nilCheck rfl) rfl rfl rfl (GS.any rfl rfl (.jE mM rfl) rfl rfl rfl (GS.rd rfl rfl (fun w' hs=> .jF (v:= .map (some gs)) rR rfl hs.2.1 rfl) rfl rfl rfl (GS.any rfl rfl (.move rfl) rfl rfl rfl (GS.any rfl rfl (.move rfl) rfl rfl rfl ?_)))))
    refine GS.any rfl rfl (.nilCheck rfl) rfl rfl rfl (GS.any rfl rfl (.jE wZ rfl) rfl rfl rfl (GS.rd rfl rfl (fun w' hs=> .jF (v:= .map (some gh)) EH rfl hs.2.1 rfl) rfl rfl rfl (GS.rd rfl rfl (fun w' hs=> .jK Da (by rfl) rfl hs.2.2.1) rfl rfl rfl ?_)))
    refine GS.rd rfl rfl (fun w' hs=> .jK wW (by rfl) rfl hs.2.2.2) rfl rfl rfl ?_
    refine GS.any rfl rfl (.move rfl) rfl rfl rfl (GS.any rfl rfl (.move rfl) rfl rfl rfl (GS.any rfl rfl (.kK (qx (⟨am,pt⟩)) Y6 yR rfl rfl) rfl rfl rfl (GS.ef rfl rfl rfl rfl rfl (Ef.Nt (key:=ch) underlying129 oU rfl rfl ((((((((n.le e).cn f (by have:=n.lt;omega)).le o).cn t (by have:=n.lt;have:=e.size;have:=f.size;omega)).le (l.trans K)).cn N (by have:=n.lt;have:=e.size;have:=f.size;have:=o.size;have:=t.size;have:=l.size;omega)).cn aa (by have:=n.lt;omega)).le U) x8 P ?_))))
    intro bw bx bz bA ab
    have aN:ll w bx (LF gp gs gh A c):=aJ.ch ab (fun i hi _=>by cases hi;exact Or.inr (Or.inl rfl))
    have aO:=(aK.ch ab (fun h=>(Ne.symm B) (oI h)))
    have aP:=(aL.cn ab (by have:=n.lt;have:=e.size;have:=f.size;omega))
    have aQ:=(aM.cn ab (by have:=n.lt;omega))
    refine⟨⟨aN,aO,aP,aQ⟩,?_⟩
    refine GS.any rfl rfl (.extract (v:= .int .i64 ((bw:Nat):Int)) rfl rfl) rfl rfl rfl (GS.kP rfl rfl rfl rfl (Ef.C8 (key:=ch) (u:=(m.setH ((side).toNat) ((m.h ((side).toNat))-am))) rfl rfl rfl bA bz fun bB bC ac=>?_))
    have aR:ll w bB (LF gp gs gh A c):=aN.ch ac (fun i hi _=>by cases hi;exact Or.inr (Or.inl rfl))
    have aS:=(aO.ch ac (fun h=>(Ne.symm B) (oI h)))
    have aT:=(aP.cn ac (by have:=n.lt;have:=e.size;have:=f.size;omega))
    have aU:=(aQ.cn ac (by have:=n.lt;omega))
    refine⟨⟨aR,aS,aT,aU⟩,?_⟩
    refine GS.ef rfl rfl rfl rfl rfl (Ef.Nu (key:=(⟨ch,side,id⟩:lX)) (z:=qP) underlying130 xc yR rfl rfl ((((((aj.le K).cn N (by have:=aj.lt;omega)).cn aa (by have:=k.lt;have:=b.size;have:=d.size;omega)).le U).ch ab (fun h=>y (oI h))).ch ac (fun h=>y (oI h))) R ?_)
    intro bD bE ad
    have aV:ll w bD (LF gp gs gh A c):=aR.ch ad (fun i hi _=>by cases hi;exact Or.inr (Or.inr (Or.inl rfl)))
    have aW:=(aS.ch ad (fun h=>(Ne.symm C) (oI h)))
    have aX:=(aT.cn ad (by have:=k.lt;have:=b.size;have:=d.size;have:=e.size;have:=f.size;omega))
    have aY:=(aU.cn ad (by have:=k.lt;have:=b.size;have:=d.size;omega))
    refine⟨⟨aV,aW,aX,aY⟩,?_⟩
    refine GS.any rfl rfl (.extract (v:= .int .i64 ((ck:Nat):Int)) rfl rfl) rfl rfl rfl (GS.kP rfl rfl rfl rfl (Ef.C8 (key:=(⟨ch,side,id⟩:lX)) (u:=(⟨am,pt⟩)) rfl rfl rfl bE (List.mem_append_right _ (List.mem_singleton.2 rfl)) fun bF bG ae=>?_))
    have aZ:ll w bF (LF gp gs gh A c):=aV.ch ae (fun i hi _=>by cases hi;exact Or.inr (Or.inr (Or.inl rfl)))
    have a0:=(aW.ch ae (fun h=>(Ne.symm C) (oI h)))
    refine⟨⟨aZ,a0,(aX.cn ae (by have:=k.lt;have:=b.size;have:=d.size;have:=e.size;have:=f.size;omega)),(aY.cn ae (by have:=k.lt;have:=b.size;have:=d.size;omega))⟩,?_⟩
    refine GS.nil (E.jG (Sr (Wn 1 rfl (Nx (Rt ?_)))))
    have bH:=((((((((((((j.le (b.trans (d.trans e))).cb f (j.rn (by have:=b.size;have:=d.size;omega))).le o).cb t (j.rn (by have:=b.size;have:=d.size;have:=e.size;have:=f.size;omega))).le (l.trans K)).cb N (j.rn (by have:=b.size;have:=d.size;have:=e.size;have:=f.size;have:=o.size;have:=t.size;have:=l.size;omega))).cb aa (j.rn (by have:=b.size;have:=d.size;omega))).le U).ch ab (fun q hq=>by cases hq;exact D)).ch ac (fun q hq=>by cases hq;exact D)).ch ad (fun q hq=>by cases hq;exact F)).ch ae (fun q hq=>by cases hq;exact F))
    refine E.jI rfl rfl ?_
    exact⟨aZ,.inr (.inr ⟨hok,_,P,.inr ⟨R,.inr ⟨c3,rfl,⟨a0,bH,((bC.ch ad (fun h=>(Ne.symm y) (oI h))).ch ae (fun h=>(Ne.symm y) (oI h))),(by rw[<-O7 (z:=qP) (rf.1 R)];exact bG),B,C,y,L,D,F⟩⟩⟩⟩)⟩
   have aw:=(((((k.le (b.trans (d.trans e))).cn f (by have:=k.lt;have:=b.size;have:=d.size;omega)).le o).cn t (by have:=k.lt;have:=b.size;have:=d.size;have:=e.size;have:=f.size;omega)).le l)
   refine Gd rfl (.as (.mi (key:=(⟨ch,side,id⟩:lX)) underlying130 xc yR rfl rfl aw) (by rw[R]<;>rfl)) ?_
   refine Gn 1 rfl (Ga rfl (.extract (v:= .agg (qx ar).toArray) rfl rfl) (Gn 1 rfl (G.ef rfl rfl rfl rfl rfl (Ef.jR yR fun a1 bI bJ (bK:jL bI a1 140 (qx qP).toArray) af=>⟨fun _=>af,?_⟩))))
   have bL:=an.le af
   refine G.kP rfl rfl rfl rfl (Ef.storeAll EI (by rfl) rfl rfl bK (by simp only[List.size_toArray,mO.len]) (mO.one ar) ?_)
   intro a2 a3 ak
   refine noT (by kernel_rfl) ?_
   have a3:jL a2 a1 140 (qx ar).toArray:=a3
   have bM:ll w a2 (LF gp gs gh A c):=bL.ch ak (fun i hi hlt=>by cases hi;exact absurd hlt (by have:=an.size;have:=bJ;omega))
   refine Gn 1 rfl (G.nil (E.jG (Sr (Wn 1 rfl (Nx (WC.jS rfl (Sr (Wn 1 rfl (Nx (Rt (E.jH ?_)))))))))))
   have bN:=((((((n.le e).cn f (by have:=n.lt;omega)).le o).cn t (by have:=n.lt;have:=e.size;have:=f.size;omega)).le (l.trans af)).cn ak (by have:=n.lt;have:=e.size;have:=f.size;have:=o.size;have:=t.size;have:=l.size;omega))
   have bO:=((aw.le af).cn ak (by have:=aw.lt;omega))
   refine E.jI rfl rfl ?_
   exact⟨bM,.inr (.inr ⟨hok,_,P,.inl ⟨_,R,rfl,⟨((T.le af).cn ak (by have:=T.lt;omega)),((((((j.le (b.trans (d.trans e))).cb f (j.rn (by have:=b.size;have:=d.size;omega))).le o).cb t (j.rn (by have:=b.size;have:=d.size;have:=e.size;have:=f.size;omega))).le (l.trans af)).cb ak (j.rn (by have:=b.size;have:=d.size;have:=e.size;have:=f.size;have:=o.size;have:=t.size;have:=l.size;omega))),bN,bO,B,C,y,L,D,F⟩⟩⟩)⟩
  refine Cy rfl (congrArg not (Bool.eq_false_iff.2 c0)) (Sr (Wn 1 rfl (Nx (Rt (E.jH (E.jI rfl rfl ?_))))))
  exact⟨Y,.inl ⟨(fun h=>by obtain⟨V,X,H,I,J⟩:=h;first|omega|(exact absurd (j6.2 ⟨by omega,H.2⟩) (by assumption))|(exact absurd J (by assumption))|(apply I;omega)),rfl,⟨(Q.le (b.trans d)),(j.le (b.trans d)),(O.le (b.trans d)),(k.le (b.trans d)),B,C,y,L,D,F⟩⟩⟩
 refine Wa (.dec (.move rfl) (congrArg not (Bool.eq_false_iff.2 aB))) rfl (Wn 8 rfl (Nx (WC.jS rfl (Sr (Wn 1 rfl (Nx (Rt (E.jH (E.jI rfl rfl ?_)))))))))
 exact⟨L1,.inl ⟨(fun h=>by obtain⟨V,X,H,I,J⟩:=h;first|omega|(exact absurd (j6.2 ⟨by omega,H.2⟩) (by assumption))|(exact absurd J (by assumption))|(apply I;omega)),rfl,⟨(Q.le b),(j.le b),(O.le b),(k.le b),B,C,y,L,D,F⟩⟩⟩

theorem Mr {gp gs gh c n cs ck:Nat}{A:Option Addr}{ls:SM}{lh:HM}{lost:Int}{s:Seat}{h:wJ}(at_:lX)(j:Int)(w:World)(hp0:jL w gp 132 #[.slice A n c,.map (some gs),.map (some gh),.int .i64 (lost)])(hS0:kH w sw mK gs ls cs)(hH0:kH w Bg oK gh lh ck)(n1:gp≠gs)(n2:gp≠gh)(n3:gs≠gh)(hs:jW at_.ch ls=some s)(hh:jW at_ lh=some h)(hj:0<=j/\j<=1)(h1:0<=s.h j.toNat/\s.h j.toNat<=1125899906842624)(h2:0<=h.am/\h.am<=1125899906842624):Calls prog 45 #[.pointer (some ⟨gp,0,none⟩),.agg (mh at_).toArray,.int .i64 (j)] w fun r w'=>r= .returned (.tuple #[])/\kH w' sw mK gs (oq at_.ch (s.setH j.toNat (s.h j.toNat+h.am)) ls) cs/\kH w' Bg oK gh (pJ at_ lh) ck/\ll w w' (fun k=>k=gs\/k=gh):=by
 refine enter func45 rfl rfl (WC.sr (W.ef rfl rfl rfl (Ef.mH rfl fun T U ak (V:jL U T 138 (mh at_).toArray) d=>(W.nx (WC.seq (WC.draw [0,1,2,3,4,5,6,7,8] mixed (by kernel_rfl) fun w1 b=>?_))))))
 have C:=((ll.refl w (fun k=>k=gs\/k=gh)).le d).le b
 refine G.run 1 rfl (Ga rfl (.nilCheck rfl) (Ga rfl (.jE mM rfl) ?_))
 have x:=(hp0.le (d.trans b))
 refine Gd rfl (.jF (v:= .map (some gs)) rR rfl x rfl) (Ga rfl (.jE H9 rfl) ?_)
 have y:=(V.le b)
 refine Gd rfl (.jF (v:= .int .i64 at_.ch) j5 rfl y rfl) ?_
 have z:=(hS0.le (d.trans b))
 refine Gd rfl (.as (.tQ (key:=at_.ch) underlying129 oU z70 rfl rfl z) (by rw[hs]<;>rfl)) ?_
 refine G.ef rfl rfl rfl rfl rfl (Ef.jR z70 fun D X I (Y:jL X D 70 (jT jM).toArray) e=>⟨fun _=>e,?_⟩)
 have Z:=C.le e
 refine G.kP rfl rfl rfl rfl (Ef.storeAll rQ (by rfl) rfl rfl Y (by simp only[List.size_toArray,jQ.len]) (jQ.one s) ?_)
 intro J F m
 refine noT (by kernel_rfl) ?_
 have F:jL J D 70 (jT s).toArray:=F
 have L7:ll w J (fun k=>k=gs\/k=gh):=Z.ch m (fun i hi hlt=>by cases hi;exact absurd hlt (by have:=C.size;have:=I;omega))
 refine G.nil (E.jG (WC.seq (WC.draw [0,1,2,3,4,5,6,7,8,9,10,11,12,13,14] mixed (by kernel_rfl) fun w2 f=>?_)))
 have L8:=L7.le f
 refine G.run 1 rfl (Ga rfl (.jE lZ rfl) (Ga rfl (.j3 ((j).toNat) underlying52 kz rfl rfl (by omega) (by omega)) ?_))
 have K:=(F.le f)
 refine Gd rfl (.jF (v:= .int .i64 (s.h ((j).toNat))) j5 rfl K (nG s (by omega))) (G.run 1 rfl (Ga rfl (.nilCheck rfl) (Ga rfl (.jE wZ rfl) ?_)))
 have L:=(((x.le e).cn m (by have:=x.lt;omega)).le f)
 refine Gd rfl (.jF (v:= .map (some gh)) EH rfl L rfl) ?_
 have N:=(((y.le e).cn m (by have:=y.lt;omega)).le f)
 refine Gd rfl (.jK Da (by rfl) rfl N) ?_
 have O:=(((hH0.le (d.trans (b.trans e))).cn m (by have:=hH0.lt;have:=d.size;have:=b.size;omega)).le f)
 refine Gd rfl (.as (.tQ (key:=at_) underlying130 xc yR rfl rfl O) (by rw[hh]<;>rfl)) ?_
 refine Ga rfl (.Vw (v:= .int .i64 h.am) underlying140 rfl j5 rfl rfl) (Ga rfl (.add rfl rfl (by omega)) (Ga rfl (.jE lZ rfl) (Ga rfl (.j3 ((j).toNat) underlying52 kz rfl rfl (by omega) (by omega)) (G.kP rfl rfl rfl rfl (Ef.store kz rfl rfl K (by simp[jQ.len,-List.getD_eq_getElem?_getD];omega) rfl ?_)))))
 intro P H o
 refine noT (by kernel_rfl) ?_
 have H:jL P D 70 (jT (s.setH ((j).toNat) ((s.h ((j).toNat))+h.am))).toArray:=H.cast (wu s ((s.h ((j).toNat))+h.am) (by omega))
 have aa:ll w P (fun k=>k=gs\/k=gh):=L8.ch o (fun i hi hlt=>by cases hi;exact absurd hlt (by have:=C.size;have:=I;omega))
 refine G.nil (E.jG (WC.seq (WC.draw [0,1,2,3,4,5,6,7] mixed (by kernel_rfl) fun w3 l=>?_)))
 have ab:=aa.le l
 refine G.run 1 rfl (Ga rfl (.nilCheck rfl) (Ga rfl (.jE mM rfl) ?_))
 have Q:=((L.cn o (by have:=x.lt;omega)).le l)
 refine Gd rfl (.jF (v:= .map (some gs)) rR rfl Q rfl) (Ga rfl (.jE H9 rfl) ?_)
 have R:=((N.cn o (by have:=y.lt;omega)).le l)
 refine Gd rfl (.jF (v:= .int .i64 at_.ch) j5 rfl R rfl) (Gd rfl (.jK wW (by rfl) rfl (H.le l)) ?_)
 refine G.kP rfl rfl rfl rfl (Ef.wQ (key:=at_.ch) (u:=(s.setH ((j).toNat) ((s.h ((j).toNat))+h.am))) underlying129 oU rfl rfl rfl (((((z.le e).cn m (by have:=z.lt;omega)).le f).cn o (by have:=z.lt;omega)).le l) x8 hs ?_)
 intro ac ad B
 refine noT (by kernel_rfl) ?_
 have ae:ll w ac (fun k=>k=gs\/k=gh):=ab.ch B (fun i hi _=>by cases hi;exact Or.inl rfl)
 refine G.nil (E.jG (WC.draw [0,1,2,3,4,5] mixed (by kernel_rfl) fun w4 t=>?_))
 have af:=ae.le t
 refine G.run 1 rfl (Ga rfl (.nilCheck rfl) (Ga rfl (.jE wZ rfl) (Gd rfl (.jF (v:= .map (some gh)) EH rfl ((Q.ch B (fun h=>(Ne.symm n1) (oI h))).le t) rfl) (Gd rfl (.jK Da (by rfl) rfl ((R.cn B (by have:=hS0.lt;omega)).le t)) ?_))))
 refine G.kP rfl rfl rfl rfl (Ef.Hm (key:=at_) underlying130 xc rfl rfl ((((O.cn o (by have:=hH0.lt;have:=d.size;have:=b.size;omega)).le l).ch B (fun h=>n3 (oI h))).le t) ?_)
 intro ah ai S
 refine noT (by kernel_rfl) ?_
 have aj:ll w ah (fun k=>k=gs\/k=gh):=af.ch S (fun i hi _=>by cases hi;exact Or.inr rfl)
 refine G.nil (E.end_ (E.Vh rfl ?_))
 exact⟨rfl,((ad.le t).ch S (fun h=>(Ne.symm n3) (oI h))),ai,aj⟩

theorem KY {gp gs gh c cs ck:Nat}{A:Option Addr}{own:List Int}{ls:SM}{lh:HM}{lost:Int}(ch side id:Int)(sec:Nat)(w:World)(hL:mf w gp gs gh A c cs ck own ls lh lost)(hw:∀x∈ls,∀i,0<=x.2.2.h i/\x.2.2.h i<=1125899906842624)(hv:∀x∈lh,(0<=x.2.1.side/\x.2.1.side<=1)/\(0<=x.2.2.am/\x.2.2.am<=1125899906842624)/\∃s,jW x.2.1.ch ls=some s):Calls prog 18 #[.pointer (some ⟨gp,0,none⟩),.int .i64 ch,.int .i64 side,.int .i64 id,.int .u64 ((sec:Nat):Int)] w fun r w'=>ll w w' (LF gp gs gh A c)/\((jW (⟨ch,side,id⟩:lX) lh=none/\r= .returned (.int .i64 5)/\mf w' gp gs gh A c cs ck own ls lh lost)\/∃h,jW (⟨ch,side,id⟩:lX) lh=some h/\((base sec≠h.pt/\r= .returned (.int .i64 23)/\mf w' gp gs gh A c cs ck own ls lh lost)\/(base sec=h.pt/\r= .returned (.int .i64 0)/\∃s,jW ch ls=some s/\mf w' gp gs gh A c cs ck own (oq ch (s.setH (1-side).toNat (s.h (1-side).toNat+h.am)) ls) (pJ (⟨ch,side,id⟩:lX) lh) lost))):=by
 have U:=hL.hp
 have n:=hL.hO
 have o:=hL.hS
 have H:=hL.hH
 have B:=hL.ps
 have C:=hL.ph
 have I:=hL.sh
 have N:=hL.op
 have J:=hL.os
 have K:=hL.oh
 refine enter func18 rfl rfl ?_
 have V:=ll.refl w (LF gp gs gh A c)
 refine Sr (Wn 1 rfl (Nx (Sr (Wn 3 rfl (Wa (.kK (mh (⟨ch,side,id⟩:lX)) Qv z138 rfl rfl) rfl (W.ef rfl rfl rfl (Ef.jR z138 fun X ae af (ah:jL ae X 138 (mh GV).toArray) d=>?_)))))))
 have L1:=V.le d
 refine W.kP rfl rfl (Ef.storeAll JC (by rfl) rfl rfl ah (by simp only[List.size_toArray,pW.len]) (pW.one (⟨ch,side,id⟩:lX)) ?_)
 intro Y O f
 have O:jL Y X 138 (mh (⟨ch,side,id⟩:lX)).toArray:=O
 have L2:ll w Y (LF gp gs gh A c):=L1.ch f (fun i hi hlt=>by cases hi;exact absurd hlt (by have:=V.size;have:=af;omega))
 refine Nx (Sq (WC.draw [0,1,2,3,4,5,6,7,8,9,10,11] mixed (by kernel_rfl) fun w2 b=>?_))
 have L:=L2.le b
 refine Gn 1 rfl (Ga rfl (.nilCheck rfl) (Ga rfl (.jE wZ rfl) ?_))
 have u:=(((U.le d).cn f (by have:=U.lt;omega)).le b)
 refine Gd rfl (.jF (v:= .map (some gh)) EH rfl u rfl) ?_
 have P:=(O.le b)
 refine Gd rfl (.jK Da (by rfl) rfl P) ?_
 rcases optG (jW (⟨ch,side,id⟩:lX) lh)with t|⟨y,t⟩
 ·have Q:=(((H.le d).cn f (by have:=H.lt;omega)).le b)
  refine Gd rfl (.as (.mi (key:=(⟨ch,side,id⟩:lX)) underlying130 xc yR rfl rfl Q) (by rw[t]<;>rfl)) ?_
  refine Gn 1 rfl (Ga rfl (.extract (v:= .agg (qx qP).toArray) rfl rfl) (Gn 1 rfl (G.ef rfl rfl rfl rfl rfl (Ef.jR yR fun ai aj ak (al:jL aj ai 140 (qx qP).toArray) z=>⟨fun _=>z,?_⟩))))
  have L7:=L.le z
  refine G.kP rfl rfl rfl rfl (Ef.storeAll EI (by rfl) rfl rfl al (by simp only[List.size_toArray,mO.len]) (mO.one qP) ?_)
  intro an aC D
  refine noT (by kernel_rfl) ?_
  have L8:ll w an (LF gp gs gh A c):=L7.ch D (fun i hi hlt=>by cases hi;exact absurd hlt (by have:=L.size;have:=ak;omega))
  refine Gn 1 rfl (G.nil (E.jG (Sq (WC.block (Sr (Wn 3 rfl (Nx (WC.jS rfl (Sr (Wn 1 rfl (Nx (Rt (E.j4 (E.jH (E.jI rfl rfl ?_)))))))))))))))
  exact⟨L8,.inl ⟨t,rfl,⟨((u.le z).cn D (by have:=u.lt;omega)),((((n.le d).cb f (n.rn (by omega))).le (b.trans z)).cb D (n.rn (by have:=d.size;have:=f.size;have:=b.size;omega))),((((o.le d).cn f (by have:=o.lt;omega)).le (b.trans z)).cn D (by have:=o.lt;have:=d.size;have:=f.size;have:=b.size;omega)),((Q.le z).cn D (by have:=Q.lt;omega)),B,C,I,N,J,K⟩⟩⟩
 obtain⟨bh,Mq⟩:=oQ t
 obtain⟨ao,Z,sv,hsv⟩:=hv _ Mq
 simp only at ao Z hsv
 obtain⟨bs,hbs⟩:=oQ hsv
 have hws:=hw _ hbs
 simp only at hws
 have F:=(((H.le d).cn f (by have:=H.lt;omega)).le b)
 refine Gd rfl (.as (.mi (key:=(⟨ch,side,id⟩:lX)) underlying130 xc yR rfl rfl F) (by rw[t]<;>rfl)) ?_
 refine Gn 1 rfl (Ga rfl (.extract (v:= .agg (qx y).toArray) rfl rfl) (Gn 1 rfl (G.ef rfl rfl rfl rfl rfl (Ef.jR yR fun aa ap aq (ar:jL ap aa 140 (qx qP).toArray) j=>⟨fun _=>j,?_⟩))))
 have au:=L.le j
 refine G.kP rfl rfl rfl rfl (Ef.storeAll EI (by rfl) rfl rfl ar (by simp only[List.size_toArray,mO.len]) (mO.one y) ?_)
 intro ab R m
 refine noT (by kernel_rfl) ?_
 have R:jL ab aa 140 (qx y).toArray:=R
 have av:ll w ab (LF gp gs gh A c):=au.ch m (fun i hi hlt=>by cases hi;exact absurd hlt (by have:=L.size;have:=aq;omega))
 refine Gn 1 rfl (G.nil (E.jG (Sq (WC.block (Sr (Wn 3 rfl (Nx (WC.kF rfl (Sq (WC.draw [0,2,3,1,4,5] mixed (by kernel_rfl) fun w5 k=>(Gn 1 rfl (Ga rfl (.jE TA rfl) (Gd rfl (.jF (v:= .int .u64 ((y.pt:Nat):Int)) qj rfl (R.le k) rfl) (G.ef rfl rfl rfl rfl rfl ?_))))))))))))))
 refine Ef.call aaM rfl rfl (TE sec w5) ?_
 rintro _ aw ⟨rfl,l⟩
 refine⟨_,rfl,?_⟩
 refine⟨fun _=>l,?_⟩
 have ac:=(av.le k).le l
 refine Gn 2 rfl (G.nil (E.jG ?_))
 by_cases S:((base sec:Nat):Int)≠((y.pt:Nat):Int)
 ·refine Cy rfl (dT S) (Sr (Wn 1 rfl (Nx (Rt (E.j4 (E.jH ?_))))))
  have ax:=(((F.le j).cn m (by have:=F.lt;omega)).le (k.trans l))
  refine E.jI rfl rfl ?_
  exact⟨ac,.inr ⟨_,t,.inl ⟨(by intro e;apply S;rw[e]),rfl,⟨(((u.le j).cn m (by have:=u.lt;omega)).le (k.trans l)),(((((n.le d).cb f (n.rn (by omega))).le (b.trans j)).cb m (n.rn (by have:=d.size;have:=f.size;have:=b.size;omega))).le (k.trans l)),(((((o.le d).cn f (by have:=o.lt;omega)).le (b.trans j)).cn m (by have:=o.lt;have:=d.size;have:=f.size;have:=b.size;omega)).le (k.trans l)),ax,B,C,I,N,J,K⟩⟩⟩⟩
 refine Cn rfl (dF S) (WC.skip (E.jZ (E.jG (Sr (Wn 1 rfl (Wr (.jK Da (by rfl) rfl (((P.le j).cn m (by have:=P.lt;omega)).le (k.trans l))) rfl ?_))))))
 refine Wn 1 rfl (Wa (.sub rfl rfl (by omega)) rfl ?_)
 have ad:=(((u.le j).cn m (by have:=u.lt;omega)).le (k.trans l))
 refine W.cl Yg rfl rfl (Mr (s:=sv) (h:=y) (⟨ch,side,id⟩:lX) (1-side) aw ad (((((o.le d).cn f (by have:=o.lt;omega)).le (b.trans j)).cn m (by have:=o.lt;have:=d.size;have:=f.size;have:=b.size;omega)).le (k.trans l)) (((F.le j).cn m (by have:=F.lt;omega)).le (k.trans l)) B C I hsv t (by omega) (hws _) Z) ?_
 rintro _ aD ⟨rfl,ay,az,T⟩
 have aA:=ac.sub T (fun i hi hlt=>Or.elim hi (fun hi=>(by subst hi;exact Or.inr (Or.inl rfl))) (fun hi=>(by subst hi;exact Or.inr (Or.inr (Or.inl rfl)))))
 refine Nx (Sr (Wn 1 rfl (Nx (Rt ?_))))
 have aB:=((((((n.le d).cb f (n.rn (by omega))).le (b.trans j)).cb m (n.rn (by have:=d.size;have:=f.size;have:=b.size;omega))).le (k.trans l)).kX T (fun q hqq hF=>Or.elim hF (fun hF=>(by subst hF;exact J hqq)) (fun hF=>(by subst hF;exact K hqq))))
 refine E.jI rfl rfl ?_
 exact⟨aA,.inr ⟨_,t,.inr ⟨(by omega),rfl,_,hsv,⟨(ad.kX T (fun hF=>Or.elim hF (fun hF=>B hF) (fun hF=>C hF))),aB,ay,az,B,C,I,N,J,K⟩⟩⟩⟩

theorem QL {gp gs gh c cs ck:Nat}{A:Option Addr}{own:List Int}{ls:SM}{lh:HM}{lost:Int}(ch side id:Int)(w:World)(hL:mf w gp gs gh A c cs ck own ls lh lost)(hw:∀x∈ls,∀i,0<=x.2.2.h i/\x.2.2.h i<=1125899906842624)(hv:∀x∈lh,(0<=x.2.1.side/\x.2.1.side<=1)/\(0<=x.2.2.am/\x.2.2.am<=1125899906842624)/\∃s,jW x.2.1.ch ls=some s):Calls prog 19 #[.pointer (some ⟨gp,0,none⟩),.int .i64 ch,.int .i64 side,.int .i64 (id)] w fun r w'=>ll w w' (LF gp gs gh A c)/\((jW (⟨ch,side,id⟩:lX) lh=none/\r= .returned (.int .i64 5)/\mf w' gp gs gh A c cs ck own ls lh lost)\/∃h,jW (⟨ch,side,id⟩:lX) lh=some h/\r= .returned (.int .i64 0)/\∃s,jW ch ls=some s/\mf w' gp gs gh A c cs ck own (oq ch (s.setH (side).toNat (s.h (side).toNat+h.am)) ls) (pJ (⟨ch,side,id⟩:lX) lh) lost):=by
 have P:=hL.hp
 have k:=hL.hO
 have l:=hL.hS
 have u:=hL.hH
 have y:=hL.ps
 have z:=hL.ph
 have D:=hL.sh
 have Q:=hL.op
 have F:=hL.os
 have H:=hL.oh
 refine enter func19 rfl rfl ?_
 have R:=ll.refl w (LF gp gs gh A c)
 refine Sr (Wn 1 rfl (Nx (Sr (Wn 3 rfl (Wa (.kK (mh (⟨ch,side,id⟩:lX)) Qv z138 rfl rfl) rfl (W.ef rfl rfl rfl (Ef.jR z138 fun S Z aa (ab:jL Z S 138 (mh GV).toArray) d=>?_)))))))
 have L1:=R.le d
 refine W.kP rfl rfl (Ef.storeAll JC (by rfl) rfl rfl ab (by simp only[List.size_toArray,pW.len]) (pW.one (⟨ch,side,id⟩:lX)) ?_)
 intro T I e
 have I:jL T S 138 (mh (⟨ch,side,id⟩:lX)).toArray:=I
 have L2:ll w T (LF gp gs gh A c):=L1.ch e (fun i hi hlt=>by cases hi;exact absurd hlt (by have:=R.size;have:=aa;omega))
 refine Nx (Sq (Sq (WC.draw [0,1,2,3,4,5,6,7,8,9,10,11] mixed (by kernel_rfl) fun w2 b=>?_)))
 have B:=L2.le b
 refine Gn 1 rfl (Ga rfl (.nilCheck rfl) (Ga rfl (.jE wZ rfl) ?_))
 have o:=(((P.le d).cn e (by have:=P.lt;omega)).le b)
 refine Gd rfl (.jF (v:= .map (some gh)) EH rfl o rfl) ?_
 have J:=(I.le b)
 refine Gd rfl (.jK Da (by rfl) rfl J) ?_
 rcases optG (jW (⟨ch,side,id⟩:lX) lh)with f|⟨C,f⟩
 ·have K:=(((u.le d).cn e (by have:=u.lt;omega)).le b)
  refine Gd rfl (.as (.mi (key:=(⟨ch,side,id⟩:lX)) underlying130 xc yR rfl rfl K) (by rw[f]<;>rfl)) ?_
  refine Gn 1 rfl (Ga rfl (.extract (v:= .agg (qx qP).toArray) rfl rfl) (Gn 1 rfl (G.ef rfl rfl rfl rfl rfl (Ef.jR yR fun ac ad ae (af:jL ad ac 140 (qx qP).toArray) m=>⟨fun _=>m,?_⟩))))
  have L7:=B.le m
  refine G.kP rfl rfl rfl rfl (Ef.storeAll EI (by rfl) rfl rfl af (by simp only[List.size_toArray,mO.len]) (mO.one qP) ?_)
  intro ah av t
  refine noT (by kernel_rfl) ?_
  have L8:ll w ah (LF gp gs gh A c):=L7.ch t (fun i hi hlt=>by cases hi;exact absurd hlt (by have:=B.size;have:=ae;omega))
  refine Gn 1 rfl (G.nil (E.jG (Sr (Wn 2 rfl (Nx (WC.jS rfl (Sr (Wn 1 rfl (Nx (Rt (E.jH (E.jI rfl rfl ?_))))))))))))
  exact⟨L8,.inl ⟨f,rfl,⟨((o.le m).cn t (by have:=o.lt;omega)),((((k.le d).cb e (k.rn (by omega))).le (b.trans m)).cb t (k.rn (by have:=d.size;have:=e.size;have:=b.size;omega))),((((l.le d).cn e (by have:=l.lt;omega)).le (b.trans m)).cn t (by have:=l.lt;have:=d.size;have:=e.size;have:=b.size;omega)),((K.le m).cn t (by have:=K.lt;omega)),y,z,D,Q,F,H⟩⟩⟩
 obtain⟨bh,Mq⟩:=oQ f
 obtain⟨ai,U,sv,hsv⟩:=hv _ Mq
 simp only at ai U hsv
 obtain⟨bs,hbs⟩:=oQ hsv
 have hws:=hw _ hbs
 simp only at hws
 have L:=(((u.le d).cn e (by have:=u.lt;omega)).le b)
 refine Gd rfl (.as (.mi (key:=(⟨ch,side,id⟩:lX)) underlying130 xc yR rfl rfl L) (by rw[f]<;>rfl)) ?_
 refine Gn 1 rfl (Ga rfl (.extract (v:= .agg (qx C).toArray) rfl rfl) (Gn 1 rfl (G.ef rfl rfl rfl rfl rfl (Ef.jR yR fun V aj ak (al:jL aj V 140 (qx qP).toArray) j=>⟨fun _=>j,?_⟩))))
 have an:=B.le j
 refine G.kP rfl rfl rfl rfl (Ef.storeAll EI (by rfl) rfl rfl al (by simp only[List.size_toArray,mO.len]) (mO.one C) ?_)
 intro N X n
 refine noT (by kernel_rfl) ?_
 have X:jL N V 140 (qx C).toArray:=X
 have ao:ll w N (LF gp gs gh A c):=an.ch n (fun i hi hlt=>by cases hi;exact absurd hlt (by have:=B.size;have:=ak;omega))
 refine Gn 1 rfl (G.nil (E.jG (Sr (Wn 2 rfl (Nx (WC.kF rfl (Sn (Sr (Wn 1 rfl (Wr (.jK Da (by rfl) rfl ((J.le j).cn n (by have:=J.lt;omega))) rfl ?_))))))))))
 refine Wn 1 rfl ?_
 have Y:=((o.le j).cn n (by have:=o.lt;omega))
 refine W.cl Yg rfl rfl (Mr (s:=sv) (h:=C) (⟨ch,side,id⟩:lX) side N Y ((((l.le d).cn e (by have:=l.lt;omega)).le (b.trans j)).cn n (by have:=l.lt;have:=d.size;have:=e.size;have:=b.size;omega)) ((L.le j).cn n (by have:=L.lt;omega)) y z D hsv f (by omega) (hws _) U) ?_
 rintro _ aw ⟨rfl,ap,aq,O⟩
 have ar:=ao.sub O (fun i hi hlt=>Or.elim hi (fun hi=>(by subst hi;exact Or.inr (Or.inl rfl))) (fun hi=>(by subst hi;exact Or.inr (Or.inr (Or.inl rfl)))))
 refine Nx (Sr (Wn 1 rfl (Nx (Rt ?_))))
 have au:=(((((k.le d).cb e (k.rn (by omega))).le (b.trans j)).cb n (k.rn (by have:=d.size;have:=e.size;have:=b.size;omega))).kX O (fun q hqq hF=>Or.elim hF (fun hF=>(by subst hF;exact F hqq)) (fun hF=>(by subst hF;exact H hqq))))
 refine E.jI rfl rfl ?_
 exact⟨ar,.inr ⟨_,f,rfl,_,hsv,⟨(Y.kX O (fun hF=>Or.elim hF (fun hF=>y hF) (fun hF=>z hF))),au,ap,aq,y,z,D,Q,F,H⟩⟩⟩
end Go.Proofs.YtcaehidaejhdfaaGreat

namespace Go.Proofs.YtcaehidaejhdfaaGreat
open Tryz
open Go Go.Sx Go.Num Go.rZ Go.Lsp
set_option maxRecDepth 20000
theorem Ms {Aw:Option Addr}{nw cw:Nat}{own:List Int}(w:World)(hO:Vec w iv 1 Aw nw own):Calls prog 8 #[.slice Aw nw cw] w fun r w'=>(¬Am own/\r= .returned (.pointer none)/\Le w w')\/(Am own/\∃gp gs gh A c,r= .returned (.pointer (some ⟨gp,0,none⟩))/\mf w' gp gs gh A c 0 0 own [] [] 0/\(∀k,LF gp gs gh A c k->w.heap.size<=k)/\Le w w'):=by
 have hon:=hO.1
 refine enter func8 rfl rfl ?_
 have s:=Le.refl w
 refine Sr (Wn 1 rfl (Nx (Sq (Sr (Wn 1 rfl (Wr (.len underlying67 rfl) rfl (Wn 1 rfl ?_)))))))
 by_cases y:((nw:Nat):Int)<1
 ·refine Dt y rfl rfl (Wn 4 rfl (Nx (WC.jS rfl (Sr (Wn 1 rfl (Nx (Rt (E.jH (E.jI rfl rfl ?_)))))))))
  exact .inl ⟨(by first|exact GX (by omega) (Bool.eq_false_iff.2 b)|(rintro⟨⟨z1,z2⟩,_⟩;omega)),rfl,s⟩
 refine Df y rfl rfl (Wn 1 rfl (Wg (.len underlying67 rfl) rfl (Wn 2 rfl (Nx ?_))))
 by_cases z:12<((nw:Nat):Int)
 ·refine Cy rfl (dT z) (Sr (Wn 1 rfl (Nx (Rt (E.jH (E.jI rfl rfl ?_))))))
  exact .inl ⟨(by first|exact GX (by omega) (Bool.eq_false_iff.2 b)|(rintro⟨⟨z1,z2⟩,_⟩;omega)),rfl,s⟩
 refine Cn rfl (dF z) (Sn (Sr (Wn 1 rfl (Nx (Sq (Sr (Wn 1 rfl (Wr (.len underlying67 rfl) rfl (Wn 1 rfl (Nx (WC.block (WC.loop (ι:=Nat) (fun k=>[(0,.slice Aw nw cw),(3,.int .i64 ((own.take k).sum)),(16,.slice Aw nw cw),(17,.int .i64 ((nw:Nat):Int)),(18,.int .i64 ((k:Nat):Int))]) (fun k d=>(k<=nw)/\(∀j,j<k->0<=own.getD j 0)/\((own.take k).sum<=1125899906842624)/\Le w d/\w.heap.size<=d.heap.size) (fun k=>nw-k) 0 ?_ ?_ ?_))))))))))))
 ·exact .cons rfl (.cons' rfl (int_eq (by simp)) (.of rfl))
 ·exact⟨Nat.zero_le _,fun j hj=>by omega,by simp,s,Nat.le_refl _⟩
 rintro k d ⟨hk,hn,hs,e,O⟩
 refine Sr (Wn 1 rfl (Nx (Sq ?_)))
 by_cases B:((k:Nat):Int)<((nw:Nat):Int)
 ·refine Cy rfl (dT B) (Sn (Sq (WC.block (Sr (Wa (.lL k underlying67 kz rfl rfl (hO.isSome kr (by omega)) rfl (by omega)) rfl (Wr (.pg (v:= .int .i64 (own.getD k 0)) j5 rfl (hO.le e) kr (lF own 0 (by omega)) rfl) rfl (Wn 1 rfl (Nx (Sr (Wn 2 rfl (W.cl VI rfl rfl (Ia ((own.take k).sum) (own.getD k 0) d) ?_)))))))))))
  rintro _ Z ⟨rfl,C⟩
  have D:=e.trans C
  refine Wn 5 rfl (Nx (Sq (Sr (Wn 2 rfl (Nx ?_)))))
  by_cases b:((pG ((own.take k).sum) (own.getD k 0)).2)=true
  ·refine Cn rfl (congrArg not b) (Sn (WC.region (Wn 2 rfl (W.nil (E.jZ (E.jG (WC.region (Wa (.add rfl rfl (by omega)) rfl (Wn 1 rfl (W.nil (E.again (k+1) (.cons rfl (.cons' rfl (int_eq ((DW (by omega) hn b).1)) (.of rfl))) ?_ ?_)))))))))))
   ·exact⟨by omega,(DW (by omega) hn b).2.2,(DW (by omega) hn b).2.1,D,by have:=O;have:=C.size;omega⟩
   first|omega|(simp only[];omega)
  refine Cy rfl (congrArg not (Bool.eq_false_iff.2 b)) (Sr (Wn 1 rfl (Nx (Rt (E.jH (E.j4 (E.jH (E.jH (E.j4 (E.jH (E.jI rfl rfl ?_)))))))))))
  exact .inl ⟨(by first|exact GX (by omega) (Bool.eq_false_iff.2 b)|(rintro⟨⟨z1,z2⟩,_⟩;omega)),rfl,D⟩
 refine Cn rfl (dF B) (WC.exit (E.jJ (E.jJ (E.ko (E.jG (Sr (Wn 1 rfl (W.cl aaT rfl rfl (NM d (hO.le e) (by omega)) ?_))))))))
 rintro _ aa ⟨F,H,rfl,i,P⟩
 have I:=e.trans P
 refine W.ef rfl rfl rfl (Ef.xQ sw mK fun l ab Q t m=>?_)
 have J:=I.trans m
 refine W.ef rfl rfl rfl (Ef.xQ Bg oK fun n ac R K f=>?_)
 have L:=J.trans f
 refine Wa (.kK [.slice F nw H,.map (some l),.map (some n),.int .i64 (0)] Y5 aaC rfl rfl) rfl (W.ef rfl rfl rfl (Ef.mH rfl fun u S T (U:jL S u 132 #[.slice F nw H,.map (some l),.map (some n),.int .i64 (0)]) o=>?_))
 have V:=L.trans o
 refine Wn 1 rfl (Nx (Rt ?_))
 have N:=(i.le (m.trans (f.trans o)))
 have X:=(t.le (f.trans o))
 have Y:=(K.le o)
 refine E.jI rfl rfl ?_
 have ad:k=nw:=(by omega);have hsw:(own.take k).sum=own.sum:=(by rw[List.take_of_length_le (by omega)]);have hnn:∀x∈own,0<=x:=(fun x hx=>by obtain⟨j,hj,rfl⟩:=List.getElem_of_mem hx;have:=hn j (by omega);rwa [List.getD_eq_getElem?_getD,List.getElem?_eq_getElem hj]at this);subst hon;exact .inr ⟨⟨⟨by omega,by omega⟩,hnn,by omega⟩,_,_,_,_,_,rfl,⟨U,N.mono (Nat.zero_le _),X,Y,(show u≠l from by have:=t.lt;have:=f.size;omega),(show u≠n from by have:=K.lt;omega),(show l≠n from by have:=t.lt;omega),(i.rn (by have:=m.size;have:=f.size;omega)),(i.rn (by omega)),(i.rn (by have:=m.size;omega))⟩,(by rintro q (rfl|rfl|rfl|hq);exact(by have:=T;have:=L.size;omega);exact(by have:=Q;have:=I.size;omega);exact(by have:=R;have:=J.size;omega);exact Nat.le_trans e.size (N.row hq).1),V⟩


end Go.Proofs.YtcaehidaejhdfaaGreat

namespace Go.Proofs.YtcaehidaejhdfaaGreat
open Tryz
open Go Go.Sx Go.Num Go.rZ Go.Lsp
set_option maxRecDepth 20000
theorem nH {ls:SM}{jU:List xn}{k:Nat}(h:k<jU.length):l6 ls (jU.take (k+1))=uA (l6 ls (jU.take k)) (jU.getD k jY):=by
  unfold l6
  rw[List.take_add_one,lF jU jY h,List.foldl_append]
  rfl
theorem QM {st:SM×Int}(h:st.2≠0)(g:xn):uA st g=st:=by unfold uA;rw[if_pos h]
theorem Gr {st:SM×Int}(h:st.2≠0):∀l:List xn,l.foldl uA st=st
  |[]=>rfl
  |g::l=>by rw[List.foldl_cons,QM h g,Gr h l]
theorem oW {ls:SM}{jU:List xn}{k:Nat}(h:(l6 ls (jU.take k)).2≠0):l6 ls jU=l6 ls (jU.take k):=by
  have e:jU=jU.take k++jU.drop k:=(List.take_append_drop k jU).symm
  have e2:l6 ls jU=(jU.drop k).foldl uA (l6 ls (jU.take k)):=by
    unfold l6
    rw[<-List.foldl_append,List.take_append_drop]
  rw[e2,Gr h]
theorem TG {s:Seat}{i j:Nat}{v:Int}(hi:i<2)(hj:j<2)(h:i≠j):(s.setH i v).h j=s.h j:=by
  have b:i=0\/i=1:=by omega
  have c:j=0\/j=1:=by omega
  rcases b with rfl|rfl<;>rcases c with rfl|rfl<;>first|rfl|(exact absurd rfl h)
def Gs (ls:SM):Prop:=∀x∈ls,0<=x.2.2.h0/\0<=x.2.2.h1/\x.2.2.h0+x.2.2.h1<=2251799813685248
theorem TH {ls:SM}(h:Gs ls){x:Nat×Int×Seat}(hx:x∈ls)(i:Nat):0<=x.2.2.h i/\x.2.2.h i<=2251799813685248:=by
  have:=h x hx
  unfold Seat.h
  split<;>omega
theorem NQ {s:Seat}{g:xn}(hs:0<=s.h0/\0<=s.h1/\s.h0+s.h1<=2251799813685248)(hg:sH g)(hf:¬s.h g.side.toNat<g.am):0<=(Ap s g).h0/\0<=(Ap s g).h1/\(Ap s g).h0+(Ap s g).h1<=2251799813685248:=by
  obtain⟨⟨b,c⟩,d,f⟩:=hg
  have:g.side=0\/g.side=1:=by omega
  rcases this with e|e
  · rw[e]at hf
    simp[Seat.h]at hf
    simp[Ap,e,Seat.setH,Seat.h]
    omega
  · rw[e]at hf
    simp[Seat.h]at hf
    simp[Ap,e,Seat.setH,Seat.h]
    omega
theorem NR {ls:SM}{key:Int}{t:Seat}(h:Gs ls)(ht:0<=t.h0/\0<=t.h1/\t.h0+t.h1<=2251799813685248):Gs (oq key t ls):=by
  intro x hx
  unfold oq at hx
  obtain⟨y,hy,rfl⟩:=List.mem_map.1 hx
  split
  · exact ht
  · exact h y hy
theorem TI {gp gs gh c cs ck:Nat}{A:Option Addr}{own:List Int}{ls:SM}{lh:HM}{lost:Int}{Ag:Option Addr}{ng cg:Nat}{jU:List xn}(w:World)(hL:mf w gp gs gh A c cs ck own ls lh lost)(hg:Vec w Bf 3 Ag ng jU)(hng:ng<=1000)(hgd:Gs ls)(hga:∀q,lU Ag=some q->0<ng->q<w.heap.size->¬LF gp gs gh A c q):Calls prog 20 #[.pointer (some ⟨gp,0,none⟩),.slice Ag ng cg] w fun r w'=>ll w w' (LF gp gs gh A c)/\(((l6 ls jU).2≠0/\r= .returned (.int .i64 (l6 ls jU).2)/\mf w' gp gs gh A c cs ck own ls lh lost)\/((l6 ls jU).2=0/\r= .returned (.int .i64 0)/\∃gs',w.heap.size<=gs'/\mf w' gp gs' gh A c cs ck own (l6 ls jU).1 lh lost)):=by
 have Z:=hL.hp
 have ap:=hL.hO
 have aq:=hL.hS
 have ar:=hL.hH
 have F:=hL.ps
 have B:=hL.ph
 have H:=hL.sh
 have C:=hL.op
 have I:=hL.os
 have D:=hL.oh
 have hgn:=hg.1
 refine enter func20 rfl rfl ?_
 have L0:=ll.refl w (LF gp gs gh A c)
 refine Sr (Wn 1 rfl (Nx (Sr (Wn 1 rfl (Wa (.nilCheck rfl) rfl (Wa (.jE mM rfl) rfl (Wr (.jF (v:= .map (some gs)) rR rfl Z rfl) rfl (W.cl aaU rfl rfl (NN w aq) ?_))))))))
 rintro _ aS ⟨V,rfl,aF,aT,aa⟩
 refine Wn 1 rfl (Nx (Sq (Sr (Wn 1 rfl (Wr (.len underlying92 rfl) rfl (Wn 1 rfl (Nx (WC.block ?_))))))))
 refine WC.loop (ι:=Nat×SM) (fun⟨k,lc⟩=>[(0,.pointer (some ⟨gp,0,none⟩)),(5,.map (some V)),(15,.slice Ag ng cg),(16,.int .i64 ((ng:Nat):Int)),(17,.int .i64 ((k:Nat):Int))]) (fun⟨k,lc⟩ O=>(k<=ng)/\(l6 ls (jU.take k)=(lc,0))/\(Gs lc)/\ll w O (LF gp gs gh A c)/\aS.heap.size<=O.heap.size/\jL O gp 132 #[.slice A own.length c,.map (some gs),.map (some gh),.int .i64 (lost)]/\jO O 0 3 iv 1 A own.length c own/\kH O sw mK gs ls cs/\kH O Bg oK gh lh ck/\kH O sw mK V lc cs) (fun⟨k,lc⟩=>ng-k) (0,ls) ?_ ?_ ?_
 ·exact .of rfl
 ·exact⟨Nat.zero_le _,rfl,hgd,(L0.le aa),Nat.le_refl _,(Z.le aa),(ap.le aa),(aq.le aa),(ar.le aa),aT⟩
 rintro⟨k,lc⟩ O ⟨hk,hpt,hgc,ai,aU,e,f,l,j,ab⟩
 refine Sr (Wn 1 rfl (Nx (Sq ?_)))
 by_cases c0:((k:Nat):Int)<((ng:Nat):Int)
 ·refine Cy rfl (dT c0) (Sn (Sq (WC.block (Sr (Wa (.lL k underlying92 VG rfl rfl (hg.isSome sO (by omega)) rfl (by omega)) rfl (Wr (.tH aaB rfl (hg.kX ai hga) sO (lF jU jY (by omega))) rfl (W.ef rfl rfl rfl (Ef.jR z91 ?_))))))))
  intro aG aV aW au b
  have L6:=ai.le b
  have au:jL aV aG 91 (Bf jY).toArray:=au
  refine W.kP rfl rfl (Ef.storeAll VG (by rfl) rfl rfl au (by simp only[List.size_toArray,sO.len]) (sO.one (jU.getD k jY)) ?_)
  intro aH J d
  have J:jL aH aG 91 (Bf (jU.getD k jY)).toArray:=J
  have X:ll w aH (LF gp gs gh A c):=L6.ch d (fun i hi hlt=>by cases hi;exact absurd hlt (by have:=ai.size;have:=aW;omega))
  refine Nx (Sr (Wn 1 rfl (Wa (.jE Qu rfl) rfl (Wr (.jF (v:= .int .i64 ((jU.getD k jY).ch)) j5 rfl J rfl) rfl ?_))))
  rcases optG (jW ((jU.getD k jY).ch) lc)with P|⟨m,P⟩
  ·have f8:=((ab.le b).cn d (by have:=ab.lt;omega))
   refine Wr (.as (.mi (key:=((jU.getD k jY).ch)) underlying129 oU z70 rfl rfl f8) (by rw[P]<;>rfl)) rfl ?_
   refine Wn 1 rfl (Wa (.extract (v:= .agg (jT jM).toArray) rfl rfl) rfl (Wn 1 rfl (W.ef rfl rfl rfl (Ef.jR z70 fun aX aY aZ (a0:jL aY aX 70 (jT jM).toArray) s=>?_))))
   have L9:=X.le s
   refine W.kP rfl rfl (Ef.storeAll rQ (by rfl) rfl rfl a0 (by simp only[List.size_toArray,jQ.len]) (jQ.one jM) ?_)
   intro aI b5 t
   have aj:ll w aI (LF gp gs gh A c):=L9.ch t (fun i hi hlt=>by cases hi;exact absurd hlt (by have:=X.size;have:=aZ;omega))
   refine Wn 1 rfl (Nx (Sq (WC.block (Sr (Wa (.jE zA rfl) rfl ?_)))))
   have ak:=((J.le s).cn t (by have:=J.lt;omega))
   refine Wr (.jF (v:= .int .i64 ((jU.getD k jY).side)) j5 rfl ak rfl) rfl (Wn 1 rfl ?_)
   by_cases ac:((jU.getD k jY).side)<0
   ·refine Dt ac rfl rfl (Wn 16 rfl (Nx (WC.jS rfl (Sr (Wn 1 rfl (Nx (Rt (E.j4 (E.jH (E.j4 (E.jH (E.jH (E.j4 (E.jH ?_))))))))))))))
    have a5:=((((e.le b).cn d (by have:=e.lt;omega)).le s).cn t (by have:=e.lt;have:=b.size;have:=d.size;omega))
    have a6:=((((f.le b).cb d (f.rn (by omega))).le s).cb t (f.rn (by have:=b.size;have:=d.size;omega)))
    have a7:=((((l.le b).cn d (by have:=l.lt;omega)).le s).cn t (by have:=l.lt;have:=b.size;have:=d.size;omega))
    have a8:=((((j.le b).cn d (by have:=j.lt;omega)).le s).cn t (by have:=j.lt;have:=b.size;have:=d.size;omega))
    refine E.jI rfl rfl ?_
    have e9:l6 ls (jU.take (k+1))=(lc,1):=(by rw[nH (by omega),hpt];unfold uA;rw[if_neg (by simp)];rw[if_pos (fun hh:sH (jU.getD k jY)=>by obtain⟨⟨S,T⟩,U,y⟩:=hh;first|omega|(exact absurd (j6.2 ⟨by omega,y⟩) (by assumption)))]);have e8:l6 ls jU=(lc,1):=(by rw[oW (k:=k+1) (by rw[e9];simp),e9]);exact⟨aj,.inl ⟨by rw[e8];simp,by rw[e8],⟨a5,a6,a7,a8,F,B,H,C,I,D⟩⟩⟩
   refine Df ac rfl rfl (Wg (Any.rd (.jE zA rfl) _) rfl (Wg (.jF (v:= .int .i64 ((jU.getD k jY).side)) j5 rfl ak rfl) rfl (Wn 2 rfl ?_)))
   by_cases ad:1<((jU.getD k jY).side)
   ·refine Dt ad rfl rfl (Wn 11 rfl (Nx (WC.jS rfl (Sr (Wn 1 rfl (Nx (Rt (E.j4 (E.jH (E.j4 (E.jH (E.jH (E.j4 (E.jH ?_))))))))))))))
    have a9:=((((e.le b).cn d (by have:=e.lt;omega)).le s).cn t (by have:=e.lt;have:=b.size;have:=d.size;omega))
    have ba:=((((f.le b).cb d (f.rn (by omega))).le s).cb t (f.rn (by have:=b.size;have:=d.size;omega)))
    have bb:=((((l.le b).cn d (by have:=l.lt;omega)).le s).cn t (by have:=l.lt;have:=b.size;have:=d.size;omega))
    have bc:=((((j.le b).cn d (by have:=j.lt;omega)).le s).cn t (by have:=j.lt;have:=b.size;have:=d.size;omega))
    refine E.jI rfl rfl ?_
    have e9:l6 ls (jU.take (k+1))=(lc,1):=(by rw[nH (by omega),hpt];unfold uA;rw[if_neg (by simp)];rw[if_pos (fun hh:sH (jU.getD k jY)=>by obtain⟨⟨S,T⟩,U,y⟩:=hh;first|omega|(exact absurd (j6.2 ⟨by omega,y⟩) (by assumption)))]);have e8:l6 ls jU=(lc,1):=(by rw[oW (k:=k+1) (by rw[e9];simp),e9]);exact⟨aj,.inl ⟨by rw[e8];simp,by rw[e8],⟨a9,ba,bb,bc,F,B,H,C,I,D⟩⟩⟩
   refine Df ad rfl rfl (Wg (Any.rd (.jE zB rfl) _) rfl (Wg (.jF (v:= .int .i64 ((jU.getD k jY).am)) j5 rfl ak rfl) rfl (Wn 2 rfl ?_)))
   by_cases ae:((jU.getD k jY).am)<1
   ·refine Dt ae rfl rfl (Wn 6 rfl (Nx (WC.jS rfl (Sr (Wn 1 rfl (Nx (Rt (E.j4 (E.jH (E.j4 (E.jH (E.jH (E.j4 (E.jH ?_))))))))))))))
    have bd:=((((e.le b).cn d (by have:=e.lt;omega)).le s).cn t (by have:=e.lt;have:=b.size;have:=d.size;omega))
    have be:=((((f.le b).cb d (f.rn (by omega))).le s).cb t (f.rn (by have:=b.size;have:=d.size;omega)))
    have bf:=((((l.le b).cn d (by have:=l.lt;omega)).le s).cn t (by have:=l.lt;have:=b.size;have:=d.size;omega))
    have bg:=((((j.le b).cn d (by have:=j.lt;omega)).le s).cn t (by have:=j.lt;have:=b.size;have:=d.size;omega))
    refine E.jI rfl rfl ?_
    have e9:l6 ls (jU.take (k+1))=(lc,1):=(by rw[nH (by omega),hpt];unfold uA;rw[if_neg (by simp)];rw[if_pos (fun hh:sH (jU.getD k jY)=>by obtain⟨⟨S,T⟩,U,y⟩:=hh;first|omega|(exact absurd (j6.2 ⟨by omega,y⟩) (by assumption)))]);have e8:l6 ls jU=(lc,1):=(by rw[oW (k:=k+1) (by rw[e9];simp),e9]);exact⟨aj,.inl ⟨by rw[e8];simp,by rw[e8],⟨bd,be,bf,bg,F,B,H,C,I,D⟩⟩⟩
   refine Df ae rfl rfl (Wg (Any.rd (.jE zB rfl) _) rfl (Wg (.jF (v:= .int .i64 ((jU.getD k jY).am)) j5 rfl ak rfl) rfl (W.mY rfl rfl rfl rfl rfl rfl (Ef.call Dm rfl rfl (qL ((jU.getD k jY).am) aI) ?_))))
   rintro _ b6 ⟨rfl,K⟩
   refine⟨_,rfl,?_⟩
   have aJ:=aj.le K
   refine Wn 3 rfl (Nx ?_)
   by_cases c1:(nu ((jU.getD k jY).am))=true
   ·refine Cn rfl (congrArg not c1) ?_
    have hlo:sH (jU.getD k jY):=⟨⟨by omega,by omega⟩,by omega,(j6.1 (by assumption)).2⟩
    have av:=hlo
    obtain⟨⟨o1,o2⟩,o3,o4⟩:=av
    refine Sr (Wn 3 rfl (Nx (WC.jS rfl (Sr (Wn 1 rfl (Nx (Rt (E.j4 (E.jH (E.j4 (E.jH (E.jH (E.j4 (E.jH ?_))))))))))))))
    have bi:=(((((e.le b).cn d (by have:=e.lt;omega)).le s).cn t (by have:=e.lt;have:=b.size;have:=d.size;omega)).le K)
    have bj:=(((((f.le b).cb d (f.rn (by omega))).le s).cb t (f.rn (by have:=b.size;have:=d.size;omega))).le K)
    have bk:=(((((l.le b).cn d (by have:=l.lt;omega)).le s).cn t (by have:=l.lt;have:=b.size;have:=d.size;omega)).le K)
    have bl:=(((((j.le b).cn d (by have:=j.lt;omega)).le s).cn t (by have:=j.lt;have:=b.size;have:=d.size;omega)).le K)
    refine E.jI rfl rfl ?_
    have e9:l6 ls (jU.take (k+1))=(lc,5):=(by rw[nH (by omega),hpt];unfold uA;rw[if_neg (by simp)];rw[if_neg (not_not_intro hlo),P]);have e8:l6 ls jU=(lc,5):=(by rw[oW (k:=k+1) (by rw[e9];simp),e9]);exact⟨aJ,.inl ⟨by rw[e8];simp,by rw[e8],⟨bi,bj,bk,bl,F,B,H,C,I,D⟩⟩⟩
   refine Cy rfl (congrArg not (Bool.eq_false_iff.2 c1)) (Sr (Wn 1 rfl (Nx (Rt (E.j4 (E.jH (E.j4 (E.jH (E.jH (E.j4 (E.jH ?_)))))))))))
   have bm:=(((((e.le b).cn d (by have:=e.lt;omega)).le s).cn t (by have:=e.lt;have:=b.size;have:=d.size;omega)).le K)
   have bn:=(((((f.le b).cb d (f.rn (by omega))).le s).cb t (f.rn (by have:=b.size;have:=d.size;omega))).le K)
   have bo:=(((((l.le b).cn d (by have:=l.lt;omega)).le s).cn t (by have:=l.lt;have:=b.size;have:=d.size;omega)).le K)
   have bp:=(((((j.le b).cn d (by have:=j.lt;omega)).le s).cn t (by have:=j.lt;have:=b.size;have:=d.size;omega)).le K)
   refine E.jI rfl rfl ?_
   have e9:l6 ls (jU.take (k+1))=(lc,1):=(by rw[nH (by omega),hpt];unfold uA;rw[if_neg (by simp)];rw[if_pos (fun hh:sH (jU.getD k jY)=>by obtain⟨⟨S,T⟩,U,y⟩:=hh;first|omega|(exact absurd (j6.2 ⟨by omega,y⟩) (by assumption)))]);have e8:l6 ls jU=(lc,1):=(by rw[oW (k:=k+1) (by rw[e9];simp),e9]);exact⟨aJ,.inl ⟨by rw[e8];simp,by rw[e8],⟨bm,bn,bo,bp,F,B,H,C,I,D⟩⟩⟩
  obtain⟨bh,Mq⟩:=oQ P
  have hsg:0<=m.h0/\0<=m.h1/\m.h0+m.h1<=2251799813685248:=hgc _ Mq
  have hsh:∀i,0<=m.h i/\m.h i<=2251799813685248:=fun i=>TH hgc Mq i
  have af:=((ab.le b).cn d (by have:=ab.lt;omega))
  refine Wr (.as (.mi (key:=((jU.getD k jY).ch)) underlying129 oU z70 rfl rfl af) (by rw[P]<;>rfl)) rfl ?_
  refine Wn 1 rfl (Wa (.extract (v:= .agg (jT m).toArray) rfl rfl) rfl (Wn 1 rfl (W.ef rfl rfl rfl (Ef.jR z70 fun al bq aw (bs:jL bq al 70 (jT jM).toArray) n=>?_))))
  have bt:=X.le n
  refine W.kP rfl rfl (Ef.storeAll rQ (by rfl) rfl rfl bs (by simp only[List.size_toArray,jQ.len]) (jQ.one m) ?_)
  intro ax ay o
  have ay:jL ax al 70 (jT m).toArray:=ay
  have an:ll w ax (LF gp gs gh A c):=bt.ch o (fun i hi hlt=>by cases hi;exact absurd hlt (by have:=X.size;have:=aw;omega))
  refine Wn 1 rfl (Nx (Sq (WC.block (Sr (Wa (.jE zA rfl) rfl ?_)))))
  have ah:=((J.le n).cn o (by have:=J.lt;omega))
  refine Wr (.jF (v:= .int .i64 ((jU.getD k jY).side)) j5 rfl ah rfl) rfl (Wn 1 rfl ?_)
  by_cases ac:((jU.getD k jY).side)<0
  ·refine Dt ac rfl rfl (Wn 16 rfl (Nx (WC.jS rfl (Sr (Wn 1 rfl (Nx (Rt (E.j4 (E.jH (E.j4 (E.jH (E.jH (E.j4 (E.jH ?_))))))))))))))
   have bu:=((((e.le b).cn d (by have:=e.lt;omega)).le n).cn o (by have:=e.lt;have:=b.size;have:=d.size;omega))
   have bv:=((((f.le b).cb d (f.rn (by omega))).le n).cb o (f.rn (by have:=b.size;have:=d.size;omega)))
   have bw:=((((l.le b).cn d (by have:=l.lt;omega)).le n).cn o (by have:=l.lt;have:=b.size;have:=d.size;omega))
   have bx:=((((j.le b).cn d (by have:=j.lt;omega)).le n).cn o (by have:=j.lt;have:=b.size;have:=d.size;omega))
   refine E.jI rfl rfl ?_
   have e9:l6 ls (jU.take (k+1))=(lc,1):=(by rw[nH (by omega),hpt];unfold uA;rw[if_neg (by simp)];rw[if_pos (fun hh:sH (jU.getD k jY)=>by obtain⟨⟨S,T⟩,U,y⟩:=hh;first|omega|(exact absurd (j6.2 ⟨by omega,y⟩) (by assumption)))]);have e8:l6 ls jU=(lc,1):=(by rw[oW (k:=k+1) (by rw[e9];simp),e9]);exact⟨an,.inl ⟨by rw[e8];simp,by rw[e8],⟨bu,bv,bw,bx,F,B,H,C,I,D⟩⟩⟩
  refine Df ac rfl rfl (Wg (Any.rd (.jE zA rfl) _) rfl (Wg (.jF (v:= .int .i64 ((jU.getD k jY).side)) j5 rfl ah rfl) rfl (Wn 2 rfl ?_)))
  by_cases ad:1<((jU.getD k jY).side)
  ·refine Dt ad rfl rfl (Wn 11 rfl (Nx (WC.jS rfl (Sr (Wn 1 rfl (Nx (Rt (E.j4 (E.jH (E.j4 (E.jH (E.jH (E.j4 (E.jH ?_))))))))))))))
   have bz:=((((e.le b).cn d (by have:=e.lt;omega)).le n).cn o (by have:=e.lt;have:=b.size;have:=d.size;omega))
   have bA:=((((f.le b).cb d (f.rn (by omega))).le n).cb o (f.rn (by have:=b.size;have:=d.size;omega)))
   have bB:=((((l.le b).cn d (by have:=l.lt;omega)).le n).cn o (by have:=l.lt;have:=b.size;have:=d.size;omega))
   have bC:=((((j.le b).cn d (by have:=j.lt;omega)).le n).cn o (by have:=j.lt;have:=b.size;have:=d.size;omega))
   refine E.jI rfl rfl ?_
   have e9:l6 ls (jU.take (k+1))=(lc,1):=(by rw[nH (by omega),hpt];unfold uA;rw[if_neg (by simp)];rw[if_pos (fun hh:sH (jU.getD k jY)=>by obtain⟨⟨S,T⟩,U,y⟩:=hh;first|omega|(exact absurd (j6.2 ⟨by omega,y⟩) (by assumption)))]);have e8:l6 ls jU=(lc,1):=(by rw[oW (k:=k+1) (by rw[e9];simp),e9]);exact⟨an,.inl ⟨by rw[e8];simp,by rw[e8],⟨bz,bA,bB,bC,F,B,H,C,I,D⟩⟩⟩
  refine Df ad rfl rfl (Wg (Any.rd (.jE zB rfl) _) rfl (Wg (.jF (v:= .int .i64 ((jU.getD k jY).am)) j5 rfl ah rfl) rfl (Wn 2 rfl ?_)))
  by_cases ae:((jU.getD k jY).am)<1
  ·refine Dt ae rfl rfl (Wn 6 rfl (Nx (WC.jS rfl (Sr (Wn 1 rfl (Nx (Rt (E.j4 (E.jH (E.j4 (E.jH (E.jH (E.j4 (E.jH ?_))))))))))))))
   have bD:=((((e.le b).cn d (by have:=e.lt;omega)).le n).cn o (by have:=e.lt;have:=b.size;have:=d.size;omega))
   have bE:=((((f.le b).cb d (f.rn (by omega))).le n).cb o (f.rn (by have:=b.size;have:=d.size;omega)))
   have bF:=((((l.le b).cn d (by have:=l.lt;omega)).le n).cn o (by have:=l.lt;have:=b.size;have:=d.size;omega))
   have bG:=((((j.le b).cn d (by have:=j.lt;omega)).le n).cn o (by have:=j.lt;have:=b.size;have:=d.size;omega))
   refine E.jI rfl rfl ?_
   have e9:l6 ls (jU.take (k+1))=(lc,1):=(by rw[nH (by omega),hpt];unfold uA;rw[if_neg (by simp)];rw[if_pos (fun hh:sH (jU.getD k jY)=>by obtain⟨⟨S,T⟩,U,y⟩:=hh;first|omega|(exact absurd (j6.2 ⟨by omega,y⟩) (by assumption)))]);have e8:l6 ls jU=(lc,1):=(by rw[oW (k:=k+1) (by rw[e9];simp),e9]);exact⟨an,.inl ⟨by rw[e8];simp,by rw[e8],⟨bD,bE,bF,bG,F,B,H,C,I,D⟩⟩⟩
  refine Df ae rfl rfl (Wg (Any.rd (.jE zB rfl) _) rfl (Wg (.jF (v:= .int .i64 ((jU.getD k jY).am)) j5 rfl ah rfl) rfl (W.mY rfl rfl rfl rfl rfl rfl (Ef.call Dm rfl rfl (qL ((jU.getD k jY).am) ax) ?_))))
  rintro _ b7 ⟨rfl,x⟩
  refine⟨_,rfl,?_⟩
  have aK:=an.le x
  refine Wn 3 rfl (Nx ?_)
  by_cases c1:(nu ((jU.getD k jY).am))=true
  ·refine Cn rfl (congrArg not c1) ?_
   have hlo:sH (jU.getD k jY):=⟨⟨by omega,by omega⟩,by omega,(j6.1 (by assumption)).2⟩
   have av:=hlo
   obtain⟨⟨o1,o2⟩,o3,o4⟩:=av
   refine Sr (Wn 3 rfl (Nx (WC.kF rfl (Sq (WC.draw [0,1,2,3,4,5,6,7,8] mixed (by kernel_rfl) fun b8 z=>?_)))))
   have aL:=aK.le z
   refine Ga rfl (.jE zA rfl) ?_
   have az:=(ah.le (x.trans z))
   refine Gd rfl (.jF (v:= .int .i64 ((jU.getD k jY).side)) j5 rfl az rfl) (Ga rfl (.jE lZ rfl) (Ga rfl (.j3 (((jU.getD k jY).side).toNat) underlying52 kz rfl rfl (by omega) (by omega)) ?_))
   have aM:=(ay.le (x.trans z))
   refine Gd rfl (.jF (v:= .int .i64 (m.h (((jU.getD k jY).side).toNat))) j5 rfl aM (nG m (by omega))) (Ga rfl (.jE zB rfl) (Gd rfl (.jF (v:= .int .i64 ((jU.getD k jY).am)) j5 rfl az rfl) (Gn 2 rfl (G.nil (E.jG ?_)))))
   by_cases c3:(m.h (((jU.getD k jY).side).toNat))<((jU.getD k jY).am)
   ·refine Cy rfl (dT c3) (Sr (Wn 1 rfl (Nx (Rt (E.j4 (E.jH (E.j4 (E.jH (E.jH (E.j4 (E.jH ?_)))))))))))
    have bH:=(((((e.le b).cn d (by have:=e.lt;omega)).le n).cn o (by have:=e.lt;have:=b.size;have:=d.size;omega)).le (x.trans z))
    have bI:=(((((f.le b).cb d (f.rn (by omega))).le n).cb o (f.rn (by have:=b.size;have:=d.size;omega))).le (x.trans z))
    have bJ:=(((((l.le b).cn d (by have:=l.lt;omega)).le n).cn o (by have:=l.lt;have:=b.size;have:=d.size;omega)).le (x.trans z))
    have bK:=(((((j.le b).cn d (by have:=j.lt;omega)).le n).cn o (by have:=j.lt;have:=b.size;have:=d.size;omega)).le (x.trans z))
    refine E.jI rfl rfl ?_
    have e9:l6 ls (jU.take (k+1))=(lc,8):=(by rw[nH (by omega),hpt];unfold uA;rw[if_neg (by simp)];rw[if_neg (not_not_intro hlo),P];simp only;rw[if_pos c3]);have e8:l6 ls jU=(lc,8):=(by rw[oW (k:=k+1) (by rw[e9];simp),e9]);exact⟨aL,.inl ⟨by rw[e8];simp,by rw[e8],⟨bH,bI,bJ,bK,F,B,H,C,I,D⟩⟩⟩
   refine Cn rfl (dF c3) (WC.skip (E.jZ (E.jG (Sq (WC.draw [0,1,2,3,4,5,6,7,8,9,10] mixed (by kernel_rfl) fun b9 L=>?_)))))
   have bL:=aL.le L
   refine Ga rfl (.jE zA rfl) ?_
   have aA:=(az.le L)
   refine Gd rfl (.jF (v:= .int .i64 ((jU.getD k jY).side)) j5 rfl aA rfl) (Ga rfl (.jE lZ rfl) (Ga rfl (.j3 (((jU.getD k jY).side).toNat) underlying52 kz rfl rfl (by omega) (by omega)) ?_))
   have aN:=(aM.le L)
   refine Gd rfl (.jF (v:= .int .i64 (m.h (((jU.getD k jY).side).toNat))) j5 rfl aN (nG m (by omega))) (Ga rfl (.jE zB rfl) (Gd rfl (.jF (v:= .int .i64 ((jU.getD k jY).am)) j5 rfl aA rfl) (Ga rfl (.sub rfl rfl (by have:=hsh ((jU.getD k jY).side).toNat;omega)) ?_)))
   refine Ga rfl (.jE lZ rfl) (Ga rfl (.j3 (((jU.getD k jY).side).toNat) underlying52 kz rfl rfl (by omega) (by omega)) (G.kP rfl rfl rfl rfl (Ef.store kz rfl rfl aN (by simp[jQ.len,-List.getD_eq_getElem?_getD];omega) rfl ?_)))
   intro aO aB Q
   refine noT (by kernel_rfl) ?_
   have aB:jL aO al 70 (jT (m.setH (((jU.getD k jY).side).toNat) ((m.h (((jU.getD k jY).side).toNat))-((jU.getD k jY).am)))).toArray:=aB.cast (wu m ((m.h (((jU.getD k jY).side).toNat))-((jU.getD k jY).am)) (by omega))
   have bM:ll w aO (LF gp gs gh A c):=bL.ch Q (fun i hi hlt=>by cases hi;exact absurd hlt (by have:=X.size;have:=aw;omega))
   refine G.nil (E.jG (Sq (WC.draw [0,1,2,3,4,5,6,7,8,9,10,11] mixed (by kernel_rfl) fun ca N=>?_)))
   have bN:=bM.le N
   refine Ga rfl (.jE zA rfl) ?_
   have aC:=((aA.cn Q (by have:=J.lt;omega)).le N)
   refine Gd rfl (.jF (v:= .int .i64 ((jU.getD k jY).side)) j5 rfl aC rfl) (Ga rfl (.sub rfl rfl (by omega)) (Ga rfl (.jE lZ rfl) (Ga rfl (.j3 ((1-((jU.getD k jY).side)).toNat) underlying52 kz rfl rfl (by omega) (by omega)) ?_)))
   have aP:=(aB.le N)
   refine Gd rfl (.jF (v:= .int .i64 ((m.setH (((jU.getD k jY).side).toNat) ((m.h (((jU.getD k jY).side).toNat))-((jU.getD k jY).am))).h ((1-((jU.getD k jY).side)).toNat))) j5 rfl aP (nG (m.setH (((jU.getD k jY).side).toNat) ((m.h (((jU.getD k jY).side).toNat))-((jU.getD k jY).am))) (by omega))) (Ga rfl (.jE zB rfl) (Gd rfl (.jF (v:= .int .i64 ((jU.getD k jY).am)) j5 rfl aC rfl) (Ga rfl (.add rfl rfl (by rw[TG (by omega) (by omega) (by omega)];have:=hsh (1-(jU.getD k jY).side).toNat;omega)) ?_)))
   refine Ga rfl (.jE lZ rfl) (Ga rfl (.j3 ((1-((jU.getD k jY).side)).toNat) underlying52 kz rfl rfl (by omega) (by omega)) (G.kP rfl rfl rfl rfl (Ef.store kz rfl rfl aP (by simp[jQ.len,-List.getD_eq_getElem?_getD];omega) rfl ?_)))
   intro aQ aD R
   refine noT (by kernel_rfl) ?_
   have aD:jL aQ al 70 (jT ((m.setH (((jU.getD k jY).side).toNat) ((m.h (((jU.getD k jY).side).toNat))-((jU.getD k jY).am))).setH ((1-((jU.getD k jY).side)).toNat) (((m.setH (((jU.getD k jY).side).toNat) ((m.h (((jU.getD k jY).side).toNat))-((jU.getD k jY).am))).h ((1-((jU.getD k jY).side)).toNat))+((jU.getD k jY).am)))).toArray:=aD.cast (wu (m.setH (((jU.getD k jY).side).toNat) ((m.h (((jU.getD k jY).side).toNat))-((jU.getD k jY).am))) (((m.setH (((jU.getD k jY).side).toNat) ((m.h (((jU.getD k jY).side).toNat))-((jU.getD k jY).am))).h ((1-((jU.getD k jY).side)).toNat))+((jU.getD k jY).am)) (by omega))
   have bO:ll w aQ (LF gp gs gh A c):=bN.ch R (fun i hi hlt=>by cases hi;exact absurd hlt (by have:=X.size;have:=aw;omega))
   refine G.nil (E.jG (WC.region (Wn 1 rfl (Wa (.jE Qu rfl) rfl (Wr (.jF (v:= .int .i64 ((jU.getD k jY).ch)) j5 rfl (aC.cn R (by have:=J.lt;omega)) rfl) rfl ?_)))))
   refine Wr (.jK wW (by rfl) rfl aD) rfl ?_
   have bP:=((((((af.le n).cn o (by have:=af.lt;omega)).le (x.trans (z.trans L))).cn Q (by have:=af.lt;omega)).le N).cn R (by have:=af.lt;omega))
   refine W.kP rfl rfl (Ef.wQ (key:=((jU.getD k jY).ch)) (u:=((m.setH (((jU.getD k jY).side).toNat) ((m.h (((jU.getD k jY).side).toNat))-((jU.getD k jY).am))).setH ((1-((jU.getD k jY).side)).toNat) (((m.setH (((jU.getD k jY).side).toNat) ((m.h (((jU.getD k jY).side).toNat))-((jU.getD k jY).am))).h ((1-((jU.getD k jY).side)).toNat))+((jU.getD k jY).am)))) underlying129 oU rfl rfl rfl bP x8 P fun bQ bR Y=>?_)
   have bS:ll w bQ (LF gp gs gh A c):=bO.ch Y (fun i hi hlt=>by cases hi;exact absurd hlt (by have:=L0.size;have:=aF;omega))
   refine W.nil (E.jZ (E.jG (WC.region (Wa (.add rfl rfl (by omega)) rfl (Wn 1 rfl (W.nil ?_))))))
   have bT:=(((((((((e.le b).cn d (by have:=e.lt;omega)).le n).cn o (by have:=e.lt;have:=b.size;have:=d.size;omega)).le (x.trans (z.trans L))).cn Q (by have:=e.lt;have:=b.size;have:=d.size;omega)).le N).cn R (by have:=e.lt;have:=b.size;have:=d.size;omega)).cn Y (by have:=Z.lt;omega))
   have bU:=(((((((((f.le b).cb d (f.rn (by omega))).le n).cb o (f.rn (by have:=b.size;have:=d.size;omega))).le (x.trans (z.trans L))).cb Q (f.rn (by have:=b.size;have:=d.size;omega))).le N).cb R (f.rn (by have:=b.size;have:=d.size;omega))).cb Y (ap.rn (by omega)))
   have bV:=(((((((((l.le b).cn d (by have:=l.lt;omega)).le n).cn o (by have:=l.lt;have:=b.size;have:=d.size;omega)).le (x.trans (z.trans L))).cn Q (by have:=l.lt;have:=b.size;have:=d.size;omega)).le N).cn R (by have:=l.lt;have:=b.size;have:=d.size;omega)).cn Y (by have:=aq.lt;omega))
   have bW:=(((((((((j.le b).cn d (by have:=j.lt;omega)).le n).cn o (by have:=j.lt;have:=b.size;have:=d.size;omega)).le (x.trans (z.trans L))).cn Q (by have:=j.lt;have:=b.size;have:=d.size;omega)).le N).cn R (by have:=j.lt;have:=b.size;have:=d.size;omega)).cn Y (by have:=ar.lt;omega))
   refine E.again (k+1,(oq (jU.getD k jY).ch (Ap m (jU.getD k jY)) lc)) (.of rfl) ?_ ?_
   ·exact⟨by omega,by rw[nH (by omega),hpt];unfold uA;rw[if_neg (by simp),if_neg (not_not_intro hlo),P];simp only;rw[if_neg c3],NR hgc (NQ hsg hlo c3),bS,by have:=aU;have:=b.size;have:=d.size;have:=n.size;have:=o.size;have:=x.size;have:=z.size;have:=L.size;have:=Q.size;have:=N.size;have:=R.size;have:=Y.size;omega,bT,bU,bV,bW,bR⟩
   first|omega|(simp only[];omega)
  refine Cy rfl (congrArg not (Bool.eq_false_iff.2 c1)) (Sr (Wn 1 rfl (Nx (Rt (E.j4 (E.jH (E.j4 (E.jH (E.jH (E.j4 (E.jH ?_)))))))))))
  have bX:=(((((e.le b).cn d (by have:=e.lt;omega)).le n).cn o (by have:=e.lt;have:=b.size;have:=d.size;omega)).le x)
  have bY:=(((((f.le b).cb d (f.rn (by omega))).le n).cb o (f.rn (by have:=b.size;have:=d.size;omega))).le x)
  have bZ:=(((((l.le b).cn d (by have:=l.lt;omega)).le n).cn o (by have:=l.lt;have:=b.size;have:=d.size;omega)).le x)
  have b0:=(((((j.le b).cn d (by have:=j.lt;omega)).le n).cn o (by have:=j.lt;have:=b.size;have:=d.size;omega)).le x)
  refine E.jI rfl rfl ?_
  have e9:l6 ls (jU.take (k+1))=(lc,1):=(by rw[nH (by omega),hpt];unfold uA;rw[if_neg (by simp)];rw[if_pos (fun hh:sH (jU.getD k jY)=>by obtain⟨⟨S,T⟩,U,y⟩:=hh;first|omega|(exact absurd (j6.2 ⟨by omega,y⟩) (by assumption)))]);have e8:l6 ls jU=(lc,1):=(by rw[oW (k:=k+1) (by rw[e9];simp),e9]);exact⟨aK,.inl ⟨by rw[e8];simp,by rw[e8],⟨bX,bY,bZ,b0,F,B,H,C,I,D⟩⟩⟩
 refine Cn rfl (dF c0) (WC.exit (E.jJ (E.jJ (E.ko (E.jG (Sr (Wn 2 rfl (Wa (.nilCheck rfl) rfl (Wa (.jE mM rfl) rfl (W.kP rfl rfl (Ef.store P9 rfl rfl e (by first|decide|(simp;done)) rfl ?_)))))))))))
 intro aR aE ao
 have aE:jL aR gp 132 #[.slice A own.length c,.map (some V),.map (some gh),.int .i64 (lost)]:=aE
 have b1:ll w aR (LF gp gs gh A c):=ai.ch ao (fun i hi _=>by cases hi;exact Or.inl rfl)
 refine Nx (Sr (Wn 1 rfl (Nx (Rt ?_))))
 have b2:=(f.ch ao (fun q hq=>by cases hq;exact C))
 have b3:=(ab.cn ao (by have:=Z.lt;omega))
 have b4:=(j.ch ao (fun h=>B (oI h)))
 refine E.jI rfl rfl ?_
 have e8:l6 ls jU=(lc,0):=(by rw[List.take_of_length_le (by omega)]at hpt;exact hpt);exact⟨b1,.inr ⟨by rw[e8],rfl,V,(by have:=aF;have:=L0.size;omega),(by rw[e8];exact⟨aE,b2,b3,b4,(show gp≠V from by have:=Z.lt;omega),B,(show V≠gh from by have:=ar.lt;omega),C,(ap.rn (by omega)),D⟩)⟩⟩
end Go.Proofs.YtcaehidaejhdfaaGreat

namespace Go.Proofs.YtcaehidaejhdfaaGreat
open Tryz
open Go Go.Sx Go.Num Go.rZ Go.Lsp
set_option maxRecDepth 20000
def lW (d:lv):List Value:=[.int .i64 d.a,.int .i64 d.b]
theorem DF (d:lv){j:Nat}(h:j<2):(lW d).toArray[0+j]? =some (.int .i64 (d.ix j)):=by
  have:j=0\/j=1:=by omega
  rcases this with rfl|rfl<;>rfl
theorem Bj (d:lv){j:Nat}(h:j<2):(lW d).toArray[j]? =some (.int .i64 (d.ix j)):=by
  have:j=0\/j=1:=by omega
  rcases this with rfl|rfl<;>rfl
theorem NS {gp gs gh c cs ck:Nat}{A:Option Addr}{own:List Int}{ls:SM}{lh:HM}{lost:Int}(w:World)(hL:mf w gp gs gh A c cs ck own ls lh lost)(hb:∀x∈lh,0<=x.2.2.am)(hw:∀x∈ls,0<=x.2.2.h0/\0<=x.2.2.h1)(ho:∀i:Nat,0<=tJ own (i:Int))(hn:own.length<=1000)(ht:∀i:Nat,0<=nM own ls lh (i:Int)/\nM own ls lh (i:Int)<=2251799813685248):Calls prog 23 #[.pointer (some ⟨gp,0,none⟩)] w fun r w'=>r= .returned (.int .i64 (sQ own ls lh own.length))/\Le w w':=by
 refine enter func23 rfl rfl ?_
 have d:=Le.refl w
 refine Sr (Wn 1 rfl (Nx (Sr (Wn 1 rfl (Nx (Sq (Sr (Wn 1 rfl (Wa (.nilCheck rfl) rfl (Wa (.jE tV rfl) rfl (Wr (.jF (v:= .slice A own.length c) Hy rfl (hL.hp.le d) rfl) rfl (Wr (.len underlying67 rfl) rfl (Wn 1 rfl (Nx (WC.block ?_)))))))))))))))
 refine WC.loop (ι:=Nat) (fun k=>[(0,.pointer (some ⟨gp,0,none⟩)),(3,.int .i64 (sQ own ls lh k)),(9,.int .i64 ((own.length:Nat):Int)),(10,.int .i64 ((k:Nat):Int))]) (fun k b=>(k<=own.length)/\(0<=sQ own ls lh k/\sQ own ls lh k<=2251799813685248*k)/\Le w b/\w.heap.size<=b.heap.size/\kH b sw mK gs ls cs/\kH b Bg oK gh lh ck) (fun k=>own.length-k) 0 ?_ ?_ ?_
 ·exact .cons rfl (.cons' rfl (int_eq (by simp[sQ])) (.of rfl))
 ·exact⟨Nat.zero_le _,by simp[sQ],d,Nat.le_refl _,(hL.hS.le d),(hL.hH.le d)⟩
 rintro k b ⟨hk,hs,f,l,m,n⟩
 have htk:=ht k
 refine Sr (Wn 1 rfl (Nx (Sq ?_)))
 by_cases j:((k:Nat):Int)<((own.length:Nat):Int)
 ·refine Cy rfl (dT j) (Sn (Sq (WC.block (Sr (Wn 2 rfl (Nx (WC.region (Wn 3 rfl (W.cl ND rfl rfl (Gq ((k:Nat):Int) b (hL.le f) hb hw (ho k) (by omega)) ?_)))))))))
  rintro _ u ⟨rfl,e⟩
  have o:=f.trans e
  refine Wa (.add rfl rfl (by omega)) rfl (Wn 1 rfl (W.nil (E.jZ (E.jG (WC.region (Wa (.add rfl rfl (by omega)) rfl (Wn 1 rfl (W.nil ?_))))))))
  have s:=(m.le e)
  have t:=(n.le e)
  refine E.again (k+1) (.cons rfl (.cons' rfl (int_eq (by rw[CO])) (.of rfl))) ?_ ?_
  ·exact⟨by omega,by rw[CO];omega,o,by have:=l;have:=e.size;omega,s,t⟩
  first|omega|(simp only[];omega)
 refine Cn rfl (dF j) (WC.exit (E.jJ (E.jJ (E.ko (E.jG (Sr (Wn 2 rfl (Nx (Rt (E.jI rfl rfl ?_))))))))))
 have ek:k=own.length:=(by omega);subst ek;exact⟨rfl,f⟩

theorem NT {gp gs gh c cs ck:Nat}{A:Option Addr}{own:List Int}{ls:SM}{lh:HM}{lost:Int}(ch:Int)(fee:lv)(w:World)(hL:mf w gp gs gh A c cs ck own ls lh lost)(hb:∀x∈lh,0<=x.2.2.am)(hq:∀ch side,kE lh ch side<=1125899906842624)(hs:∀x∈ls,nN own.length x.2.2)(hw:∀i,0<=own.getD i 0/\own.getD i 0<=1125899906842624)(hl:0<=lost/\lost<=1125899906842624):Calls prog 17 #[.pointer (some ⟨gp,0,none⟩),.int .i64 ch,.agg (lW fee).toArray] w fun r w'=>ll w w' (LF gp gs gh A c)/\((¬((0<=fee.a/\fee.a<=1125899906842624)/\0<=fee.b/\fee.b<=1125899906842624)/\r= .returned (.int .i64 1)/\mf w' gp gs gh A c cs ck own ls lh lost)\/(((0<=fee.a/\fee.a<=1125899906842624)/\0<=fee.b/\fee.b<=1125899906842624)/\jW ch ls=none/\r= .returned (.int .i64 5)/\mf w' gp gs gh A c cs ck own ls lh lost)\/(((0<=fee.a/\fee.a<=1125899906842624)/\0<=fee.b/\fee.b<=1125899906842624)/\∃s,jW ch ls=some s/\((¬kE lh ch 0+kE lh ch 1=0/\r= .returned (.int .i64 14)/\mf w' gp gs gh A c cs ck own ls lh lost)\/(kE lh ch 0+kE lh ch 1=0/\(s.h0<fee.a\/s.h1<fee.b)/\r= .returned (.int .i64 8)/\mf w' gp gs gh A c cs ck own ls lh lost)\/(kE lh ch 0+kE lh ch 1=0/\¬(s.h0<fee.a\/s.h1<fee.b)/\r= .returned (.int .i64 0)/\mf w' gp gs gh A c cs ck (xq own s fee 2) (pJ ch ls) lh (pK lost fee 2))))):=by
 have an:=hL.hp
 have l:=hL.hO
 have ao:=hL.hS
 have z:=hL.hH
 have B:=hL.ps
 have D:=hL.ph
 have F:=hL.sh
 have H:=hL.op
 have C:=hL.os
 have I:=hL.oh
 refine enter func17 rfl rfl (Sr (W.ef rfl rfl rfl (Ef.mH rfl fun ab aC a5 (ac:jL aC ab 52 (lW fee).toArray) d=>?_)))
 have L1:=(ll.refl w (LF gp gs gh A c)).le d
 refine Wn 1 rfl (Nx (Sr (Wn 1 rfl (Wa (.nilCheck rfl) rfl (Wa (.jE mM rfl) rfl ?_)))))
 have m:=(an.le d)
 refine Wr (.jF (v:= .map (some gs)) rR rfl m rfl) rfl (Wn 1 rfl ?_)
 rcases optG (jW ch ls)with K|⟨f,K⟩
 ·have P:=(ao.le d)
  refine Wr (.as (.mi (key:=ch) underlying129 oU z70 rfl rfl P) (by rw[K]<;>rfl)) rfl ?_
  refine Wn 1 rfl (Wa (.extract (v:= .agg (jT jM).toArray) rfl rfl) rfl (Wn 1 rfl (W.ef rfl rfl rfl (Ef.jR z70 fun aD aE aF (aG:jL aE aD 70 (jT jM).toArray) n=>?_))))
  have L4:=L1.le n
  refine W.kP rfl rfl (Ef.storeAll rQ (by rfl) rfl rfl aG (by simp only[List.size_toArray,jQ.len]) (jQ.one jM) ?_)
  intro ap a6 o
  have L5:ll w ap (LF gp gs gh A c):=L4.ch o (fun i hi hlt=>by cases hi;exact absurd hlt (by have:=L1.size;have:=aF;omega))
  refine Wn 1 rfl (Nx (Sq (WC.block (Sr (Wa (.j3 0 underlying52 kz rfl rfl rfl (by omega)) rfl ?_)))))
  have f6:=((ac.le n).cn o (by have:=ac.lt;omega))
  refine Wr (.jF (v:= .int .i64 fee.a) j5 rfl f6 rfl) rfl (W.cl Dm rfl rfl (qL fee.a ap) ?_)
  rintro _ aH ⟨rfl,t⟩
  have L7:=L5.le t
  refine Wn 1 rfl ?_
  by_cases T:(nu fee.a)=true
  ·refine Wa (.dec (.move rfl) (congrArg not T)) rfl (Wg (Any.rd (.j3 1 underlying52 kz rfl rfl rfl (by omega)) _) rfl (Wg (.jF (v:= .int .i64 fee.b) j5 rfl (f6.le t) rfl) rfl (W.mY rfl rfl rfl rfl rfl rfl (Ef.call Dm rfl rfl (qL fee.b aH) ?_))))
   rintro _ a7 ⟨rfl,L⟩
   refine⟨_,rfl,?_⟩
   have L9:=L7.le L
   refine Wn 3 rfl (Nx ?_)
   by_cases U:(nu fee.b)=true
   ·refine Cn rfl (congrArg not U) ?_
    have hco:((0<=fee.a/\fee.a<=1125899906842624)/\0<=fee.b/\fee.b<=1125899906842624):=⟨j6.1 (by assumption),j6.1 (by assumption)⟩
    refine Sr (Wn 3 rfl (Nx (WC.jS rfl (Sr (Wn 1 rfl (Nx (Rt (E.j4 (E.jH (E.jI rfl rfl ?_))))))))))
    exact⟨L9,.inr (.inl ⟨hco,K,rfl,⟨(((m.le n).cn o (by have:=m.lt;omega)).le (t.trans L)),(((l.le (d.trans n)).cb o (l.rn (by have:=d.size;omega))).le (t.trans L)),(((P.le n).cn o (by have:=P.lt;omega)).le (t.trans L)),(((z.le (d.trans n)).cn o (by have:=z.lt;have:=d.size;omega)).le (t.trans L)),B,D,F,H,C,I⟩⟩)⟩
   refine Cy rfl (congrArg not (Bool.eq_false_iff.2 U)) (Sr (Wn 1 rfl (Nx (Rt (E.j4 (E.jH (E.jI rfl rfl ?_)))))))
   exact⟨L9,.inl ⟨(fun h=>by first|(exact absurd (j6.2 h.1) (by assumption))|(exact absurd (j6.2 h.2) (by assumption))),rfl,⟨(((m.le n).cn o (by have:=m.lt;omega)).le (t.trans L)),(((l.le (d.trans n)).cb o (l.rn (by have:=d.size;omega))).le (t.trans L)),(((P.le n).cn o (by have:=P.lt;omega)).le (t.trans L)),(((z.le (d.trans n)).cn o (by have:=z.lt;have:=d.size;omega)).le (t.trans L)),B,D,F,H,C,I⟩⟩⟩
  refine Wa (.dec (.move rfl) (congrArg not (Bool.eq_false_iff.2 T))) rfl (Wn 6 rfl (Nx (WC.jS rfl (Sr (Wn 1 rfl (Nx (Rt (E.j4 (E.jH (E.jI rfl rfl ?_))))))))))
  exact⟨L7,.inl ⟨(fun h=>by first|(exact absurd (j6.2 h.1) (by assumption))|(exact absurd (j6.2 h.2) (by assumption))),rfl,⟨(((m.le n).cn o (by have:=m.lt;omega)).le t),(((l.le (d.trans n)).cb o (l.rn (by have:=d.size;omega))).le t),(((P.le n).cn o (by have:=P.lt;omega)).le t),(((z.le (d.trans n)).cn o (by have:=z.lt;have:=d.size;omega)).le t),B,D,F,H,C,I⟩⟩⟩
 obtain⟨bh,Mq⟩:=oQ K
 have hso:nN own.length f:=hs _ Mq
 have Q:=(ao.le d)
 refine Wr (.as (.mi (key:=ch) underlying129 oU z70 rfl rfl Q) (by rw[K]<;>rfl)) rfl ?_
 refine Wn 1 rfl (Wa (.extract (v:= .agg (jT f).toArray) rfl rfl) rfl (Wn 1 rfl (W.ef rfl rfl rfl (Ef.jR z70 fun V aI aJ (aK:jL aI V 70 (jT jM).toArray) u=>?_))))
 have aL:=L1.le u
 refine W.kP rfl rfl (Ef.storeAll rQ (by rfl) rfl rfl aK (by simp only[List.size_toArray,jQ.len]) (jQ.one f) ?_)
 intro af ah y
 have ah:jL af V 70 (jT f).toArray:=ah
 have aM:ll w af (LF gp gs gh A c):=aL.ch y (fun i hi hlt=>by cases hi;exact absurd hlt (by have:=L1.size;have:=aJ;omega))
 refine Wn 1 rfl (Nx (Sq (WC.block (Sr (Wa (.j3 0 underlying52 kz rfl rfl rfl (by omega)) rfl ?_)))))
 have aq:=((ac.le u).cn y (by have:=ac.lt;omega))
 refine Wr (.jF (v:= .int .i64 fee.a) j5 rfl aq rfl) rfl (W.cl Dm rfl rfl (qL fee.a af) ?_)
 rintro _ aN ⟨rfl,j⟩
 have ar:=aM.le j
 refine Wn 1 rfl ?_
 by_cases T:(nu fee.a)=true
 ·refine Wa (.dec (.move rfl) (congrArg not T)) rfl (Wg (Any.rd (.j3 1 underlying52 kz rfl rfl rfl (by omega)) _) rfl ?_)
  have au:=(aq.le j)
  refine Wg (.jF (v:= .int .i64 fee.b) j5 rfl au rfl) rfl (W.mY rfl rfl rfl rfl rfl rfl (Ef.call Dm rfl rfl (qL fee.b aN) ?_))
  rintro _ aO ⟨rfl,J⟩
  refine⟨_,rfl,?_⟩
  have av:=ar.le J
  refine Wn 3 rfl (Nx ?_)
  by_cases U:(nu fee.b)=true
  ·refine Cn rfl (congrArg not U) ?_
   have hco:((0<=fee.a/\fee.a<=1125899906842624)/\0<=fee.b/\fee.b<=1125899906842624):=⟨j6.1 (by assumption),j6.1 (by assumption)⟩
   refine Sr (Wn 3 rfl (Nx (WC.kF rfl (Sr (Wn 2 rfl ?_)))))
   have X:=(((m.le u).cn y (by have:=m.lt;omega)).le (j.trans J))
   have Y:=(((l.le (d.trans u)).cb y (l.rn (by have:=d.size;omega))).le (j.trans J))
   have Z:=(((Q.le u).cn y (by have:=Q.lt;omega)).le (j.trans J))
   have aa:=(((z.le (d.trans u)).cn y (by have:=z.lt;have:=d.size;omega)).le (j.trans J))
   refine W.cl Yf rfl rfl (JK ch aO (mf.mk X Y Z aa B D F H C I) hb (hq _ 0) (hq _ 1)) ?_
   rintro _ aP ⟨rfl,e⟩
   have ad:=av.le e
   refine Wn 2 rfl (Nx ?_)
   by_cases R:kE lh ch 0+kE lh ch 1=0
   ·refine Cn rfl (congrArg not (dT R)) (Sr (Wa (.jE lZ rfl) rfl (Wa (.j3 0 underlying52 kz rfl rfl rfl (by omega)) rfl ?_)))
    have ai:=(ah.le (j.trans (J.trans e)))
    refine Wr (.jF (v:= .int .i64 f.h0) j5 rfl ai rfl) rfl (Wa (.j3 0 underlying52 kz rfl rfl rfl (by omega)) rfl ?_)
    have aj:=(au.le (J.trans e))
    refine Wr (.jF (v:= .int .i64 fee.a) j5 rfl aj rfl) rfl (Wn 1 rfl ?_)
    by_cases aw:f.h0<fee.a
    ·refine Dt aw rfl rfl (Wn 8 rfl (Nx (WC.jS rfl (Sr (Wn 1 rfl (Nx (Rt (E.j4 (E.jH (E.jI rfl rfl ?_))))))))))
     exact⟨ad,.inr (.inr ⟨hco,_,K,.inr (.inl ⟨R,(by omega),rfl,⟨(X.le e),(Y.le e),(Z.le e),(aa.le e),B,D,F,H,C,I⟩⟩)⟩)⟩
    refine Df aw rfl rfl (Wg (Any.rd (.jE lZ rfl) _) rfl (Wg (Any.rd (.j3 1 underlying52 kz rfl rfl rfl (by omega)) _) rfl (Wg (.jF (v:= .int .i64 f.h1) j5 rfl ai rfl) rfl (Wg (Any.rd (.j3 1 underlying52 kz rfl rfl rfl (by omega)) _) rfl (Wg (.jF (v:= .int .i64 fee.b) j5 rfl aj rfl) rfl ?_)))))
    refine Wn 3 rfl (Nx ?_)
    by_cases c3:f.h1<fee.b
    ·refine Cy rfl (dT c3) (Sr (Wn 1 rfl (Nx (Rt (E.j4 (E.jH (E.jI rfl rfl ?_)))))))
     exact⟨ad,.inr (.inr ⟨hco,_,K,.inr (.inl ⟨R,(by omega),rfl,⟨(X.le e),(Y.le e),(Z.le e),(aa.le e),B,D,F,H,C,I⟩⟩)⟩)⟩
    refine Cn rfl (dF c3) (WC.skip (E.jZ (E.jG (Sq (Sr (Wn 1 rfl (Nx (WC.block ?_))))))))
    refine WC.loop (ι:=Nat) (fun k=>[(0,.pointer (some ⟨gp,0,none⟩)),(1,.int .i64 ch),(5,.pointer (some ⟨ab,0,none⟩)),(7,.pointer (some ⟨V,0,none⟩)),(53,.int .i64 ((k:Nat):Int))]) (fun k N=>(k<=2)/\ll w N (LF gp gs gh A c)/\aP.heap.size<=N.heap.size/\jL N gp 132 #[.slice A own.length c,.map (some gs),.map (some gh),.int .i64 (pK lost fee k)]/\jO N 0 3 iv 1 A own.length c (xq own f fee k)/\kH N sw mK gs ls cs/\kH N Bg oK gh lh ck/\jL N ab 52 (lW fee).toArray/\jL N V 70 (jT f).toArray) (fun k=>2-k) 0 ?_ ?_ ?_
    ·exact .of rfl
    ·exact⟨Nat.zero_le _,ad,Nat.le_refl _,(X.le e),(Y.le e),(Z.le e),(aa.le e),aj,ai⟩
    rintro k N ⟨hk,ax,aQ,ak,ay,az,aA,aR,aS⟩
    have hfl:=IX (lost:=lost) (fee:=fee) hk hl hco.1 hco.2
    refine Sr (Wn 1 rfl (Nx (Sq ?_)))
    by_cases c4:((k:Nat):Int)<2
    ·refine Cy rfl (dT c4) (Sn (Sq (WC.block (Sr (Wn 2 rfl (Nx (WC.draw [0,1,2,3,4,5,6,7,8,9,10,11] mixed (by kernel_rfl) fun aT O=>(Gn 1 rfl ?_))))))))
     have al:=(aS.le O)
     refine Gd rfl (.jK wW (by rfl) rfl al) ?_
     refine Gn 2 rfl (Ga rfl (.jE lZ rfl) (Ga rfl (.j3 k underlying52 kz rfl rfl rfl (by omega)) (Gd rfl (.jF (v:= .int .i64 (f.h k)) j5 rfl al (nG f (by omega))) (Ga rfl (.Te underlying3 rfl (by have:=(ku hso (k:=k) (by omega)).2;omega)) ?_))))
     refine Gn 1 rfl (Ga rfl (.j3 k underlying52 kz rfl rfl rfl (by omega)) ?_)
     have aB:=(aR.le O)
     refine Gd rfl (.jF (v:= .int .i64 (fee.ix k)) j5 rfl aB (DF fee (by omega))) (G.ef rfl rfl rfl rfl rfl (Ef.call Tq rfl rfl (DD (own:=(xq own f fee k)) (lost:=(pK lost fee k)) f k (-(f.h k)) (fee.ix k) aT (ak.le O) (ay.le O) H (by omega) ((ku hso (by omega)).1) (by have:=(ku hso (k:=k) (by omega)).2;omega) (by unfold lv.ix;split;exact hco.1;exact hco.2) (by rw[O8 (by omega) hso.1.1 hso.2.1.1 hso.2.2.1];have:=hw (f.p k).toNat;omega) (by omega)) ?_))
     rintro _ a8 ⟨rfl,aU,aV,S⟩
     refine⟨_,rfl,?_⟩
     refine noT (by kernel_rfl) ?_
     have aW:=(ax.le O).sub S (fun i hi hlt=>Or.elim hi (fun hi=>(by subst hi;exact Or.inl rfl)) (fun hi=>((fun i hi=>Or.inr (Or.inr (Or.inr hi))) i hi)))
     refine G.nil (E.jZ (E.jG (WC.region (Wa (.add rfl rfl (by omega)) rfl (Wn 1 rfl (W.nil ?_))))))
     have aX:=(aB.kX S (fun hF=>Or.elim hF (fun hF=>(show ab≠gp from by have:=an.lt;omega) hF) (fun hF=>(l.rn (by omega)) hF)))
     have aY:=(al.kX S (fun hF=>Or.elim hF (fun hF=>(show V≠gp from by have:=m.lt;omega) hF) (fun hF=>(l.rn (by have:=d.size;omega)) hF)))
     refine E.again (k+1) (.of rfl) ?_ ?_
     ·exact⟨by omega,aW,by have:=aQ;have:=O.size;have:=S.size;omega,aU,aV,((az.le O).kX S (fun hF=>Or.elim hF (fun hF=>(Ne.symm B) hF) (fun hF=>C hF))),((aA.le O).kX S (fun hF=>Or.elim hF (fun hF=>(Ne.symm D) hF) (fun hF=>I hF))),aX,aY⟩
     first|omega|(simp only[];omega)
    refine Cn rfl (dF c4) (WC.exit (E.jJ (E.jJ (E.ko (E.jG (Sr (Wn 1 rfl (Wa (.nilCheck rfl) rfl (Wa (.jE mM rfl) rfl (Wr (.jF (v:= .map (some gs)) rR rfl ak rfl) rfl (Wn 1 rfl ?_)))))))))))
    refine W.kP rfl rfl (Ef.Hm (key:=ch) underlying129 oU rfl rfl az fun aZ a0 ae=>?_)
    have a1:ll w aZ (LF gp gs gh A c):=ax.ch ae (fun i hi _=>by cases hi;exact Or.inr (Or.inl rfl))
    refine Nx (Sr (Wn 1 rfl (Nx (Rt ?_))))
    have a2:=(ay.ch ae (fun q hq=>by cases hq;exact C))
    have a3:=(ak.ch ae (fun h=>(Ne.symm B) (oI h)))
    have a4:=(aA.ch ae (fun h=>F (oI h)))
    refine E.jI rfl rfl ?_
    have ek:k=2:=(by omega);subst ek;exact⟨a1,.inr (.inr ⟨hco,_,K,.inr (.inr ⟨R,(by omega),rfl,⟨(by rw[vP];exact a3),(by rw[vP];exact a2),a0,a4,B,D,F,H,C,I⟩⟩)⟩)⟩
   refine Cy rfl (congrArg not (dF R)) (Sr (Wn 1 rfl (Nx (Rt (E.j4 (E.jH (E.jI rfl rfl ?_)))))))
   exact⟨ad,.inr (.inr ⟨hco,_,K,.inl ⟨R,rfl,⟨(X.le e),(Y.le e),(Z.le e),(aa.le e),B,D,F,H,C,I⟩⟩⟩)⟩
  refine Cy rfl (congrArg not (Bool.eq_false_iff.2 U)) (Sr (Wn 1 rfl (Nx (Rt (E.j4 (E.jH (E.jI rfl rfl ?_)))))))
  exact⟨av,.inl ⟨(fun h=>by first|(exact absurd (j6.2 h.1) (by assumption))|(exact absurd (j6.2 h.2) (by assumption))),rfl,⟨(((m.le u).cn y (by have:=m.lt;omega)).le (j.trans J)),(((l.le (d.trans u)).cb y (l.rn (by have:=d.size;omega))).le (j.trans J)),(((Q.le u).cn y (by have:=Q.lt;omega)).le (j.trans J)),(((z.le (d.trans u)).cn y (by have:=z.lt;have:=d.size;omega)).le (j.trans J)),B,D,F,H,C,I⟩⟩⟩
 refine Wa (.dec (.move rfl) (congrArg not (Bool.eq_false_iff.2 T))) rfl (Wn 6 rfl (Nx (WC.jS rfl (Sr (Wn 1 rfl (Nx (Rt (E.j4 (E.jH (E.jI rfl rfl ?_))))))))))
 exact⟨ar,.inl ⟨(fun h=>by first|(exact absurd (j6.2 h.1) (by assumption))|(exact absurd (j6.2 h.2) (by assumption))),rfl,⟨(((m.le u).cn y (by have:=m.lt;omega)).le j),(((l.le (d.trans u)).cb y (l.rn (by have:=d.size;omega))).le j),(((Q.le u).cn y (by have:=Q.lt;omega)).le j),(((z.le (d.trans u)).cn y (by have:=z.lt;have:=d.size;omega)).le j),B,D,F,H,C,I⟩⟩⟩
end Go.Proofs.YtcaehidaejhdfaaGreat

namespace Go.Proofs.YtcaehidaejhdfaaGreat
open Tryz
open Go Go.Sx Go.Num Go.rZ Go.Lsp
set_option maxRecDepth 20000
theorem EN {d:Int}:nu (max d (Ht d))=true↔ -1125899906842624<=d/\d<=1125899906842624:=by
  rw[j6]
  unfold Ht
  split<;>omega
theorem KZ {gp gs gh c cs ck:Nat}{A:Option Addr}{own:List Int}{ls:SM}{lh:HM}{lost:Int}(ch:Int)(d fee:lv)(w:World)(hL:mf w gp gs gh A c cs ck own ls lh lost)(hd:∀k,k<2-> -9223372036854775808<=d.ix k/\d.ix k<=9223372036854775807)(hs:∀x∈ls,nN own.length x.2.2)(hw:∀i,0<=own.getD i 0/\own.getD i 0<=1125899906842624)(hl:0<=lost/\lost<=1125899906842624):Calls prog 10 #[.pointer (some ⟨gp,0,none⟩),.int .i64 ch,.agg (lW d).toArray,.agg (lW fee).toArray] w fun r w'=>ll w w' (LF gp gs gh A c)/\((¬IY d fee/\r= .returned (.int .i64 1)/\mf w' gp gs gh A c cs ck own ls lh lost)\/(IY d fee/\jW ch ls=none/\r= .returned (.int .i64 5)/\mf w' gp gs gh A c cs ck own ls lh lost)\/(IY d fee/\∃s,jW ch ls=some s/\(((∃k,k<2/\xH own s d fee k)/\r= .returned (.int .i64 8)/\mf w' gp gs gh A c cs ck own ls lh lost)\/((∀k,k<2->¬xH own s d fee k)/\r= .returned (.int .i64 0)/\mf w' gp gs gh A c cs ck (M5 own (o8 s d 2) d fee 2) (oq ch (o8 s d 2) ls) lh (pK lost fee 2))))):=by
 have au:=hL.hp
 have ah:=hL.hO
 have aQ:=hL.hS
 have aR:=hL.hH
 have F:=hL.ps
 have L:=hL.ph
 have N:=hL.sh
 have O:=hL.op
 have H:=hL.os
 have P:=hL.oh
 refine enter func10 rfl rfl (Sr (W.ef rfl rfl rfl (Ef.mH rfl fun Y aS bI (aT:jL aS Y 52 (lW d).toArray) Q=>(W.ef rfl rfl rfl (Ef.mH rfl fun I av bJ (aU:jL av I 52 (lW fee).toArray) T=>(Wn 1 rfl (Nx (Sq (Sr ?_)))))))))
 have f3:=(aT.le T)
 refine Wr (.jK vY (by rfl) rfl f3) rfl ?_
 refine Wn 1 rfl (Nx (WC.block ?_))
 refine WC.loop (ι:=Nat) (fun k=>[(0,.pointer (some ⟨gp,0,none⟩)),(1,.int .i64 ch),(6,.pointer (some ⟨Y,0,none⟩)),(7,.pointer (some ⟨I,0,none⟩)),(17,.agg (lW d).toArray),(18,.int .i64 ((k:Nat):Int))]) (fun k y=>(k<=2)/\(∀i,i<k->(-1125899906842624<=d.ix i/\d.ix i<=1125899906842624)/\0<=fee.ix i/\fee.ix i<=1125899906842624)/\ll w y (LF gp gs gh A c)/\av.heap.size<=y.heap.size/\jL y gp 132 #[.slice A own.length c,.map (some gs),.map (some gh),.int .i64 (lost)]/\jO y 0 3 iv 1 A own.length c own/\kH y sw mK gs ls cs/\kH y Bg oK gh lh ck/\jL y Y 52 (lW d).toArray/\jL y I 52 (lW fee).toArray) (fun k=>2-k) 0 ?_ ?_ ?_
 ·exact .of rfl
 ·exact⟨Nat.zero_le _,fun i hi=>by omega,(((ll.refl w (LF gp gs gh A c)).le Q).le T),Nat.le_refl _,(au.le (Q.trans T)),(ah.le (Q.trans T)),(aQ.le (Q.trans T)),(aR.le (Q.trans T)),f3,aU⟩
 rintro k y ⟨hk,hall,U,aV,o,z,m,B,ab,ac⟩
 refine Sr (Wn 1 rfl (Nx (Sq ?_)))
 by_cases c0:((k:Nat):Int)<2
 ·refine Cy rfl (dT c0) (Sn (Sq (WC.block (Sr (Wn 1 rfl (Wa (.sU (v:= .int .i64 (d.ix k)) k underlying52 kz j5 rfl rfl rfl (by omega) (Bj d (by omega))) rfl (Wn 2 rfl (Nx (Sr (Wn 2 rfl (Wa (.Ht underlying3 rfl (hd k (by omega))) rfl (Wr (.max2 rfl rfl) rfl ?_))))))))))))
  refine W.cl Dm rfl rfl (qL (max (d.ix k) (Ht (d.ix k))) y) ?_
  rintro _ aW ⟨rfl,f⟩
  have L8:=U.le f
  refine Wn 1 rfl ?_
  by_cases aw:(nu (max (d.ix k) (Ht (d.ix k))))=true
  ·refine Wa (.dec (.move rfl) (congrArg not aw)) rfl (Wn 1 rfl (Wg (Any.rd (.j3 k underlying52 kz rfl rfl rfl (by omega)) _) rfl ?_))
   have f9:=(ac.le f)
   refine Wg (.jF (v:= .int .i64 (fee.ix k)) j5 rfl f9 (DF fee (by omega))) rfl (W.mY rfl rfl rfl rfl rfl rfl (Ef.call Dm rfl rfl (qL (fee.ix k) aW) ?_))
   rintro _ bK ⟨rfl,n⟩
   refine⟨_,rfl,?_⟩
   have ax:=L8.le n
   refine Wn 2 rfl (Nx ?_)
   by_cases c1:(nu (fee.ix k))=true
   ·refine Cn rfl (congrArg not c1) (WC.skip (E.jZ (E.jG (WC.region (Wa (.add rfl rfl (by omega)) rfl (Wn 1 rfl (W.nil (E.again (k+1) (.of rfl) ?_ ?_))))))))
    ·exact⟨by omega,fun i hi=>(Nat.lt_succ_iff_lt_or_eq.1 hi).elim (hall i) (fun hh=>by subst hh;exact⟨EN.1 (by assumption),j6.1 (by assumption)⟩),ax,by have:=aV;have:=f.size;have:=n.size;omega,(o.le (f.trans n)),(z.le (f.trans n)),(m.le (f.trans n)),(B.le (f.trans n)),(ab.le (f.trans n)),(f9.le n)⟩
    first|omega|(simp only[];omega)
   refine Cy rfl (congrArg not (Bool.eq_false_iff.2 c1)) (Sr (Wn 1 rfl (Nx (Rt (E.j4 (E.jH (E.jH (E.j4 (E.jH (E.jI rfl rfl ?_))))))))))
   exact⟨ax,.inl ⟨(fun h=>by have hh:=h k (by omega);first|(exact absurd (EN.2 hh.1) (by assumption))|(exact absurd (j6.2 hh.2) (by assumption))),rfl,⟨(o.le (f.trans n)),(z.le (f.trans n)),(m.le (f.trans n)),(B.le (f.trans n)),F,L,N,O,H,P⟩⟩⟩
  refine Wa (.dec (.move rfl) (congrArg not (Bool.eq_false_iff.2 aw))) rfl (Wn 6 rfl (Nx (WC.jS rfl (Sr (Wn 1 rfl (Nx (Rt (E.j4 (E.jH (E.jH (E.j4 (E.jH (E.jI rfl rfl ?_)))))))))))))
  exact⟨L8,.inl ⟨(fun h=>by have hh:=h k (by omega);first|(exact absurd (EN.2 hh.1) (by assumption))|(exact absurd (j6.2 hh.2) (by assumption))),rfl,⟨(o.le f),(z.le f),(m.le f),(B.le f),F,L,N,O,H,P⟩⟩⟩
 refine Cn rfl (dF c0) (WC.exit (E.jJ (E.jJ (E.ko (E.jG (Sr ?_))))))
 have hok:IY d fee:=fun i hi=>hall i (by omega)
 refine Wn 1 rfl (Wa (.nilCheck rfl) rfl (Wa (.jE mM rfl) rfl (Wr (.jF (v:= .map (some gs)) rR rfl o rfl) rfl (Wn 1 rfl ?_))))
 rcases optG (jW ch ls)with C|⟨b,C⟩
 ·refine Wr (.as (.mi (key:=ch) underlying129 oU z70 rfl rfl m) (by rw[C]<;>rfl)) rfl ?_
  refine Wn 1 rfl (Wa (.extract (v:= .agg (jT jM).toArray) rfl rfl) rfl (Wn 1 rfl (W.ef rfl rfl rfl (Ef.jR z70 fun aX aY aZ (a0:jL aY aX 70 (jT jM).toArray) Z=>?_))))
  have a1:=U.le Z
  refine W.kP rfl rfl (Ef.storeAll rQ (by rfl) rfl rfl a0 (by simp only[List.size_toArray,jQ.len]) (jQ.one jM) ?_)
  intro a2 bL aa
  have a3:ll w a2 (LF gp gs gh A c):=a1.ch aa (fun i hi hlt=>by cases hi;exact absurd hlt (by have:=U.size;have:=aZ;omega))
  refine Wn 1 rfl (Nx (Sq (Sr (Wn 2 rfl (Nx (WC.jS rfl (Sr (Wn 1 rfl (Nx (Rt (E.jH (E.jI rfl rfl ?_))))))))))))
  exact⟨a3,.inr (.inl ⟨hok,C,rfl,⟨((o.le Z).cn aa (by have:=o.lt;omega)),((z.le Z).cb aa (z.rn (by omega))),((m.le Z).cn aa (by have:=m.lt;omega)),((B.le Z).cn aa (by have:=B.lt;omega)),F,L,N,O,H,P⟩⟩)⟩
 obtain⟨bh,Mq⟩:=oQ C
 have hso:nN own.length b:=hs _ Mq
 refine Wr (.as (.mi (key:=ch) underlying129 oU z70 rfl rfl m) (by rw[C]<;>rfl)) rfl ?_
 refine Wn 1 rfl (Wa (.extract (v:= .agg (jT b).toArray) rfl rfl) rfl (Wn 1 rfl (W.ef rfl rfl rfl (Ef.jR z70 fun J a4 ay (a5:jL a4 J 70 (jT jM).toArray) R=>?_))))
 have a6:=U.le R
 refine W.kP rfl rfl (Ef.storeAll rQ (by rfl) rfl rfl a5 (by simp only[List.size_toArray,jQ.len]) (jQ.one b) ?_)
 intro ai aj S
 have aj:jL ai J 70 (jT b).toArray:=aj
 have a7:ll w ai (LF gp gs gh A c):=a6.ch S (fun i hi hlt=>by cases hi;exact absurd hlt (by have:=U.size;have:=ay;omega))
 refine Wn 1 rfl (Nx (Sq (Sr (Wn 2 rfl (Nx (WC.kF rfl (Sn (Sq (Sr ?_)))))))))
 have az:=((ab.le R).cn S (by have:=ab.lt;omega))
 refine Wr (.jK vY (by rfl) rfl az) rfl ?_
 refine Wn 1 rfl (Nx (WC.block ?_))
 have a8:=((o.le R).cn S (by have:=o.lt;omega))
 have a9:=((z.le R).cb S (z.rn (by omega)))
 have ba:=((m.le R).cn S (by have:=m.lt;omega))
 have bb:=((B.le R).cn S (by have:=B.lt;omega))
 have bc:=((ac.le R).cn S (by have:=ac.lt;omega))
 refine WC.loop (ι:=Nat) (fun k2=>[(0,.pointer (some ⟨gp,0,none⟩)),(1,.int .i64 ch),(6,.pointer (some ⟨Y,0,none⟩)),(7,.pointer (some ⟨I,0,none⟩)),(11,.pointer (some ⟨J,0,none⟩)),(47,.agg (lW d).toArray),(48,.int .i64 ((k2:Nat):Int))]) (fun k2 t=>(k2<=2)/\(∀i,i<k2->¬xH own b d fee i)/\ll w t (LF gp gs gh A c)/\ai.heap.size<=t.heap.size/\jL t gp 132 #[.slice A own.length c,.map (some gs),.map (some gh),.int .i64 (lost)]/\jO t 0 3 iv 1 A own.length c own/\kH t sw mK gs ls cs/\kH t Bg oK gh lh ck/\jL t Y 52 (lW d).toArray/\jL t I 52 (lW fee).toArray/\jL t J 70 (jT (o8 b d k2)).toArray) (fun k2=>2-k2) 0 ?_ ?_ ?_
 ·exact .of rfl
 ·exact⟨Nat.zero_le _,fun i hi=>by omega,a7,Nat.le_refl _,a8,a9,ba,bb,az,bc,aj⟩
 rintro k2 t ⟨bM,hno,aA,bd,ak,al,ad,ae,aB,aC,am⟩
 have aD:=hok k2
 have hse:=fun h=>(ku hso (k:=k2) h)
 refine Sr (Wn 1 rfl (Nx (Sq ?_)))
 by_cases c3:((k2:Nat):Int)<2
 ·refine Cy rfl (dT c3) (Sn (Sq (WC.block (Sr (Wn 1 rfl (Wa (.sU (v:= .int .i64 (d.ix k2)) k2 underlying52 kz j5 rfl rfl rfl (by omega) (Bj d (by omega))) rfl (Wn 2 rfl (Nx (Sr (Wn 1 rfl (Wa (.jE lZ rfl) rfl (Wa (.j3 k2 underlying52 kz rfl rfl rfl (by omega)) rfl ?_))))))))))))
  refine Wr (.jF (v:= .int .i64 ((o8 b d k2).h k2)) j5 rfl am (nG (o8 b d k2) (by omega))) rfl (Wn 1 rfl (Wa (.add rfl rfl (by rw[GY (by omega)];have:=hse (by omega);have:=aD (by omega);omega)) rfl ?_))
  refine Wa (.jE lZ rfl) rfl (Wa (.j3 k2 underlying52 kz rfl rfl rfl (by omega)) rfl (W.kP rfl rfl (Ef.store kz rfl rfl am (by simp[jQ.len,-List.getD_eq_getElem?_getD];omega) rfl ?_)))
  intro aE an l
  have an:jL aE J 70 (jT ((o8 b d k2).setH k2 (((o8 b d k2).h k2)+(d.ix k2)))).toArray:=an.cast (wu (o8 b d k2) (((o8 b d k2).h k2)+(d.ix k2)) (by omega))
  have be:ll w aE (LF gp gs gh A c):=aA.ch l (fun i hi hlt=>by cases hi;exact absurd hlt (by have:=U.size;have:=ay;omega))
  refine Nx (Sq (WC.draw [0,1,2,3,4,5,6,7,8,9,10,11,12,13,14,15,16,17,18,19,20,21,22] mixed (by kernel_rfl) fun bN j=>?_))
  have ao:=be.le j
  refine Gn 1 rfl (Ga rfl (.jE lZ rfl) (Ga rfl (.j3 k2 underlying52 kz rfl rfl rfl (by omega)) ?_))
  have ap:=(an.le j)
  refine Gd rfl (.jF (v:= .int .i64 (((o8 b d k2).setH k2 (((o8 b d k2).h k2)+(d.ix k2))).h k2)) j5 rfl ap (nG ((o8 b d k2).setH k2 (((o8 b d k2).h k2)+(d.ix k2))) (by omega))) (Gn 1 rfl ?_)
  by_cases aF:(((o8 b d k2).setH k2 (((o8 b d k2).h k2)+(d.ix k2))).h k2)<0
  ·refine Ga rfl (.dec (.move rfl) (dT aF)) (Gn 17 rfl (G.nil (E.jG (WC.jS rfl (Sr (Wn 1 rfl (Nx (Rt (E.j4 (E.jH (E.jH (E.j4 (E.jH ?_)))))))))))))
   have bf:=((al.cb l (z.rn (by omega))).le j)
   have bg:=((ak.cn l (by have:=o.lt;omega)).le j)
   have bi:=((ad.cn l (by have:=m.lt;omega)).le j)
   have bj:=((ae.cn l (by have:=B.lt;omega)).le j)
   refine E.jI rfl rfl ?_
   exact⟨ao,.inr (.inr ⟨hok,_,C,.inl ⟨⟨k2,by omega,(by unfold xH;simp only[GZ (show k2<2 by omega),GY (show k2<2 by omega),DX,vk]at*;omega)⟩,rfl,⟨bg,bf,bi,bj,F,L,N,O,H,P⟩⟩⟩)⟩
  refine Ga rfl (.dec (.move rfl) (dF aF)) (Gn 1 rfl (oJ rfl (.nilCheck rfl) (oJ rfl (.jE tV rfl) ?_)))
  have aq:=((ak.cn l (by have:=o.lt;omega)).le j)
  refine uw rfl (.jF (v:= .slice A own.length c) Hy rfl aq rfl) (Gn 1 rfl (oJ rfl (.jE tC rfl) (oJ rfl (.j3 k2 underlying52 kz rfl rfl rfl (by omega)) (uw rfl (.jF (v:= .int .i64 (((o8 b d k2).setH k2 (((o8 b d k2).h k2)+(d.ix k2))).p k2)) j5 rfl ap (JI ((o8 b d k2).setH k2 (((o8 b d k2).h k2)+(d.ix k2))) (by omega))) (oJ rfl (.lL ((b.p k2).toNat) underlying67 kz rfl rfl (ah.vec.isSome kr (by omega)) (by rw[DX,vk];have:=(hse (by omega)).1;omega) (by have:=(hse (by omega)).1;omega)) ?_)))))
  have ar:=((al.cb l (z.rn (by omega))).le j)
  refine uw rfl (.pg (v:= .int .i64 (own.getD ((b.p k2).toNat) 0)) j5 rfl ar.vec kr (lF own 0 (by omega)) rfl) (Gn 2 rfl (oJ rfl (.j3 k2 underlying52 kz rfl rfl rfl (by omega)) ?_))
  have aG:=((aC.cn l (by have:=ac.lt;omega)).le j)
  refine uw rfl (.jF (v:= .int .i64 (fee.ix k2)) j5 rfl aG (DF fee (by omega))) (oJ rfl (.add rfl rfl (by have:=aD (by omega);omega)) ?_)
  refine Gn 2 rfl (G.nil (E.jG ?_))
  by_cases c4:(own.getD ((b.p k2).toNat) 0)<((d.ix k2)+(fee.ix k2))
  ·refine Cy rfl (dT c4) (Sr (Wn 1 rfl (Nx (Rt (E.j4 (E.jH (E.jH (E.j4 (E.jH ?_)))))))))
   have bk:=((ad.cn l (by have:=m.lt;omega)).le j)
   have bl:=((ae.cn l (by have:=B.lt;omega)).le j)
   refine E.jI rfl rfl ?_
   exact⟨ao,.inr (.inr ⟨hok,_,C,.inl ⟨⟨k2,by omega,(by unfold xH;simp only[GZ (show k2<2 by omega),GY (show k2<2 by omega),DX,vk]at*;omega)⟩,rfl,⟨aq,ar,bk,bl,F,L,N,O,H,P⟩⟩⟩)⟩
  refine Cn rfl (dF c4) (WC.skip (E.jZ (E.jG (WC.region (Wa (.add rfl rfl (by omega)) rfl (Wn 1 rfl (W.nil ?_)))))))
  have bm:=((ad.cn l (by have:=m.lt;omega)).le j)
  have bn:=((ae.cn l (by have:=B.lt;omega)).le j)
  have bo:=((aB.cn l (by have:=ab.lt;omega)).le j)
  refine E.again (k2+1) (.of rfl) ?_ ?_
  ·exact⟨by omega,fun i hi=>(Nat.lt_succ_iff_lt_or_eq.1 hi).elim (hno i) (fun hh=>by subst hh;unfold xH;simp only[GZ (show i<2 by omega),GY (show i<2 by omega),DX,vk]at*;omega),ao,by have:=bd;have:=l.size;have:=j.size;omega,aq,ar,bm,bn,bo,aG,ap⟩
  first|omega|(simp only[];omega)
 refine Cn rfl (dF c3) (WC.exit (E.jJ (E.jJ (E.ko (E.jG (Sq (Sr (Wr (.jK vY (by rfl) rfl aB) rfl ?_))))))))
 refine Wn 1 rfl (Nx (WC.block ?_))
 refine WC.loop (ι:=Nat) (fun e=>[(0,.pointer (some ⟨gp,0,none⟩)),(1,.int .i64 ch),(7,.pointer (some ⟨I,0,none⟩)),(11,.pointer (some ⟨J,0,none⟩)),(84,.agg (lW d).toArray),(85,.int .i64 ((e:Nat):Int))]) (fun e D=>(e<=2)/\ll w D (LF gp gs gh A c)/\t.heap.size<=D.heap.size/\jL D gp 132 #[.slice A own.length c,.map (some gs),.map (some gh),.int .i64 (pK lost fee e)]/\jO D 0 3 iv 1 A own.length c (M5 own (o8 b d k2) d fee e)/\kH D sw mK gs ls cs/\kH D Bg oK gh lh ck/\jL D I 52 (lW fee).toArray/\jL D J 70 (jT (o8 b d k2)).toArray) (fun e=>2-e) 0 ?_ ?_ ?_
 ·exact .of rfl
 ·exact⟨Nat.zero_le _,aA,Nat.le_refl _,ak,al,ad,ae,aC,am⟩
 rintro e D ⟨bp,aH,bq,aI,aJ,aK,aL,bs,aM⟩
 have hfl:=IX (lost:=lost) (fee:=fee) bp hl (hok 0 (by omega)).2 (hok 1 (by omega)).2
 refine Sr (Wn 1 rfl (Nx (Sq ?_)))
 by_cases c5:((e:Nat):Int)<2
 ·refine Cy rfl (dT c5) (Sn (Sq (WC.block (Sr (Wn 1 rfl (Wa (.sU (v:= .int .i64 (d.ix e)) e underlying52 kz j5 rfl rfl rfl (by omega) (Bj d (by omega))) rfl (Wn 2 rfl (Nx (WC.draw [0,1,2,3,4,5,6,7] mixed (by kernel_rfl) fun bt K=>(Gn 1 rfl ?_))))))))))
  have aN:=(aM.le K)
  refine Gd rfl (.jK wW (by rfl) rfl aN) ?_
  refine Gn 3 rfl (Ga rfl (.j3 e underlying52 kz rfl rfl rfl (by omega)) ?_)
  have aO:=(bs.le K)
  refine Gd rfl (.jF (v:= .int .i64 (fee.ix e)) j5 rfl aO (DF fee (by omega))) (G.ef rfl rfl rfl rfl rfl (Ef.call Tq rfl rfl (DD (own:=(M5 own (o8 b d k2) d fee e)) (lost:=(pK lost fee e)) (o8 b d k2) e (d.ix e) (fee.ix e) bt (aI.le K) (aJ.le K) O (by omega) (by rw[vk];exact(ku hso (by omega)).1) (by have:=(hok e (by omega)).1;omega) ((hok e (by omega)).2) (by rw[Vd (by omega) (by rw[vk];exact hso.1.1) (by rw[vk];exact hso.2.1.1) (by rw[vk,vk];exact hso.2.2.1)];have:=hw ((o8 b d k2).p e).toNat;omega) (by omega)) ?_))
  rintro _ bO ⟨rfl,bu,bv,V⟩
  refine⟨_,rfl,?_⟩
  refine noT (by kernel_rfl) ?_
  have bw:=(aH.le K).sub V (fun i hi hlt=>Or.elim hi (fun hi=>(by subst hi;exact Or.inl rfl)) (fun hi=>((fun i hi=>Or.inr (Or.inr (Or.inr hi))) i hi)))
  refine G.nil (E.jZ (E.jG (WC.region (Wa (.add rfl rfl (by omega)) rfl (Wn 1 rfl (W.nil ?_))))))
  have bx:=(aO.kX V (fun hF=>Or.elim hF (fun hF=>(show I≠gp from by have:=au.lt;have:=Q.size;omega) hF) (fun hF=>(ah.rn (by have:=Q.size;omega)) hF)))
  have bz:=(aN.kX V (fun hF=>Or.elim hF (fun hF=>(show J≠gp from by have:=o.lt;omega) hF) (fun hF=>(z.rn (by omega)) hF)))
  refine E.again (e+1) (.of rfl) ?_ ?_
  ·exact⟨by omega,bw,by have:=bq;have:=K.size;have:=V.size;omega,bu,bv,((aK.le K).kX V (fun hF=>Or.elim hF (fun hF=>(Ne.symm F) hF) (fun hF=>H hF))),((aL.le K).kX V (fun hF=>Or.elim hF (fun hF=>(Ne.symm L) hF) (fun hF=>P hF))),bx,bz⟩
  first|omega|(simp only[];omega)
 refine Cn rfl (dF c5) (WC.exit (E.jJ (E.jJ (E.ko (E.jG (Sq (WC.draw [0,1,2,3,4,5,6] mixed (by kernel_rfl) fun bP X=>?_)))))))
 have bA:=aH.le X
 refine Gn 1 rfl (Ga rfl (.nilCheck rfl) (Ga rfl (.jE mM rfl) ?_))
 have aP:=(aI.le X)
 refine Gd rfl (.jF (v:= .map (some gs)) rR rfl aP rfl) (Gn 1 rfl (Gd rfl (.jK wW (by rfl) rfl (aM.le X)) ?_))
 refine G.kP rfl rfl rfl rfl (Ef.wQ (key:=ch) (u:=(o8 b d k2)) underlying129 oU rfl rfl rfl (aK.le X) x8 C fun bB bC af=>(noT (by kernel_rfl) ?_))
 have bD:ll w bB (LF gp gs gh A c):=bA.ch af (fun i hi _=>by cases hi;exact Or.inr (Or.inl rfl))
 refine G.nil (E.jG (Sr (Wn 1 rfl (Nx (Rt ?_)))))
 have bE:=((aJ.le X).ch af (fun q hq=>by cases hq;exact H))
 have bF:=(aP.ch af (fun h=>(Ne.symm F) (oI h)))
 have bG:=((aL.le X).ch af (fun h=>N (oI h)))
 refine E.jI rfl rfl ?_
 have bH:k2=2:=(by omega);subst bH;have ek:e=2:=(by omega);subst ek;exact⟨bD,.inr (.inr ⟨hok,_,C,.inr ⟨(fun i hi=>hno i (by omega)),rfl,⟨(by rw[Ar];exact bF),(by rw[Ar];exact bE),bC,bG,F,L,N,O,H,P⟩⟩⟩)⟩
end Go.Proofs.YtcaehidaejhdfaaGreat

namespace Go.Proofs.YtcaehidaejhdfaaGreat
open Tryz
open Go Go.Sx Go.Num
set_option maxRecDepth 20000
theorem abn (D a n out:Nat)(h:n%2=1):((out+a)%D+(a+a)%D*(n/2))%D=(out+a*n)%D:=by
  have e:a*n=a+(a+a)*(n/2):=by
    have b:n=2*(n/2)+1:=by omega
    conv=>lhs;rw[b]
    rw[Nat.mul_add,Nat.mul_one,<-Nat.mul_assoc,Nat.mul_two,Nat.add_comm]
  rw[e,<-Nat.add_assoc,Nat.add_mod,Nat.mod_mod,Nat.mul_mod,Nat.mod_mod,<-Nat.mul_mod,<-Nat.add_mod]
theorem abo (D a n out:Nat)(h:¬n%2=1):(out+(a+a)%D*(n/2))%D=(out+a*n)%D:=by
  have e:a*n=(a+a)*(n/2):=by
    have b:n=2*(n/2):=by omega
    conv=>lhs;rw[b]
    rw[<-Nat.mul_assoc,Nat.mul_two]
  rw[e,Nat.add_mod,Nat.mul_mod,Nat.mod_mod,<-Nat.mul_mod,<-Nat.add_mod]
theorem TJ (D a out:Nat)(h:out<D):(out+a*0)%D=out:=by rw[Nat.mul_zero,Nat.add_zero,Nat.mod_eq_of_lt h]
def qD (n b m:Nat):Nat:=(2^(8-m)*n+b/2^m)%2305843009213688668
theorem TK (n b m:Nat):qD n b m<2305843009213688668:=Nat.mod_lt _ (by decide)
theorem K3 (n b:Nat)(hn:n<2305843009213688668)(hb:b<256):n=qD n b 8:=by
  rw[qD,Nat.div_eq_of_lt (by simpa using hb),Nat.sub_self,Nat.pow_zero,Nat.one_mul,Nat.add_zero,Nat.mod_eq_of_lt hn]
theorem NU (n b m:Nat)(h1:0<m)(h8:m<=8):(2*qD n b m+b/2^(m-1)%2)%2305843009213688668=qD n b (m-1):=by
  have e1:2^(8-(m-1))=2*2^(8-m):=by rw[show 8-(m-1)=(8-m)+1 by omega,Nat.pow_succ,Nat.mul_comm]
  have e2:b/2^(m-1)=2*(b/2^m)+b/2^(m-1)%2:=by
    have:b/2^m=b/2^(m-1)/2:=by rw[Nat.div_div_eq_div_mul,<-Nat.pow_succ,show(m-1).succ=m by omega]
    rw[this];omega
  have e3:2^(8-(m-1))*n+b/2^(m-1)=2*(2^(8-m)*n+b/2^m)+b/2^(m-1)%2:=by
    rw[e1,Nat.mul_add,Nat.mul_assoc,Nat.add_assoc,<-e2]
  rw[qD,qD,e3,Nat.add_mod,Nat.mul_mod,Nat.mod_mod,<-Nat.mul_mod,<-Nat.add_mod]
theorem QN (n b:Nat):qD n b 0=(256*n+b)%2305843009213688668:=by rw[qD,Nat.pow_zero,Nat.div_one]






theorem Cu (a b:Nat)(ha:a<M)(hb:b<18446744073709551616)(w:World):Calls prog 162 #[.int .u64 ((a:Nat):Int),.int .u64 ((b:Nat):Int)] w fun e w'=>e= .returned (.int .u64 ((a*b%M:Nat):Int))/\Le w w':=by
 refine enter func162 rfl rfl (Sr (Wn 1 rfl (Nx (Sr (Wn 1 rfl (Nx (Sq (WC.block (WC.loop (ι:=Nat×Nat×Nat) (fun⟨x,y,out⟩=>[(0,.int .u64 ((x:Nat):Int)),(1,.int .u64 ((y:Nat):Int)),(5,.int .u64 ((out:Nat):Int))]) (fun⟨x,y,out⟩ wl=>Le w wl/\x<4611686018427377339/\y<18446744073709551616/\out<4611686018427377339/\(out+x*y)%4611686018427377339=a*b%4611686018427377339) (fun⟨x,y,out⟩=>y) (a,b,0) ?_ ?_ ?_)))))))))
 ·exact .of rfl
 ·exact⟨(Le.refl w),ha,hb,by decide,by rw[Nat.zero_add]⟩
 rintro⟨x,y,out⟩ wl ⟨Ll,hx,hy,ho,hi⟩
 refine Sq (Sr (Wn 2 rfl (Nx (WC.cond rfl (fun c=>?_) (fun c=>?_)))))
 ·refine Sn (WC.block (Sq (Sr (Wn 1 rfl (Wa (.FD y 2 (y%2) rfl rfl rfl rfl (by decide) rfl) rfl (Wn 1 rfl (Nx (WC.cond rfl (fun d=>?_) (fun d=>?_)))))))))
  ·refine WC.region (Wn 2 rfl (Wa (.addN out x (out+x) rfl rfl rfl rfl (Nat.mod_eq_of_lt (by omega))) rfl (Wa (.FD (out+x) 4611686018427377339 ((out+x)%4611686018427377339) rfl rfl rfl rfl (by decide) rfl) rfl (Wn 1 rfl (Nx (Sr (Wn 2 rfl (Wa (.addN x x (x+x) rfl rfl rfl rfl (Nat.mod_eq_of_lt (by omega))) rfl (Wa (.FD (x+x) 4611686018427377339 ((x+x)%4611686018427377339) rfl rfl rfl rfl (by decide) rfl) rfl ?_)))))))))
   refine Wn 1 rfl (Nx (WC.region (Wn 1 rfl (Wa (.Ko y 2 (y/2) rfl rfl rfl rfl (by omega) (by omega) rfl) rfl (Wn 1 rfl (W.nil (E.jZ (E.again ((x+x)%4611686018427377339,y/2,(out+x)%4611686018427377339) (.of rfl) ?_ ?_))))))))
   ·exact⟨Ll,Nat.mod_lt _ (by decide),by omega,Nat.mod_lt _ (by decide),by rw[abn _ x y out (by omega)];exact hi⟩
   first|omega|(simp only[];omega)
  refine Sn (Sr (Wn 2 rfl (Wa (.addN x x (x+x) rfl rfl rfl rfl (Nat.mod_eq_of_lt (by omega))) rfl (Wa (.FD (x+x) 4611686018427377339 ((x+x)%4611686018427377339) rfl rfl rfl rfl (by decide) rfl) rfl (Wn 1 rfl (Nx (WC.region (Wn 1 rfl (Wa (.Ko y 2 (y/2) rfl rfl rfl rfl (by omega) (by omega) rfl) rfl (Wn 1 rfl (W.nil (E.jZ ?_))))))))))))
  refine E.again ((x+x)%4611686018427377339,y/2,out) (.of rfl) ?_ ?_
  ·exact⟨Ll,Nat.mod_lt _ (by decide),by omega,ho,by rw[abo _ x y out (by omega)];exact hi⟩
  first|omega|(simp only[];omega)
 have f:y=0:=by omega
 subst f
 rw[TJ _ _ _ ho]at hi
 refine WC.exit (E.jJ (E.jJ (E.ko (E.jG (Sr (Wn 2 rfl (Nx (Rt (E.o9 rfl rfl ?_)))))))))
 exact⟨by rw[hi];rfl,Ll⟩

theorem Gt (a n:Nat)(ha:a<M)(hn:n<18446744073709551616)(w:World):Calls prog 134 #[.int .u64 ((a:Nat):Int),.int .u64 ((n:Nat):Int)] w fun e w'=>e= .returned (.int .u64 ((pw a n:Nat):Int))/\Le w w':=by
 refine enter func134 rfl rfl (Sr (Wn 1 rfl (Nx (Sr (Wn 1 rfl (Nx (Sq (WC.block (WC.loop (ι:=Nat×Nat×Nat) (fun⟨b,m,out⟩=>[(0,.int .u64 ((b:Nat):Int)),(1,.int .u64 ((m:Nat):Int)),(5,.int .u64 ((out:Nat):Int))]) (fun⟨b,m,out⟩ wl=>Le w wl/\b<M/\m<18446744073709551616/\out<M/\out*b^m%M=pw a n) (fun⟨b,m,out⟩=>m) (a,n,1) ?_ ?_ ?_)))))))))
 ·exact .of rfl
 ·exact⟨(Le.refl w),ha,hn,DJ,II a n hn⟩
 rintro⟨b,m,out⟩ wl ⟨Ll,hb,hm,ho,hi⟩
 refine Sq (Sr (Wn 2 rfl (Nx (WC.cond rfl (fun i=>?_) (fun i=>?_)))))
 ·have c:b<18446744073709551616:=Nat.lt_trans hb (by decide)
  refine Sn (WC.block (Sq (Sr (Wn 1 rfl (Wa (.FD m 2 (m%2) rfl rfl rfl rfl (by decide) rfl) rfl (Wn 1 rfl (Nx (WC.cond rfl (fun j=>?_) (fun j=>?_)))))))))
  ·refine WC.region (Wn 2 rfl (W.cl Qo rfl rfl (Cu out b ho c wl) ?_))
   rintro _ k ⟨rfl,l⟩
   have o:=Ll.trans l
   refine Wn 1 rfl (Nx (Sr (Wn 2 rfl (W.cl Qo rfl rfl (Cu b b hb c k) ?_))))
   rintro _ s ⟨rfl,d⟩
   have f:=o.trans d
   refine Wn 1 rfl (Nx (WC.region (Wn 1 rfl (Wa (.Ko m 2 (m/2) rfl rfl rfl rfl (by omega) (by omega) rfl) rfl (Wn 1 rfl (W.nil (E.jZ (E.again (b*b%M,m/2,out*b%M) (.of rfl) ?_ ?_))))))))
   ·exact⟨f,Nat.mod_lt _ (by decide),by omega,Nat.mod_lt _ (by decide),by rw[step1 b m out (by omega)];exact hi⟩
   first|omega|(simp only[];omega)
  refine Sn (Sr (Wn 2 rfl (W.cl Qo rfl rfl (Cu b b hb c wl) ?_)))
  rintro _ s ⟨rfl,d⟩
  have f:=Ll.trans d
  refine Wn 1 rfl (Nx (WC.region (Wn 1 rfl (Wa (.Ko m 2 (m/2) rfl rfl rfl rfl (by omega) (by omega) rfl) rfl (Wn 1 rfl (W.nil (E.jZ (E.again (b*b%M,m/2,out) (.of rfl) ?_ ?_))))))))
  ·exact⟨f,Nat.mod_lt _ (by decide),by omega,ho,by rw[step0 b m out (by omega)];exact hi⟩
  first|omega|(simp only[];omega)
 have t:m=0:=by omega
 subst t
 rw[OZ b out ho]at hi
 refine WC.exit (E.jJ (E.jJ (E.ko (E.jG (Sr (Wn 2 rfl (Nx (Rt (E.o9 rfl rfl ?_)))))))))
 exact⟨by rw[hi],Ll⟩

theorem EO (p:Nat)(hp:p<18446744073709551616)(w:World):Calls prog 103 #[.int .u64 ((p:Nat):Int)] w fun e w'=>e= .returned (.bool (right p))/\Le w w':=by
 refine enter func103 rfl rfl ?_
 have b:=Le.refl w
 refine Sr (Wn 1 rfl (Nx (Sr (Wn 1 rfl ?_))))
 by_cases d:0<p
 ·refine Wa (.dec (.geq rfl rfl) (dT (by omega))) rfl (Wn 2 rfl ?_)
  by_cases c:p<4611686018427377339
  ·refine Wg (Any.rd (.dec (.lss rfl rfl) (dT (by omega))) _) rfl (Wn 3 rfl (W.mY rfl rfl rfl rfl rfl rfl (Ef.call UT rfl rfl (Gt p 2305843009213688669 c (by decide) w) ?_)))
   rintro _ j ⟨rfl,f⟩
   refine⟨_,rfl,?_⟩
   have i:=b.trans f
   refine Wn 3 rfl (Nx (Rt (E.o9 rfl rfl ?_)))
   exact⟨by rw[right,dT d,dT (show p<M from c),Bool.true_and,Bool.true_and,<-Zc];rfl,i⟩
  refine Wg (Any.rd (.dec (.lss rfl rfl) (dF (by omega))) _) rfl (Wn 7 rfl (Nx (Rt (E.o9 rfl rfl ?_))))
  exact⟨by rw[right,dF (show¬p<M from c),Bool.and_false,Bool.false_and],b⟩
 refine Wa (.dec (.geq rfl rfl) (dF (by omega))) rfl (Wn 10 rfl (Nx (Rt (E.o9 rfl rfl ?_))))
 exact⟨by rw[right,dF d,Bool.false_and,Bool.false_and],b⟩

theorem NV (p:Nat)(hp:p<18446744073709551616)(w:World):Calls prog 135 #[.int .u64 ((p:Nat):Int)] w fun e w'=>e= .returned (.int .u64 ((taken p:Nat):Int))/\Le w w':=by
 refine enter func135 rfl rfl ?_
 have d:=Le.refl w
 refine Sr (Wn 1 rfl (Nx (Sq (Sr (Wn 1 rfl (W.cl UN rfl rfl (EO p hp w) ?_))))))
 rintro _ i ⟨rfl,f⟩
 have c:=d.trans f
 refine Nx (WC.xu rfl (fun b=>?_) (fun b=>?_))
 ·refine Sr (Wn 2 rfl (Nx (Rt (E.jH (E.o9 rfl rfl ?_)))))
  exact⟨by rw[taken,if_pos b],c⟩
 refine Sn (Sr (Wn 1 rfl (Nx (Rt (E.o9 rfl rfl ?_)))))
 exact⟨by rw[taken,if_neg (by rw[b];simp)];rfl,c⟩

theorem TL (p:Nat):taken p<M:=((tZ _).1 (uQ p)).2.1

theorem NW (p k:Nat)(hp:p<18446744073709551616)(w:World):Calls prog 99 #[.int .u64 ((p:Nat):Int),.int .u64 ((k:Nat):Int)] w fun e w'=>e= .returned (.int .u64 ((scale p k:Nat):Int))/\Le w w':=by
 refine enter func99 rfl rfl ?_
 have b:=Le.refl w
 refine Sr (Wn 1 rfl (Nx (Sr (Wn 1 rfl (W.cl YH rfl rfl (NV p hp w) ?_)))))
 rintro _ c ⟨rfl,d⟩
 have f:=b.trans d
 refine Wn 1 rfl (Wa (.FD k 2305843009213688669 (k%2305843009213688669) rfl rfl rfl rfl (by decide) rfl) rfl (W.cl UT rfl rfl (Gt (taken p) (k%2305843009213688669) (TL p) (by omega) c) ?_))
 rintro _ l ⟨rfl,i⟩
 have j:=f.trans i
 refine Wn 1 rfl (Nx (Rt (E.o9 rfl rfl ?_)))
 exact⟨rfl,j⟩

theorem x9 (k:Nat)(w:World):Calls prog 54 #[.int .u64 ((k:Nat):Int)] w fun e w'=>e= .returned (.int .u64 ((base k:Nat):Int))/\Le w w':=by
 refine enter func54 rfl rfl ?_
 have b:=Le.refl w
 refine Sr (Wn 1 rfl (Nx (Sr (Wn 1 rfl (W.cl abd rfl rfl (NW 4 k (by decide) w) ?_)))))
 rintro _ f ⟨rfl,c⟩
 have d:=b.trans c
 refine Wn 1 rfl (Nx (Rt (E.o9 rfl rfl ?_)))
 exact⟨rfl,d⟩

theorem QO (h:List (BitVec 8))(hh:h.length=32)(w:World):Calls prog 52 #[.agg (h.map lD).toArray] w fun e w'=>e= .returned (.int .u64 ((nZ h:Nat):Int))/\Le w w':=by
 refine enter func52 rfl rfl ?_
 have f:=Le.refl w
 refine Sr (W.ef rfl rfl rfl (Ef.mH rfl fun b c s i d=>?_))
 have t:=f.trans d
 refine Wn 1 rfl (Nx (Sr (Wn 1 rfl (Nx (Sq (Sr (Wn 1 rfl (Nx (WC.block (WC.loop (ι:=Nat) (fun k=>[(1,.pointer (some ⟨b,0,none⟩)),(3,.int .u64 ((nY 0 (h.take k):Nat):Int)),(4,.int .i64 (k:Int))]) (fun k wl=>k<=32/\Le c wl) (fun k=>32-k) 0 ?_ ?_ ?_))))))))))
 ·exact .of rfl
 ·exact⟨by omega,Le.refl _⟩
 rintro k wl ⟨hk,Ll⟩
 have hlt:nY 0 (h.take k)<2305843009213688668:=Cb _ 0 (by decide)
 refine Sq (Sr (Wn 2 rfl (Nx (WC.cond rfl (fun j=>?_) (fun j=>?_)))))
 ·have hb:h[k]? =some (h.getD k 0):=by rw[List.getElem?_eq_getElem (by omega),List.getD_eq_getElem?_getD,List.getElem?_eq_getElem (by omega)];rfl
  have hbl:=(h.getD k 0).isLt
  refine Sn (Sq (WC.block (Sr (Wn 1 rfl (Nx (WC.block (WC.loop (ι:=Nat) (fun m=>[(1,.pointer (some ⟨b,0,none⟩)),(3,.int .u64 ((qD (nY 0 (h.take k)) ((h.getD k 0).toNat) m:Nat):Int)),(4,.int .i64 (k:Int)),(5,.int .i64 ((m:Int)-1))]) (fun m wm=>m<=8/\Le c wm) (fun m=>m) 8 ?_ ?_ ?_)))))))
  ·exact .cons rfl (.cons' rfl (int_eq (congrArg Nat.cast (K3 _ _ hlt hbl))) (.of rfl))
  ·exact⟨by omega,Ll⟩
  rintro m wm ⟨hm,Lm⟩
  have hbt:=TK (nY 0 (h.take k)) ((h.getD k 0).toNat) m
  refine Sq (Sr (Wn 2 rfl (Nx (WC.cond rfl (fun l=>?_) (fun l=>?_)))))
  ·have u:0<m:=by omega
   have v:(h.getD k 0).toNat/2^(m-1)%2<2:=Nat.mod_lt _ (by decide)
   have x:(h.getD k 0).toNat/2^(m-1)<=(h.getD k 0).toNat:=Nat.div_le_self _ _
   refine Sn (Sq (WC.block (Sr (Wn 1 rfl (Wa (.l5 k underlying23 vJ rfl rfl rfl (by omega)) rfl (Wr (.jF IB rfl (i.le Lm) (Ja h (by omega))) rfl (Wr (.Vj (y5 underlying5) underlying38 rfl) rfl (Wn 1 rfl (Wr (.vv (y5 underlying3) underlying187 rfl (IntWalk.u64_in _ (by omega))) rfl ?_)))))))))
   refine Wa (.zn ((h.getD k 0).toNat) (m-1) ((h.getD k 0).toNat/2^(m-1)) rfl rfl rfl (by omega) (by show m-1<=64;omega) rfl) rfl ?_
   refine Wa (.Kq ((h.getD k 0).toNat/2^(m-1)) 1 ((h.getD k 0).toNat/2^(m-1)%2) rfl rfl rfl rfl (by omega) (by omega) (Uw _)) rfl (Wn 1 rfl (Nx (WC.region (Wn 1 rfl (Wa (.mulN 2 (qD (nY 0 (h.take k)) ((h.getD k 0).toNat) m) (2*qD (nY 0 (h.take k)) ((h.getD k 0).toNat) m) rfl rfl rfl rfl (by omega)) rfl (Wn 1 rfl (Wa (.addN (2*qD (nY 0 (h.take k)) ((h.getD k 0).toNat) m) ((h.getD k 0).toNat/2^(m-1)%2) (2*qD (nY 0 (h.take k)) ((h.getD k 0).toNat) m+(h.getD k 0).toNat/2^(m-1)%2) rfl rfl rfl rfl (by omega)) rfl ?_)))))))
   refine Wa (.FD (2*qD (nY 0 (h.take k)) ((h.getD k 0).toNat) m+(h.getD k 0).toNat/2^(m-1)%2) 2305843009213688668 ((2*qD (nY 0 (h.take k)) ((h.getD k 0).toNat) m+(h.getD k 0).toNat/2^(m-1)%2)%2305843009213688668) rfl rfl rfl rfl (by decide) rfl) rfl (Wn 1 rfl (W.nil (E.jZ (E.jG (WC.region (Wn 1 rfl (Wa (.sub rfl rfl (by omega)) rfl (Wn 1 rfl (W.nil (E.again (m-1) (.cons rfl (.cons' rfl (int_eq (congrArg Nat.cast (NU _ _ m (by omega) hm))) (.cons rfl (.cons' rfl (int_eq (by omega)) (.nil _))))) ?_ ?_))))))))))
   ·exact⟨by omega,Lm⟩
   first|omega|(simp only[];omega)
  have n:m=0:=by omega
  subst n
  refine WC.exit (E.jJ (E.jJ (E.ko (E.jZ (E.jG (WC.region (Wn 1 rfl (Wa (.add rfl rfl (by omega)) rfl (Wn 1 rfl (W.nil (E.again (k+1) (.cons rfl (.cons' rfl (int_eq (congrArg Nat.cast (by rw[IP h k 0 _ hb,QN];rfl))) (.cons rfl (.nil _)))) ?_ ?_)))))))))))
  ·exact⟨by omega,Lm⟩
  first|omega|(simp only[];omega)
 have o:k=32:=by omega
 subst o
 refine WC.exit (E.jJ (E.jJ (E.ko (E.jG (Sr (Wn 1 rfl (Wa (.addN (nY 0 (h.take 32)) 1 (nY 0 (h.take 32)+1) rfl rfl rfl rfl (Nat.mod_eq_of_lt (by omega))) rfl (Wn 1 rfl (Nx (Rt (E.o9 rfl rfl ?_)))))))))))
 exact⟨by rw[nZ,List.take_of_length_le (by omega)],d.trans Ll⟩
end Go.Proofs.YtcaehidaejhdfaaGreat

namespace Go.Proofs.YtcaehidaejhdfaaGreat
open Tryz
open Go Go.Sx Go.wI Go.Num Go.Ac
set_option maxRecDepth 20000
theorem qm (ps:List (List Byte))(k:Nat)(q:List Byte)(h:ps[k]? =some q):(ps.take (k+1)).flatten=(ps.take k).flatten++q:=by
  rw[List.take_add_one,h];simp
theorem qM:∀(ps:List (List Byte)) (k:Nat),(ps.take k).flatten.length<=ps.flatten.length
  |[],k=>by simp
  |p::ps,0=>by simp
  |p::ps,k+1=>by
    have:=qM ps k
    simp only[List.take_succ_cons,List.flatten_cons,List.length_append];omega
theorem TM (m:Nat)(h0:0<m)(hm:m<=1000000)(w:World):Calls prog 163 #[.slice none 0 0,.int .i64 (m:Int)] w fun e w'=>∃A c,e= .returned (.slice A 0 c)/\Own w' w.heap.size 5 1 A 0 c []/\Le w w':=by
 refine enter func163 rfl rfl ?_
 have b:=Le.refl w
 refine Sr (Wn 1 rfl (Nx (Sq (Sr (Wn 2 rfl (Nx (WC.xu rfl (fun h=>absurd h (by simp)) (fun _=>?_))))))))
 refine Sn (Sq (Sr (Wn 2 rfl (Wr (.cap underlying122 rfl rfl) rfl (Wn 1 rfl (Wr (.len underlying122 rfl) rfl (Wa (.sub rfl rfl (by omega)) rfl (Wa (.sub rfl rfl (by omega)) rfl ?_))))))))
 refine Wn 1 rfl (Nx (Sr (Wn 2 rfl (Nx (WC.xu rfl (fun _=>?_) (fun h=>absurd h (by simp;omega)))))))
 refine WC.region (Wn 2 rfl (Wr (.cap underlying122 rfl rfl) rfl (Wa (.Fz 0 underlying122 vJ rfl rfl rfl (by decide)) rfl (Wn 1 rfl (W.ef rfl rfl rfl (Ef.SC m underlying122 underlying3 wV rfl rfl (Own.nil _ _ _ _ _) rfl (by omega) h0 (by omega) (by unfold maxLen;omega) (Nat.le_refl _) ?_))))))
 intro d f i j k n
 have l:Le w i:=b.kI k (fun q hq=>by simp[lC]at hq)
 refine Wn 1 rfl (Wr (.len underlying122 rfl) rfl (Wa (.Fz 0 underlying122 vJ rfl rfl rfl (Nat.zero_le _)) rfl (Wn 1 rfl (Nx (Sr (Wn 2 rfl (Nx (Rt (E.o9 rfl rfl ?_)))))))))
 exact⟨d,f,rfl,(j.front 0 (Nat.zero_le _)).cast rfl (by simp),l⟩

theorem Gu {A:Option Addr}{n c:Nat}{vs:List Value}{ps:List (List Byte)}(w:World)(hV:Sl w 1 A n vs)(hP:Parts w vs ps)(h0:0<ps.flatten.length)(hT:ps.flatten.length<=1000000)(hn:n<=1000):Calls prog 143 #[.slice A n c] w fun e w'=>∃A' c',e= .returned (.slice A' ps.flatten.length c')/\Own w' w.heap.size 5 1 A' ps.flatten.length c' (ps.flatten.map lD)/\Le w w':=by
 have hvl:=hV.1
 rw[Nat.mul_one]at hvl
 have hpl:=hP.1
 have hgr:∀w,Calls prog 163 #[.slice none 0 0,.int .i64 (((ps.take n).flatten.length:Nat):Int)] w fun e w'=>∃A c,e= .returned (.slice A 0 c)/\Own w' w.heap.size 5 1 A 0 c []/\Le w w':=fun w=>by
  rw[List.take_of_length_le (by omega)]
  exact TM _ h0 hT w
 refine enter func143 rfl rfl (Sr (Wn 1 rfl (Nx (Sr (Wn 1 rfl (Nx (Sq (Sr (Wn 1 rfl (Wr (.len underlying210 rfl) rfl (Wn 1 rfl (Nx (WC.block (WC.loop (ι:=Nat) (fun k=>[(0,.slice A n c),(3,.int .i64 (((ps.take k).flatten.length:Nat):Int)),(9,.slice A n c),(10,.int .i64 (n:Int)),(11,.int .i64 (k:Int))]) (fun k wl=>k<=n/\Le w wl) (fun k=>n-k) 0 ?_ ?_ ?_))))))))))))))
 ·exact .of rfl
 ·exact⟨Nat.zero_le _,(Le.refl w)⟩
 rintro k wl ⟨hk,Ll⟩
 have hle:=qM ps k
 refine Sr (Wn 1 rfl (Nx (Sq (WC.cond rfl (fun m=>?_) (fun m=>?_)))))
 ·obtain⟨q,hq⟩:∃q,ps[k]? =some q:=⟨_,List.getElem?_eq_getElem (by omega)⟩
  obtain⟨v,hv⟩:∃v,vs[k]? =some v:=⟨_,List.getElem?_eq_getElem (by omega)⟩
  obtain⟨Aq,cq,rfl,l⟩:=hP.2 k v q hv hq
  have f:=qM ps (k+1)
  rw[qm ps k q hq,List.length_append]at f
  refine Sn (Sq (WC.block (Sr (Wa (.lK k underlying210 ze rfl rfl (hV.isSome (j:=k) (by omega) (by decide)) rfl (by omega)) rfl (Wr (.lG wh rfl (hV.le Ll) hv) rfl (Wn 1 rfl (Nx (Sr (Wn 2 rfl (Wr (.len underlying122 rfl) rfl (Wa (.add rfl rfl (by omega)) rfl ?_)))))))))))
  refine Wn 1 rfl (Nx (Sr (Wn 2 rfl (Nx (WC.xu rfl (fun h=>absurd h (by simp;omega)) (fun _=>?_))))))
  refine WC.skip (E.jZ (E.jG (WC.region (Wa (.add rfl rfl (by omega)) rfl (Wn 1 rfl (W.nil (E.again (k+1) (.cons rfl (.cons' rfl (int_eq (by rw[qm ps k q hq,List.length_append,Int.natCast_add])) (.of rfl))) ?_ ?_)))))))
  ·exact⟨by omega,Ll⟩
  first|omega|(simp only[];omega)
 have hkn:n=k:=by omega
 subst hkn
 rw[List.take_of_length_le (by omega)]at hle
 refine WC.exit (E.jJ (E.jJ (E.ko (E.jG (Sr (Wn 1 rfl (W.cl YS rfl rfl (hgr wl) ?_)))))))
 rintro _ H ⟨o,s,rfl,i,t⟩
 have u:=Ll.trans t
 have i:=i.mono Ll.size
 refine Wn 1 rfl (Nx (Sq (Sr (Wn 1 rfl (Wr (.len underlying210 rfl) rfl (Wn 1 rfl (Nx (WC.block (WC.loop (ι:=Nat×Option Addr×Nat) (fun⟨k,b,d⟩=>[(6,.slice b ((ps.take k).flatten.length) d),(25,.slice A n c),(26,.int .i64 (n:Int)),(27,.int .i64 (k:Int))]) (fun⟨k,b,d⟩ wm=>k<=n/\Le w wm/\Own wm w.heap.size 5 1 b ((ps.take k).flatten.length) d ((ps.take k).flatten.map lD)) (fun⟨k,b,d⟩=>n-k) (0,o,s) ?_ ?_ ?_)))))))))
 ·exact .of rfl
 ·exact⟨Nat.zero_le _,u,i⟩
 rintro⟨k,b,d⟩ wm ⟨hk,Lm,om⟩
 refine Sr (Wn 1 rfl (Nx (Sq (WC.cond rfl (fun x=>?_) (fun x=>?_)))))
 ·obtain⟨q,hq⟩:∃q,ps[k]? =some q:=⟨_,List.getElem?_eq_getElem (by omega)⟩
  obtain⟨v,hv⟩:∃v,vs[k]? =some v:=⟨_,List.getElem?_eq_getElem (by omega)⟩
  obtain⟨Aq,cq,rfl,l⟩:=hP.2 k v q hv hq
  have f:=qM ps (k+1)
  rw[qm ps k q hq,List.length_append]at f
  refine Sn (Sq (WC.block (Sr (Wa (.lK k underlying210 ze rfl rfl (hV.isSome (j:=k) (by omega) (by decide)) rfl (by omega)) rfl (Wr (.lG wh rfl (hV.le Lm) hv) rfl (Wn 1 rfl (Nx (WC.region (Wn 2 rfl (W.ef rfl rfl rfl (Ef.append underlying122 wV rfl om rfl ((l.le Lm).src underlying122 _) (by omega) (by unfold maxLen;omega) Lm.size ?_)))))))))))
  intro y z B C D I
  have F:Le w B:=Lm.kI D (fun q hq=>(om.row hq).1)
  refine Wn 1 rfl (W.nil (E.jZ (E.jG (WC.region (Wa (.add rfl rfl (by omega)) rfl (Wn 1 rfl (W.nil (E.again (k+1,y,z) (.cons' rfl (pM (by rw[qm ps k q hq,List.length_append])) (.of rfl)) ?_ ?_))))))))
  ·exact⟨by omega,F,C.cast (by rw[qm ps k q hq,List.length_append]) (by rw[qm ps k q hq,List.map_append])⟩
  first|omega|(simp only[];omega)
 have hkn:n=k:=by omega
 subst hkn
 rw[List.take_of_length_le (by omega)]at om
 refine WC.exit (E.jJ (E.jJ (E.ko (E.jG (Sr (Wn 2 rfl (Nx (Rt (E.o9 rfl rfl ?_)))))))))
 exact⟨b,d,by rw[List.take_of_length_le (by omega)],om,Lm⟩




end Go.Proofs.YtcaehidaejhdfaaGreat

namespace Go.Proofs.YtcaehidaejhdfaaGreat
open Go Go.Sx Go.wI Go.Num Go.Ac Go.rZ Go.Dk
set_option maxRecDepth 20000
def JL (s:Dk.Uu):List Value:=[.int .u64 (s.r:Nat),.int .u64 (s.s:Nat)]
theorem EP:oz JL 2:=⟨fun _=>rfl,fun x v hv=>by simp[JL]at hv;rcases hv with rfl|rfl<;>rfl,by decide⟩
end Go.Proofs.YtcaehidaejhdfaaGreat

namespace Go.Proofs.YtcaehidaejhdfaaGreat
open Tryz
open Go Go.Sx Go.wI Go.Num Go.Ac Go.rZ Go.Dk
set_option maxRecDepth 20000
theorem JM (xs:List (BitVec 8))(b:BitVec 8):xs.length+1=(xs++[b]).length:=by simp
theorem ER (n:Nat):0<(mG n).length:=by rw[mG];split<;>simp
theorem QP {n:Nat}(h:n<128):mG n=[BitVec.ofNat 8 n]:=by rw[mG,dif_pos h]
theorem NY {n:Nat}(h:¬n<128):mG n=BitVec.ofNat 8 (n%128+128)::mG (n/128):=by rw[mG,dif_neg h]
theorem Ic {A B:Option Addr}{n m c d:Nat}{xs ys:List (BitVec 8)}(w:World)(hV:Vec w kL 1 A n xs)(hn:n<=100000)(hU:Vec w kL 1 B m ys)(hm:m<=100000)(h0:0<m):Calls prog 125 #[.slice A n c,.slice B m d] w fun r w'=>∃A' c',r= .returned (.slice A' (xs++ys).length c')/\jO w' w.heap.size 5 kL 1 A' (xs++ys).length c' (xs++ys)/\Le w w':=by
 have hl:=hV.1
 have t:=hU.1
 refine enter func125 rfl rfl (Sr (Wn 1 rfl (Nx (Sr (Wn 2 rfl (W.ef rfl rfl rfl (Ef.pO [_,_] underlying210 JB rfl (by intro v hv;simp at hv;rcases hv with rfl|rfl<;>rfl) rfl (by decide) (by decide) ?_)))))))
 intro i f u e j
 have b:=(Le.refl w).trans j
 have e:jL f i 122 #[.slice A n c,.slice B m d]:=e
 refine W.cl UY rfl rfl (Gu f (e.sl (s:=1) (n:=2) rfl) (.cons (tN (hV.le b)) (.cons (tN (hU.le b)) (.nil _))) (by simp;omega) (by simp;omega) (by decide)) ?_
 rintro _ x ⟨y,z,rfl,k,l⟩
 have o:=Cf k
 refine Wn 1 rfl (Nx (Rt (E.jI rfl rfl ?_)))
 exact⟨_,_,by simp only[List.flatten_cons,List.flatten_nil,List.append_nil],(o.mono b.size).cast (by simp) (by simp),(b.trans l)⟩

theorem QQ (n:Nat)(hn:n<=9223372036854775807)(w:World):Calls prog 126 #[.int .i64 ((n:Nat):Int)] w fun r w'=>∃A' c',r= .returned (.slice A' (mG n).length c')/\jO w' w.heap.size 5 kL 1 A' (mG n).length c' (mG n)/\Le w w':=by
 have hrl:=lI n (by omega)
 refine enter func126 rfl rfl ?_
 have c:=Le.refl w
 refine Sr (Wn 1 rfl (Nx (Sr (Wn 1 rfl (Nx (Sq (WC.block (WC.loop (ι:=Nat×(List (BitVec 8))×(Option Addr)×Nat) (fun⟨a,xs,Aa,ca⟩=>[(0,.int .i64 ((a:Nat):Int)),(3,.slice Aa xs.length ca)]) (fun⟨a,xs,Aa,ca⟩ b=>(a<=n)/\(xs++mG a=mG n)/\Le w b/\w.heap.size<=b.heap.size/\jO b w.heap.size 5 kL 1 Aa xs.length ca xs) (fun⟨a,xs,Aa,ca⟩=>a) (n,[],none,0) ?_ ?_ ?_))))))))
 ·exact .of rfl
 ·exact⟨Nat.le_refl _,rfl,c,Nat.le_refl _,(jO.nil w w.heap.size 5 kL 1 none)⟩
 rintro⟨a,xs,Aa,ca⟩ b ⟨ha,hx,j,z,k⟩
 have l:w.heap.size<=b.heap.size:=by omega
 have hxl:xs.length+(mG a).length=(mG n).length:=by rw[<-hx,List.length_append]
 have hrp:=ER a
 refine Sq (Sr (Wn 2 rfl (Nx ?_)))
 by_cases m:128<=((a:Nat):Int)
 ·refine Cy rfl (dT m) (Sn (Sq (WC.block (WC.region (Wn 2 rfl (Wa (.rem rfl rfl (by omega)) rfl (Wa (.add rfl rfl (by omega)) rfl (Wr (.toU8 ((a%128)+128) (y5 underlying3) underlying5 rfl (by omega)) rfl (W.ef rfl rfl rfl ?_)))))))))
  refine Ef.jX (len:=1) [_] underlying122 wV rfl (by simp[Value.cells,lD]) rfl (by decide) (by decide) ?_
  intro o s A d e
  have d:jL s o 5 (([BitVec.ofNat 8 ((a%128)+128)]).map kL).flatten.toArray:=d
  have J:jO s b.heap.size 5 kL 1 (some ⟨o,0,none⟩) 1 1 ([BitVec.ofNat 8 ((a%128)+128)]):=d.pQ A kY rfl rfl (by decide)
  have t:=(k.le e)
  refine W.ef rfl rfl rfl (Ef.xw (a:=(BitVec.ofNat 8 ((a%128)+128))) underlying122 wV underlying122 kY rfl t rfl d (by omega) (by unfold maxLen;omega) (by have:=l;have:=e.size;omega) ?_)
  intro B C K D u L
  refine Wn 1 rfl (W.nil (E.jZ (E.jG (WC.region (Wn 1 rfl (Wa (.quo rfl rfl (by omega)) rfl (Wn 1 rfl (W.nil (E.again (a/128,(xs++[BitVec.ofNat 8 (a%128+128)]),B,C) (.cons' rfl (int_eq (by omega)) (.cons' rfl (pM (JM xs (BitVec.ofNat 8 (a%128+128)))) (.nil _))) ?_ ?_)))))))))
  ·exact⟨by omega,by rw[<-hx,NY (n:=a) (by omega)];simp,((j.trans e).kI u (fun q hq=>Nat.le_trans c.size (t.row hq).1)),by have:=z;have:=e.size;have:=u.size;omega,(D.cast (JM xs (BitVec.ofNat 8 (a%128+128))) rfl)⟩
  first|omega|(simp only[];omega)
 refine Cn rfl (dF m) (WC.exit (E.jJ (E.jJ (E.ko (E.jG (Sr (Wn 2 rfl (Wr (.toU8 a (y5 underlying3) underlying5 rfl rfl) rfl (W.ef rfl rfl rfl (Ef.jX (len:=1) [_] underlying122 wV rfl (by simp[Value.cells,lD]) rfl (by decide) (by decide) ?_))))))))))
 intro v x F f i
 have f:jL x v 5 (([BitVec.ofNat 8 a]).map kL).flatten.toArray:=f
 have N:jO x b.heap.size 5 kL 1 (some ⟨v,0,none⟩) 1 1 ([BitVec.ofNat 8 a]):=f.pQ F kY rfl rfl (by decide)
 have y:=(k.le i)
 refine W.ef rfl rfl rfl (Ef.xw (a:=(BitVec.ofNat 8 a)) underlying122 wV underlying122 kY rfl y rfl f (by omega) (by unfold maxLen;omega) (by have:=l;have:=i.size;omega) ?_)
 intro O P Q H I R
 refine Wn 1 rfl (Nx (Rt (E.jI rfl rfl ?_)))
 have hend:xs++[BitVec.ofNat 8 a]=mG n:=by rw[<-hx,QP (n:=a) (by omega)]
 exact⟨_,_,by rw[<-hend,List.length_append];rfl,(H.mono c.size).cast (by rw[<-hend,List.length_append];rfl) hend,((j.trans i).kI I (fun q hq=>Nat.le_trans c.size (y.row hq).1))⟩

theorem uG (i:Nat)(hi:i<=9223372036854775807){A:Option Addr}{n c:Nat}{xs:List (BitVec 8)}(w:World)(hV:Vec w kL 1 A n xs)(hn:n<=100000):Calls prog 87 #[.slice A n c,.int .i64 ((i:Nat):Int)] w fun r w'=>∃A' c',r= .returned (.slice A' (xs++mG i).length c')/\jO w' w.heap.size 5 kL 1 A' (xs++mG i).length c' (xs++mG i)/\Le w w':=by
 have hl:=hV.1
 refine enter func87 rfl rfl (Sr (Wn 1 rfl (Nx (Sq (Sr (Wn 2 rfl (Nx (Cn rfl (dF (by omega)) (Sn (Sr (Wn 2 rfl (W.cl UQ rfl rfl (QQ i (by omega) w) ?_))))))))))))
 rintro _ d ⟨l,m,rfl,e,f⟩
 have b:=(Le.refl w).trans f
 have o:=lI i (by omega)
 have s:=ER i
 refine W.cl Ql rfl rfl (Ic d (hV.le b) (by omega) e.vec (by omega) (by omega)) ?_
 rintro _ t ⟨u,v,rfl,j,k⟩
 refine Wn 1 rfl (Nx (Rt (E.jI rfl rfl ?_)))
 exact⟨_,_,rfl,(j.mono b.size),(b.trans k)⟩
end Go.Proofs.YtcaehidaejhdfaaGreat

namespace Go.Proofs.YtcaehidaejhdfaaGreat
open Tryz
open Go Go.Sx Go.wI Go.Num Go.Ac Go.rZ Go.Dk
set_option maxRecDepth 20000
theorem Mt {w:World}{g t n:Nat}{xs:List (BitVec 8)}(h:jL w g t (xs.map lD).toArray)(hl:xs.length=n):Vec w kL 1 (some ⟨g,0,none⟩) n xs:=⟨hl,by
  rw[vU]
  have:=h.sl (s:=1) (n:=n) (by simp[hl])
  simpa using this⟩
theorem Ie {A:Option Addr}{n c:Nat}{xs:List (BitVec 8)}(m:Nat)(w:World)(hV:Vec w kL 1 A n xs)(hn:n<=100000):Calls prog 88 #[.slice A n c,.int .u64 ((m:Nat):Int)] w fun r w'=>∃A' c' ys,ys.length=8/\r= .returned (.slice A' (xs++ys).length c')/\jO w' w.heap.size 5 kL 1 A' (xs++ys).length c' (xs++ys)/\Le w w':=by
 have hl:=hV.1
 refine enter func88 rfl rfl ?_
 have j:=Le.refl w
 refine Sr (Wn 1 rfl (Nx (Sr (W.ef rfl rfl rfl (Ef.jR z206 fun d l v f x=>?_)))))
 have f:jL l d 206 ((List.replicate 8 0#8).map lD).toArray:=f.cast rfl
 refine Nx (Sq (Sr (Wn 1 rfl (Nx (WC.block (WC.loop (ι:=Nat×(List (BitVec 8))) (fun⟨k,bs⟩=>[(0,.slice A n c),(1,.int .u64 ((m:Nat):Int)),(5,.pointer (some ⟨d,0,none⟩)),(7,.int .i64 ((k:Nat):Int))]) (fun⟨k,bs⟩ b=>(k<=8)/\(bs.length=8)/\Le w b/\l.heap.size<=b.heap.size/\jL b d 206 (bs.map lD).toArray) (fun⟨k,bs⟩=>8-k) (0,(List.replicate 8 0#8)) ?_ ?_ ?_))))))
 ·exact .of rfl
 ·exact⟨by omega,rfl,(j.trans x),Nat.le_refl _,f⟩
 rintro⟨k,bs⟩ b ⟨hk,o,e,y,s⟩
 refine Sr (Wn 1 rfl (Nx (Sq ?_)))
 by_cases t:((k:Nat):Int)<8
 ·refine Cy rfl (dT t) (Sn (Sq (WC.block (Sr (Wn 2 rfl (Nx (WC.region (Wn 3 rfl (Wa (.mul rfl rfl (by omega)) rfl (Wa (.sub rfl rfl (by omega)) rfl (Wa (.Ph m (56-8*k) rfl rfl rfl (by omega) (by show 56-8*k<=64;omega)) rfl ?_)))))))))))
  refine Wr (.toU8 (m>>>(56-8*k)) (y5 underlying38) underlying5 rfl rfl) rfl (Wa (.l5 k underlying206 vJ rfl rfl rfl (by omega)) rfl (W.kP rfl rfl (Ef.store vJ rfl rfl s (by simp only[List.size_toArray,List.length_map,List.length_set];omega) rfl ?_)))
  intro z i u
  have i:jL z d 206 ((bs.set k (BitVec.ofNat 8 (m>>>(56-8*k)))).map lD).toArray:=Z8 i
  refine W.nil (E.jZ (E.jG (WC.region (Wa (.add rfl rfl (by omega)) rfl (Wn 1 rfl (W.nil (E.again (k+1,(bs.set k (BitVec.ofNat 8 (m>>>(56-8*k))))) (.of rfl) ?_ ?_)))))))
  ·exact⟨by omega,(by rw[List.length_set];exact o),(e.tb u j v),by have:=y;have:=u.size;omega,i⟩
  first|omega|(simp only[];omega)
 refine Cn rfl (dF t) (WC.exit (E.jJ (E.jJ (E.ko (E.jG (Sr (Wn 1 rfl (Wa (.Km underlying206 vJ rfl) rfl (W.cl Ql rfl rfl (Ic b (hV.le e) (by omega) (Mt s (by omega)) (by omega) (by omega)) ?_)))))))))
 rintro _ D ⟨F,H,rfl,B,C⟩
 refine Wn 1 rfl (Nx (Rt (E.jI rfl rfl ?_)))
 exact⟨_,_,bs,o,rfl,(B.mono e.size),(e.trans C)⟩

theorem TN {A:Option Addr}{n c:Nat}{xs:List (BitVec 8)}(m:List (BitVec 8))(hm:m.length=32)(w:World)(hV:Vec w kL 1 A n xs)(hn:n<=100000):Calls prog 123 #[.slice A n c,.agg (m.map lD).toArray] w fun r w'=>∃A' c',r= .returned (.slice A' (xs++m).length c')/\jO w' w.heap.size 5 kL 1 A' (xs++m).length c' (xs++m)/\Le w w':=by
 have hl:=hV.1
 refine enter func123 rfl rfl (Sr (W.ef rfl rfl rfl (Ef.mH rfl fun e d l (f:jL d e 23 (m.map lD).toArray) i=>?_)))
 have b:=(Le.refl w).trans i
 refine Wn 1 rfl (Nx (Sr (Wn 1 rfl (Wa (.Km underlying23 vJ rfl) rfl (W.cl Ql rfl rfl (Ic d (hV.le b) (by omega) (Mt f hm) (by omega) (by omega)) ?_)))))
 rintro _ o ⟨s,t,rfl,j,k⟩
 refine Wn 1 rfl (Nx (Rt (E.jI rfl rfl ?_)))
 exact⟨_,_,rfl,(j.mono b.size),(b.trans k)⟩

theorem TP {A B:Option Addr}{n m c d:Nat}{xs ys:List (BitVec 8)}(w:World)(hV:Vec w kL 1 A n xs)(hn:n<=100000)(hU:Vec w kL 1 B m ys)(hm:m<=100000):Calls prog 124 #[.slice A n c,.slice B m d] w fun r w'=>∃A' c',r= .returned (.slice A' [xs,mG m,ys].flatten.length c')/\jO w' w.heap.size 5 kL 1 A' [xs,mG m,ys].flatten.length c' [xs,mG m,ys].flatten/\Le w w':=by
 have hl:=hV.1
 have z:=hU.1
 refine enter func124 rfl rfl (Sr (Wn 1 rfl (Nx (Sr (Wn 2 rfl (Wr (.len underlying122 rfl) rfl (W.cl UQ rfl rfl (QQ m (by omega) w) ?_)))))))
 rintro _ C ⟨j,k,rfl,l,o⟩
 have D:=lI m (by omega)
 have F:=ER m
 refine Wn 1 rfl (W.ef rfl rfl rfl (Ef.pO [_,_,_] underlying210 JB rfl (by intro v hv;simp at hv;rcases hv with rfl|rfl|rfl<;>rfl) rfl (by decide) (by decide) ?_))
 intro t f H e i
 have b:=((Le.refl w).trans o).trans i
 have e:jL f t 122 #[.slice A n c,.slice j ((mG m).length) k,.slice B m d]:=e
 refine W.cl UY rfl rfl (Gu f (e.sl (s:=1) (n:=3) rfl) (.cons (tN (hV.le b)) (.cons (tN (l.le i).vec) (.cons (tN (hU.le b)) (.nil _)))) (by simp;omega) (by simp;omega) (by decide)) ?_
 rintro _ I ⟨J,K,rfl,u,x⟩
 have y:=Cf u
 refine Wn 1 rfl (Nx (Rt (E.jI rfl rfl ?_)))
 exact⟨_,_,rfl,(y.mono b.size),(b.trans x)⟩
end Go.Proofs.YtcaehidaejhdfaaGreat

