/- SplitPeeled: for every input the law answers true and leaves its arguments as they were. -/
import Derived.Test.YtocheaahlpiajaaGreatDoorSplitPeeledL
import Derived.Lib.Mul64
set_option linter.unusedVariables false
set_option linter.unusedSimpArgs false
namespace Go.Proofs.YtocheaahlpiajaaGreatDoor
open Tryz
open Go Go.Sx
set_option maxRecDepth 20000
theorem mul64_ok (x y:Nat)(hx:x<18446744073709551616)(hy:y<18446744073709551616)(w:World):Calls prog 302 #[.int .u64 ((x:Nat):Int),.int .u64 ((y:Nat):Int)] w fun e w'=>e= .returned (.tuple #[.int .u64 ((x*y/18446744073709551616:Nat):Int),.int .u64 ((x*y%18446744073709551616:Nat):Int)])/\Le w w':=by
 obtain⟨d,f,h,c⟩:=Go.Lib.mul64_hi x y hx hy
 have i:x*y/18446744073709551616<18446744073709551616:=by
  rw[Nat.div_lt_iff_lt_mul (by decide)]
  exact Nat.mul_lt_mul'' hx hy
 have ha:=Go.Lib.half_mul_le (a:=x/4294967296) (b:=y/4294967296) (by omega) (by omega)
 have hb:=Go.Lib.half_mul_le (a:=x/4294967296) (b:=y%4294967296) (by omega) (by omega)
 have hc:=Go.Lib.half_mul_le (a:=x%4294967296) (b:=y/4294967296) (by omega) (by omega)
 refine enter func302 rfl rfl (Sr (Wn 2 rfl (Nx (Sr (Wn 1 rfl (Wa (.andE (x) (4294967295) (x%4294967296) rfl rfl rfl rfl (by omega) (by omega) (mask32 _)) rfl (Wn 1 rfl (Nx (Sr (Wn 1 rfl (Wa (.shrE (x) (32) (x/4294967296) rfl rfl rfl rfl (by decide) (rfl)) rfl (Wn 1 rfl (Nx (Sr (Wn 1 rfl ?_)))))))))))))))
 refine Wa (.andE (y) (4294967295) (y%4294967296) rfl rfl rfl rfl (by omega) (by omega) (mask32 _)) rfl (Wn 1 rfl (Nx (Sr (Wn 1 rfl (Wa (.shrE (y) (32) (y/4294967296) rfl rfl rfl rfl (by decide) (rfl)) rfl (Wn 1 rfl (Nx (Sr (Wn 2 rfl (Wa (.mulN (x%4294967296) (y%4294967296) ((x%4294967296)*(y%4294967296)) rfl rfl rfl rfl (Nat.mod_eq_of_lt d)) rfl (Wn 1 rfl (Nx (Sr (Wn 2 rfl ?_))))))))))))))
 refine Wa (.mulN (x/4294967296) (y%4294967296) ((x/4294967296)*(y%4294967296)) rfl rfl rfl rfl (Nat.mod_eq_of_lt (by omega))) rfl (Wn 1 rfl (Wa (.shrE ((x%4294967296)*(y%4294967296)) (32) ((x%4294967296)*(y%4294967296)/4294967296) rfl rfl rfl rfl (by decide) (rfl)) rfl (Wa (.addN ((x/4294967296)*(y%4294967296)) ((x%4294967296)*(y%4294967296)/4294967296) ((x/4294967296)*(y%4294967296)+(x%4294967296)*(y%4294967296)/4294967296) rfl rfl rfl rfl (Nat.mod_eq_of_lt f)) rfl (Wn 1 rfl (Nx (Sr (Wn 1 rfl ?_)))))))
 refine Wa (.andE ((x/4294967296)*(y%4294967296)+(x%4294967296)*(y%4294967296)/4294967296) (4294967295) (((x/4294967296)*(y%4294967296)+(x%4294967296)*(y%4294967296)/4294967296)%4294967296) rfl rfl rfl rfl (by omega) (by omega) (mask32 _)) rfl (Wn 1 rfl (Nx (Sr (Wn 1 rfl (Wa (.shrE ((x/4294967296)*(y%4294967296)+(x%4294967296)*(y%4294967296)/4294967296) (32) (((x/4294967296)*(y%4294967296)+(x%4294967296)*(y%4294967296)/4294967296)/4294967296) rfl rfl rfl rfl (by decide) (rfl)) rfl (Wn 1 rfl (Nx (Sr (Wn 3 rfl ?_)))))))))
 refine Wa (.mulN (x%4294967296) (y/4294967296) ((x%4294967296)*(y/4294967296)) rfl rfl rfl rfl (Nat.mod_eq_of_lt (by omega))) rfl (Wa (.addN (((x/4294967296)*(y%4294967296)+(x%4294967296)*(y%4294967296)/4294967296)%4294967296) ((x%4294967296)*(y/4294967296)) (((x/4294967296)*(y%4294967296)+(x%4294967296)*(y%4294967296)/4294967296)%4294967296+(x%4294967296)*(y/4294967296)) rfl rfl rfl rfl (Nat.mod_eq_of_lt h)) rfl (Wn 1 rfl (Nx (Sr (Wn 2 rfl (Wa (.mulN (x/4294967296) (y/4294967296) ((x/4294967296)*(y/4294967296)) rfl rfl rfl rfl (Nat.mod_eq_of_lt (by omega))) rfl (Wn 1 rfl ?_)))))))
 refine Wa (.addN ((x/4294967296)*(y/4294967296)) (((x/4294967296)*(y%4294967296)+(x%4294967296)*(y%4294967296)/4294967296)/4294967296) ((x/4294967296)*(y/4294967296)+((x/4294967296)*(y%4294967296)+(x%4294967296)*(y%4294967296)/4294967296)/4294967296) rfl rfl rfl rfl (Nat.mod_eq_of_lt (by omega))) rfl (Wn 1 rfl ?_)
 refine Wa (.shrE (((x/4294967296)*(y%4294967296)+(x%4294967296)*(y%4294967296)/4294967296)%4294967296+(x%4294967296)*(y/4294967296)) (32) ((((x/4294967296)*(y%4294967296)+(x%4294967296)*(y%4294967296)/4294967296)%4294967296+(x%4294967296)*(y/4294967296))/4294967296) rfl rfl rfl rfl (by decide) (rfl)) rfl ?_
 refine Wa (.addN ((x/4294967296)*(y/4294967296)+((x/4294967296)*(y%4294967296)+(x%4294967296)*(y%4294967296)/4294967296)/4294967296) ((((x/4294967296)*(y%4294967296)+(x%4294967296)*(y%4294967296)/4294967296)%4294967296+(x%4294967296)*(y/4294967296))/4294967296) (x*y/18446744073709551616) rfl rfl rfl rfl ((Nat.mod_eq_of_lt (by rw[c];exact i)).trans c)) rfl ?_
 refine Wn 1 rfl (Nx (Sr (Wn 2 rfl (Wa (.mulN (x) (y) (x*y%18446744073709551616) rfl rfl rfl rfl (rfl)) rfl (Wn 1 rfl (Nx (Rt (E.ret2 rfl rfl rfl ?_))))))))
 exact⟨rfl,(Le.refl w)⟩

def tab8:ByteArray:=⟨[0,1,2,2,3,3,3,3,4,4,4,4,4,4,4,4,5,5,5,5,5,5,5,5,5,5,5,5,5,5,5,5,6,6,6,6,6,6,6,6,6,6,6,6,6,6,6,6,6,6,6,6,6,6,6,6,6,6,6,6,6,6,6,6,7,7,7,7,7,7,7,7,7,7,7,7,7,7,7,7,7,7,7,7,7,7,7,7,7,7,7,7,7,7,7,7,7,7,7,7,7,7,7,7,7,7,7,7,7,7,7,7,7,7,7,7,7,7,7,7,7,7,7,7,7,7,7,7,8,8,8,8,8,8,8,8,8,8,8,8,8,8,8,8,8,8,8,8,8,8,8,8,8,8,8,8,8,8,8,8,8,8,8,8,8,8,8,8,8,8,8,8,8,8,8,8,8,8,8,8,8,8,8,8,8,8,8,8,8,8,8,8,8,8,8,8,8,8,8,8,8,8,8,8,8,8,8,8,8,8,8,8,8,8,8,8,8,8,8,8,8,8,8,8,8,8,8,8,8,8,8,8,8,8,8,8,8,8,8,8,8,8,8,8,8,8,8,8,8,8,8,8,8,8,8,8].toArray⟩

theorem len8:∀m,16<=m->m<64->tab8[m]? =some (if m<32 then 5 else 6):=by
  have h:∀m:Fin 64,16<=m.val->tab8[m.val]? =some (if m.val<32 then 5 else 6):=by decide+kernel
  exact fun m b c=>h ⟨m,c⟩ b

theorem len64_ok (y:Nat)(h1:1152921504606846976<=y)(h2:y<4611686018427387904)(w:World):Calls prog 326 #[.int .u64 ((y:Nat):Int)] w fun e w'=>e= .returned (.int .i64 (if y<2305843009213693952 then 61 else 62))/\Le w w':=by
 refine enter func326 rfl rfl (Sr (Wn 1 rfl (Nx (Sq (Sr (Wn 2 rfl (Nx (WC.condB rfl (fun _=>?_) (fun h=>absurd h (by simp;omega))))))))))
 refine Sr (Wn 1 rfl (Wa (.shrE (y) (32) (y/4294967296) rfl rfl rfl rfl (by decide) (rfl)) rfl (Wn 1 rfl (Nx (WC.region (Wn 1 rfl (Nx (Sq (Sr (Wn 2 rfl (Nx (WC.condB rfl (fun _=>?_) (fun h=>absurd h (by simp;omega))))))))))))))
 refine Sr (Wn 1 rfl (Wa (.shrE (y/4294967296) (16) (y/281474976710656) rfl rfl rfl rfl (by decide) (by omega)) rfl (Wn 1 rfl (Nx (WC.region (Wn 1 rfl (Wa (.add rfl rfl (by omega)) rfl (Wn 1 rfl (Nx (Sq (Sr (Wn 2 rfl (Nx (WC.condB rfl (fun _=>?_) (fun h=>absurd h (by simp;omega))))))))))))))))
 refine Sr (Wn 1 rfl (Wa (.shrE (y/281474976710656) (8) (y/72057594037927936) rfl rfl rfl rfl (by decide) (by omega)) rfl (Wn 1 rfl (Nx (WC.region (Wn 1 rfl (Wa (.add rfl rfl (by omega)) rfl (Wn 1 rfl (Nx (Sr (Wn 2 rfl (Wr (.toU8 (y/72057594037927936) (isS underlying27) underlying5 rfl rfl) rfl ?_))))))))))))
 refine Wa (.idxStr (y/72057594037927936) (if y/72057594037927936<32 then 5 else 6) underlying9 rfl rfl (by rw[BitVec.toNat_ofNat,Nat.mod_eq_of_lt (by omega)]) (len8 (y/72057594037927936) (by omega) (by omega))) rfl ?_
 refine Wr (.idI (isS underlying5) underlying3 rfl (IntWalk.i64_in _ (by split<;>decide))) rfl ?_
 refine Wa (.add rfl rfl (by split<;>decide)) rfl ?_
 refine Wn 1 rfl (Nx (Rt (E.ret1 rfl rfl ?_)))
 exact⟨by congr 2;split<;>split<;>simp_all<;>omega,(Le.refl w)⟩

theorem lz64_ok (y:Nat)(h1:1152921504606846976<=y)(h2:y<4611686018427387904)(w:World):Calls prog 334 #[.int .u64 ((y:Nat):Int)] w fun e w'=>e= .returned (.int .i64 (if y<2305843009213693952 then 3 else 2))/\Le w w':=by
 refine enter func334 rfl rfl ?_
 have b:=Le.refl w
 refine Sr (Wn 1 rfl (Nx (Sr (Wn 1 rfl (W.cl go326 rfl rfl (len64_ok y h1 h2 w) ?_)))))
 rintro _ f ⟨rfl,c⟩
 have d:=b.trans c
 refine Wa (.sub rfl rfl (by split<;>omega)) rfl ?_
 refine Wn 1 rfl (Nx (Rt (E.ret1 rfl rfl ?_)))
 exact⟨by congr 2;split<;>rfl,d⟩

theorem div64_ok2 (h l y:Nat)(h1:2305843009213693952<=y)(h2:y<4611686018427387904)(hh:h<y)(hl:l<18446744073709551616)(w:World):Calls prog 301 #[.int .u64 ((h:Nat):Int),.int .u64 ((l:Nat):Int),.int .u64 ((y:Nat):Int)] w fun e w'=>∃qq:Int,e= .returned (.tuple #[.int .u64 qq,.int .u64 (((h*18446744073709551616+l)%y:Nat):Int)])/\Le w w':=by
 obtain⟨Y,hYd⟩:∃Y,Y=y*4:=⟨_,rfl⟩
 obtain⟨a,ha⟩:∃a,a=Y/4294967296:=⟨_,rfl⟩
 obtain⟨b,z⟩:∃b,b=Y%4294967296:=⟨_,rfl⟩
 obtain⟨U,hUd⟩:∃U,U=h*4+l/4611686018427387904:=⟨_,rfl⟩
 obtain⟨v,hv⟩:∃v,v=l*4%18446744073709551616:=⟨_,rfl⟩
 obtain⟨f,A⟩:∃f,f=v/4294967296:=⟨_,rfl⟩
 obtain⟨c,s⟩:∃c,c=v%4294967296:=⟨_,rfl⟩
 have hY:Y=a*4294967296+b:=by omega
 have hYlo:9223372036854775808<=Y:=by omega
 have hYhi:Y<18446744073709551616:=by omega
 have Q:2147483648<=a:=by omega
 have S:a<4294967296:=by omega
 have m:b<4294967296:=by omega
 have T:v<18446744073709551616:=by omega
 have V:f<4294967296:=by omega
 have X:c<4294967296:=by omega
 have hU:U<Y:=by omega
 obtain⟨R,hR⟩:∃R,R=(U*4294967296+f)%Y:=⟨_,rfl⟩
 obtain⟨d,j⟩:∃d,d=(U*4294967296+f)/Y:=⟨_,rfl⟩
 obtain⟨i,k⟩:∃i,i=(R*4294967296+c)/Y:=⟨_,rfl⟩
 have hRY:R<Y:=by rw[hR];exact Nat.mod_lt _ (by omega)
 have hfin:(R*4294967296+c)%Y/2^2=(h*18446744073709551616+l)%y:=div_fin2 h l y Y U v f c R hYd hUd hv A s hR (by omega)
 have hlz:∀w,Calls prog 334 #[.int .u64 ((y:Nat):Int)] w (fun e w'=>e= .returned (.int .i64 2)/\Le w w'):=fun w=>by
  have:=lz64_ok y (by omega) (by omega) w
  rw[if_neg (by omega)]at this
  exact this
 refine enter func301 rfl rfl ?_
 have t:=Le.refl w
 refine Sr (Wn 2 rfl (Nx (Sq (Sr (Wn 2 rfl (Nx (WC.condB rfl (fun h=>absurd h (by simp;omega)) (fun _=>?_))))))))
 refine Sn (Sq (Sr (Wn 3 rfl (Nx (WC.condB rfl (fun h=>absurd h (by simp;omega)) (fun _=>?_))))))
 refine Sn (Sq (Sr (Wn 2 rfl (Nx (WC.cond rfl (fun C=>?_) (fun C=>?_))))))
 ·have D:h=0:=by omega
  subst D
  refine Sq (WC.draw [0,1,2,3,4,5,6,7] mixed (by kernel_rfl) fun Z F=>?_)
  have H:=t.trans F
  refine Gn 2 rfl (Ga rfl (.quoN (l) (y) (l/y) rfl rfl rfl rfl (by omega) (by omega) (rfl)) (Gn 2 rfl (Ga rfl (.remN (l) (y) (l%y) rfl rfl rfl rfl (by omega) (rfl)) (Gn 2 rfl (G.nil (E.thenN (Rt (E.thenR (E.ret2 rfl rfl rfl ?_)))))))))
  exact⟨_,by rw[Nat.zero_mul,Nat.zero_add],H⟩
 refine Sn (Sr (Wn 1 rfl (W.cl go334 rfl rfl (hlz w) ?_)))
 rintro _ aa ⟨rfl,I⟩
 have J:=t.trans I
 refine Wr (.idI (isS underlying3) underlying287 rfl (IntWalk.u64_in _ (by decide))) rfl (Wn 1 rfl (Nx (Sr (Wn 2 rfl (Wa (.shlN (y) (2) (Y) rfl rfl rfl rfl (by decide) (by omega)) rfl (Wn 1 rfl (Nx (Sr (Wn 1 rfl (Wa (.shrE (Y) (32) (a) rfl rfl rfl rfl (by decide) (by omega)) rfl (Wn 1 rfl (Nx (Sr (Wn 1 rfl ?_))))))))))))))
 refine Wa (.andE (Y) (4294967295) (b) rfl rfl rfl rfl (by omega) (by omega) ((mask32 _).trans z.symm)) rfl (Wn 1 rfl (Nx (Sr (Wn 2 rfl (Wa (.shlN (h) (2) (h*4) rfl rfl rfl rfl (by decide) (by omega)) rfl (Wn 2 rfl (Wa (.subN (64) (2) (62) rfl rfl rfl rfl (by decide) (by decide)) rfl (Wa (.shrE (l) (62) (l/4611686018427387904) rfl rfl rfl rfl (by decide) (rfl)) rfl ?_))))))))
 refine Wa (.orE (h*4) (l/4611686018427387904) (U) rfl rfl rfl rfl (by omega) (by omega) (by rw[hUd,Nat.mul_comm h,show(4:Nat)=2^2 by decide];exact(Nat.two_pow_add_eq_or_of_lt (by omega) _).symm)) rfl ?_
 refine Wn 1 rfl (Nx (Sr (Wn 2 rfl (Wa (.shlN (l) (2) (v) rfl rfl rfl rfl (by decide) (hv.symm)) rfl (Wn 1 rfl (Nx (Sr (Wn 1 rfl (Wa (.shrE (v) (32) (f) rfl rfl rfl rfl (by decide) (by omega)) rfl (Wn 1 rfl (Nx (Sr (Wn 1 rfl (Wa (.andE (v) (4294967295) (c) rfl rfl rfl rfl (by omega) (by omega) ((mask32 _).trans s.symm)) rfl ?_))))))))))))))
 refine Wn 1 rfl (Nx (Sr (Wn 2 rfl (Wa (.quoN (U) (a) (U/a) rfl rfl rfl rfl (by omega) (by omega) (rfl)) rfl (Wn 1 rfl (Nx (Sr (Wn 3 rfl (Wa (.mulN (U/a) (a) (U/a*a) rfl rfl rfl rfl (Nat.mod_eq_of_lt (Nat.lt_of_le_of_lt (Nat.div_mul_le_self _ _) (by omega)))) rfl (Wa (.subN (U) (U/a*a) (U%a) rfl rfl rfl rfl (Nat.le_trans (Nat.div_mul_le_self _ _) (by omega)) (sub_div U a (by omega))) rfl (Wn 1 rfl (Nx ?_))))))))))))
 refine WC.cut (ι:=Unit) (fun()=>[(2,.int .u64 ((Y:Nat):Int)),(8,.int .u64 (2:Int)),(9,.int .u64 ((a:Nat):Int)),(10,.int .u64 ((b:Nat):Int)),(11,.int .u64 ((U:Nat):Int)),(13,.int .u64 ((f:Nat):Int)),(14,.int .u64 ((c:Nat):Int)),(15,.int .u64 ((d:Nat):Int))]) (fun() u=>Le w u) ?_ ?_
 ·refine WC.block (WC.loop (ι:=Nat×Nat) (fun⟨qh,rh⟩=>[(2,.int .u64 ((Y:Nat):Int)),(8,.int .u64 (2:Int)),(9,.int .u64 ((a:Nat):Int)),(10,.int .u64 ((b:Nat):Int)),(11,.int .u64 ((U:Nat):Int)),(13,.int .u64 ((f:Nat):Int)),(14,.int .u64 ((c:Nat):Int)),(15,.int .u64 ((qh:Nat):Int)),(16,.int .u64 ((rh:Nat):Int))]) (fun⟨qh,rh⟩ wl=>Le w wl/\qh*a+rh=U/\d<=qh/\rh<4294967296/\qh<=4294967297) (fun⟨qh,rh⟩=>qh) (U/a,U%a) ?_ ?_ ?_)
  ·exact .of rfl
  ·exact⟨J,by rw[Nat.mul_comm];exact Nat.div_add_mod _ _,by rw[j];exact dig_start hY (by omega) hU (by omega),Nat.lt_of_lt_of_le (Nat.mod_lt _ (by omega)) (by omega),dig_first hY (by omega) (by omega) hU⟩
  rintro⟨qh,rh⟩ wl ⟨Ll,hi,hq,hr,K⟩
  refine Sq (Sr (Wn 2 rfl ?_))
  by_cases hb:4294967296<=qh
  ·refine Wn 1 rfl (W.skip rfl rfl rfl (dT (by omega)) rfl rfl (W.skip rfl rfl rfl (dT (by omega)) rfl rfl (W.skip rfl rfl rfl (dT (by omega)) rfl rfl (W.skip rfl rfl rfl (dT (by omega)) rfl rfl (W.skip rfl rfl rfl (dT (by omega)) rfl rfl ?_)))))
   refine W.skip rfl rfl rfl (dT (by omega)) rfl rfl (W.skip rfl rfl rfl (dT (by omega)) rfl rfl (W.skip rfl rfl rfl (dT (by omega)) rfl rfl (Wa (.pickT rfl (dT (by omega)) rfl) rfl ?_)))
   have hgt:d<qh:=by rw[j];exact dig_gt hY hU (by omega) hi (by omega)
   have hd:qh*a=(qh-1)*a+a:=by rw[<-Nat.succ_mul];congr 1;omega
   have hinv:(qh-1)*a+(rh+a)=U:=by omega
   refine Nx (WC.condT rfl (Sn (WC.block (Sr (Wn 1 rfl (Wa (.subN (qh) (1) (qh-1) rfl rfl rfl rfl (by omega) (by omega)) rfl (Wn 1 rfl (Nx (Sr (Wn 2 rfl (Wa (.addN (rh) (a) (rh+a) rfl rfl rfl rfl (by omega)) rfl (Wn 1 rfl (Nx (Sr (Wn 2 rfl (Nx (WC.cond rfl (fun n=>?_) (fun n=>?_))))))))))))))))))
   ·have hqe:qh-1=d:=Nat.le_antisymm (by rw[j];exact dig_brk hY (by omega) m hinv (by omega) (by omega)) (by omega)
    refine WC.exit (E.blkX rfl (E.thenX (E.blkH (E.meet () (.cons rfl (.cons rfl (.cons rfl (.cons rfl (.cons rfl (.cons rfl (.cons rfl (.cons' rfl (int_eq (by rw[hqe])) (.nil _))))))))) ?_))))
    exact Ll
   refine WC.skip (E.blkN (E.again (qh-1,rh+a) (.of rfl) ?_ ?_))
   ·exact⟨Ll,hinv,by omega,by omega,by omega⟩
   first|omega|(simp only[];omega)
  refine Wn 1 rfl (W.rdg (Any.rd (.move rfl) _) rfl rfl rfl (dF (by omega)) rfl rfl (W.rdg (Any.rd (.move rfl) _) rfl rfl rfl (dF (by omega)) rfl rfl ?_))
  have hqb:qh*b<18446744073709551616:=Nat.lt_of_le_of_lt (Nat.mul_le_mul (show qh<=4294967295 by omega) (show b<=4294967295 by omega)) (by decide)
  refine W.rdg (Any.rd (.mulN (qh) (b) (qh*b) rfl rfl rfl rfl (Nat.mod_eq_of_lt hqb)) _) rfl rfl rfl (dF (by omega)) rfl rfl (W.rdg (Any.rd (.move rfl) _) rfl rfl rfl (dF (by omega)) rfl rfl (W.rdg (Any.rd (.mulN (4294967296) (rh) (4294967296*rh) rfl rfl rfl rfl (by omega)) _) rfl rfl rfl (dF (by omega)) rfl rfl (W.rdg (Any.rd (.move rfl) _) rfl rfl rfl (dF (by omega)) rfl rfl (W.rdg (Any.rd (.addN (4294967296*rh) (f) (4294967296*rh+f) rfl rfl rfl rfl (by omega)) _) rfl rfl rfl (dF (by omega)) rfl rfl (W.rdg (Any.rd (.gtr rfl rfl) _) rfl rfl rfl (dF (by omega)) rfl rfl ?_)))))
  refine Wa (.pickF rfl (dF (by omega)) rfl) rfl (Nx (WC.cond rfl (fun L=>?_) (fun L=>?_)))
  ·have hgt:d<qh:=by rw[j];exact dig_gt hY hU (by omega) hi (by omega)
   have hd:qh*a=(qh-1)*a+a:=by rw[<-Nat.succ_mul];congr 1;omega
   have hinv:(qh-1)*a+(rh+a)=U:=by omega
   refine Sn (WC.block (Sr (Wn 1 rfl (Wa (.subN (qh) (1) (qh-1) rfl rfl rfl rfl (by omega) (by omega)) rfl (Wn 1 rfl (Nx (Sr (Wn 2 rfl (Wa (.addN (rh) (a) (rh+a) rfl rfl rfl rfl (by omega)) rfl (Wn 1 rfl (Nx (Sr (Wn 2 rfl (Nx (WC.cond rfl (fun n=>?_) (fun n=>?_))))))))))))))))
   ·have hqe:qh-1=d:=Nat.le_antisymm (by rw[j];exact dig_brk hY (by omega) m hinv (by omega) (by omega)) (by omega)
    refine WC.exit (E.blkX rfl (E.thenX (E.blkH (E.meet () (.cons rfl (.cons rfl (.cons rfl (.cons rfl (.cons rfl (.cons rfl (.cons rfl (.cons' rfl (int_eq (by rw[hqe])) (.nil _))))))))) ?_))))
    exact Ll
   refine WC.skip (E.blkN (E.again (qh-1,rh+a) (.of rfl) ?_ ?_))
   ·exact⟨Ll,hinv,by omega,by omega,by omega⟩
   first|omega|(simp only[];omega)
  have hqe:qh=d:=Nat.le_antisymm (by rw[j];exact dig_le hY (by omega) hi (by omega)) hq
  refine WC.exit (E.thenX (E.thenX (E.blkH (E.meet () (.cons rfl (.cons rfl (.cons rfl (.cons rfl (.cons rfl (.cons rfl (.cons rfl (.cons' rfl (int_eq (by rw[hqe])) (.nil _))))))))) ?_))))
  exact Ll
 rintro⟨⟩ u N
 refine Sr (Wn 1 rfl (Wa (.mulN (U) (4294967296) (U*4294967296%18446744073709551616) rfl rfl rfl rfl (rfl)) rfl (Wn 1 rfl (Wa (.addN (U*4294967296%18446744073709551616) (f) ((U*4294967296+f)%18446744073709551616) rfl rfl rfl rfl (by rw[Nat.mod_add_mod])) rfl ?_))))
 refine Wn 2 rfl (Wa (.mulN (d) (Y) (d*Y%18446744073709551616) rfl rfl rfl rfl (rfl)) rfl (Wa (.subN ((U*4294967296+f)%18446744073709551616) (d*Y%18446744073709551616) (R) rfl rfl rfl rfl (Nat.le_of_lt (Nat.mod_lt _ (by decide))) ((dig_rest Y _ _ j (by omega) (by omega)).trans hR.symm)) rfl (Wn 1 rfl (Nx (Sr (Wn 2 rfl (Wa (.quoN (R) (a) (R/a) rfl rfl rfl rfl (by omega) (by omega) (rfl)) rfl (Wn 1 rfl (Nx (Sr (Wn 3 rfl ?_)))))))))))
 refine Wa (.mulN (R/a) (a) (R/a*a) rfl rfl rfl rfl (Nat.mod_eq_of_lt (Nat.lt_of_le_of_lt (Nat.div_mul_le_self _ _) (by omega)))) rfl (Wa (.subN (R) (R/a*a) (R%a) rfl rfl rfl rfl (Nat.le_trans (Nat.div_mul_le_self _ _) (by omega)) (sub_div R a (by omega))) rfl (Wn 1 rfl (Nx (WC.cut (ι:=Unit) (fun()=>[(2,.int .u64 ((Y:Nat):Int)),(8,.int .u64 (2:Int)),(9,.int .u64 ((a:Nat):Int)),(10,.int .u64 ((b:Nat):Int)),(14,.int .u64 ((c:Nat):Int)),(17,.int .u64 ((R:Nat):Int)),(15,.int .u64 ((d:Nat):Int)),(18,.int .u64 ((i:Nat):Int))]) (fun() x=>Le w x) ?_ ?_))))
 ·refine WC.block (WC.loop (ι:=Nat×Nat) (fun⟨qh,rh⟩=>[(2,.int .u64 ((Y:Nat):Int)),(8,.int .u64 (2:Int)),(9,.int .u64 ((a:Nat):Int)),(10,.int .u64 ((b:Nat):Int)),(14,.int .u64 ((c:Nat):Int)),(17,.int .u64 ((R:Nat):Int)),(15,.int .u64 ((d:Nat):Int)),(18,.int .u64 ((qh:Nat):Int)),(16,.int .u64 ((rh:Nat):Int))]) (fun⟨qh,rh⟩ wl=>Le w wl/\qh*a+rh=R/\i<=qh/\rh<4294967296/\qh<=4294967297) (fun⟨qh,rh⟩=>qh) (R/a,R%a) ?_ ?_ ?_)
  ·exact .of rfl
  ·exact⟨N,by rw[Nat.mul_comm];exact Nat.div_add_mod _ _,by rw[k];exact dig_start hY (by omega) hRY (by omega),Nat.lt_of_lt_of_le (Nat.mod_lt _ (by omega)) (by omega),dig_first hY (by omega) (by omega) hRY⟩
  rintro⟨qh,rh⟩ wl ⟨Ll,hi,hq,hr,K⟩
  refine Sq (Sr (Wn 2 rfl ?_))
  by_cases hb:4294967296<=qh
  ·refine Wn 1 rfl (W.skip rfl rfl rfl (dT (by omega)) rfl rfl (W.skip rfl rfl rfl (dT (by omega)) rfl rfl (W.skip rfl rfl rfl (dT (by omega)) rfl rfl (W.skip rfl rfl rfl (dT (by omega)) rfl rfl (W.skip rfl rfl rfl (dT (by omega)) rfl rfl ?_)))))
   refine W.skip rfl rfl rfl (dT (by omega)) rfl rfl (W.skip rfl rfl rfl (dT (by omega)) rfl rfl (W.skip rfl rfl rfl (dT (by omega)) rfl rfl (Wa (.pickT rfl (dT (by omega)) rfl) rfl ?_)))
   have hgt:i<qh:=by rw[k];exact dig_gt hY hRY (by omega) hi (by omega)
   have hd:qh*a=(qh-1)*a+a:=by rw[<-Nat.succ_mul];congr 1;omega
   have hinv:(qh-1)*a+(rh+a)=R:=by omega
   refine Nx (WC.condT rfl (Sn (WC.block (Sr (Wn 1 rfl (Wa (.subN (qh) (1) (qh-1) rfl rfl rfl rfl (by omega) (by omega)) rfl (Wn 1 rfl (Nx (Sr (Wn 2 rfl (Wa (.addN (rh) (a) (rh+a) rfl rfl rfl rfl (by omega)) rfl (Wn 1 rfl (Nx (Sr (Wn 2 rfl (Nx (WC.cond rfl (fun o=>?_) (fun o=>?_))))))))))))))))))
   ·have hqe:qh-1=i:=Nat.le_antisymm (by rw[k];exact dig_brk hY (by omega) m hinv (by omega) (by omega)) (by omega)
    refine WC.exit (E.blkX rfl (E.thenX (E.blkH (E.meet () (.cons rfl (.cons rfl (.cons rfl (.cons rfl (.cons rfl (.cons rfl (.cons rfl (.cons' rfl (int_eq (by rw[hqe])) (.nil _))))))))) ?_))))
    exact Ll
   refine WC.skip (E.blkN (E.again (qh-1,rh+a) (.of rfl) ?_ ?_))
   ·exact⟨Ll,hinv,by omega,by omega,by omega⟩
   first|omega|(simp only[];omega)
  refine Wn 1 rfl (W.rdg (Any.rd (.move rfl) _) rfl rfl rfl (dF (by omega)) rfl rfl (W.rdg (Any.rd (.move rfl) _) rfl rfl rfl (dF (by omega)) rfl rfl ?_))
  have hqb:qh*b<18446744073709551616:=Nat.lt_of_le_of_lt (Nat.mul_le_mul (show qh<=4294967295 by omega) (show b<=4294967295 by omega)) (by decide)
  refine W.rdg (Any.rd (.mulN (qh) (b) (qh*b) rfl rfl rfl rfl (Nat.mod_eq_of_lt hqb)) _) rfl rfl rfl (dF (by omega)) rfl rfl (W.rdg (Any.rd (.move rfl) _) rfl rfl rfl (dF (by omega)) rfl rfl (W.rdg (Any.rd (.mulN (4294967296) (rh) (4294967296*rh) rfl rfl rfl rfl (by omega)) _) rfl rfl rfl (dF (by omega)) rfl rfl (W.rdg (Any.rd (.move rfl) _) rfl rfl rfl (dF (by omega)) rfl rfl (W.rdg (Any.rd (.addN (4294967296*rh) (c) (4294967296*rh+c) rfl rfl rfl rfl (by omega)) _) rfl rfl rfl (dF (by omega)) rfl rfl (W.rdg (Any.rd (.gtr rfl rfl) _) rfl rfl rfl (dF (by omega)) rfl rfl ?_)))))
  refine Wa (.pickF rfl (dF (by omega)) rfl) rfl (Nx (WC.cond rfl (fun O=>?_) (fun O=>?_)))
  ·have hgt:i<qh:=by rw[k];exact dig_gt hY hRY (by omega) hi (by omega)
   have hd:qh*a=(qh-1)*a+a:=by rw[<-Nat.succ_mul];congr 1;omega
   have hinv:(qh-1)*a+(rh+a)=R:=by omega
   refine Sn (WC.block (Sr (Wn 1 rfl (Wa (.subN (qh) (1) (qh-1) rfl rfl rfl rfl (by omega) (by omega)) rfl (Wn 1 rfl (Nx (Sr (Wn 2 rfl (Wa (.addN (rh) (a) (rh+a) rfl rfl rfl rfl (by omega)) rfl (Wn 1 rfl (Nx (Sr (Wn 2 rfl (Nx (WC.cond rfl (fun o=>?_) (fun o=>?_))))))))))))))))
   ·have hqe:qh-1=i:=Nat.le_antisymm (by rw[k];exact dig_brk hY (by omega) m hinv (by omega) (by omega)) (by omega)
    refine WC.exit (E.blkX rfl (E.thenX (E.blkH (E.meet () (.cons rfl (.cons rfl (.cons rfl (.cons rfl (.cons rfl (.cons rfl (.cons rfl (.cons' rfl (int_eq (by rw[hqe])) (.nil _))))))))) ?_))))
    exact Ll
   refine WC.skip (E.blkN (E.again (qh-1,rh+a) (.of rfl) ?_ ?_))
   ·exact⟨Ll,hinv,by omega,by omega,by omega⟩
   first|omega|(simp only[];omega)
  have hqe:qh=i:=Nat.le_antisymm (by rw[k];exact dig_le hY (by omega) hi (by omega)) hq
  refine WC.exit (E.thenX (E.thenX (E.blkH (E.meet () (.cons rfl (.cons rfl (.cons rfl (.cons rfl (.cons rfl (.cons rfl (.cons rfl (.cons' rfl (int_eq (by rw[hqe])) (.nil _))))))))) ?_))))
  exact Ll
 rintro⟨⟩ x P
 refine Sr (Wn 1 rfl (Wa (.mulN (d) (4294967296) (d*4294967296%18446744073709551616) rfl rfl rfl rfl (rfl)) rfl (Wn 1 rfl (Wa (.addN (d*4294967296%18446744073709551616) (i) ((d*4294967296%18446744073709551616+i)%18446744073709551616) rfl rfl rfl rfl (rfl)) rfl (Wn 1 rfl (Wa (.mulN (R) (4294967296) (R*4294967296%18446744073709551616) rfl rfl rfl rfl (rfl)) rfl ?_))))))
 refine Wn 1 rfl (Wa (.addN (R*4294967296%18446744073709551616) (c) ((R*4294967296+c)%18446744073709551616) rfl rfl rfl rfl (by rw[Nat.mod_add_mod])) rfl ?_)
 refine Wn 2 rfl (Wa (.mulN (i) (Y) (i*Y%18446744073709551616) rfl rfl rfl rfl (rfl)) rfl (Wa (.subN ((R*4294967296+c)%18446744073709551616) (i*Y%18446744073709551616) ((R*4294967296+c)%Y) rfl rfl rfl rfl (Nat.le_of_lt (Nat.mod_lt _ (by decide))) (dig_rest Y _ _ k (by omega) (by omega))) rfl (Wn 1 rfl (Wa (.shrE ((R*4294967296+c)%Y) (2) ((h*18446744073709551616+l)%y) rfl rfl rfl rfl (by decide) (hfin)) rfl (Wn 2 rfl (Nx (Rt ?_)))))))
 refine E.ret2 rfl rfl rfl ?_
 exact⟨_,rfl,P⟩

theorem div64_ok3 (h l y:Nat)(h1:1152921504606846976<=y)(h2:y<2305843009213693952)(hh:h<y)(hl:l<18446744073709551616)(w:World):Calls prog 301 #[.int .u64 ((h:Nat):Int),.int .u64 ((l:Nat):Int),.int .u64 ((y:Nat):Int)] w fun e w'=>∃qq:Int,e= .returned (.tuple #[.int .u64 qq,.int .u64 (((h*18446744073709551616+l)%y:Nat):Int)])/\Le w w':=by
 obtain⟨Y,hYd⟩:∃Y,Y=y*8:=⟨_,rfl⟩
 obtain⟨a,ha⟩:∃a,a=Y/4294967296:=⟨_,rfl⟩
 obtain⟨b,z⟩:∃b,b=Y%4294967296:=⟨_,rfl⟩
 obtain⟨U,hUd⟩:∃U,U=h*8+l/2305843009213693952:=⟨_,rfl⟩
 obtain⟨v,hv⟩:∃v,v=l*8%18446744073709551616:=⟨_,rfl⟩
 obtain⟨f,A⟩:∃f,f=v/4294967296:=⟨_,rfl⟩
 obtain⟨c,s⟩:∃c,c=v%4294967296:=⟨_,rfl⟩
 have hY:Y=a*4294967296+b:=by omega
 have hYlo:9223372036854775808<=Y:=by omega
 have hYhi:Y<18446744073709551616:=by omega
 have Q:2147483648<=a:=by omega
 have S:a<4294967296:=by omega
 have m:b<4294967296:=by omega
 have T:v<18446744073709551616:=by omega
 have V:f<4294967296:=by omega
 have X:c<4294967296:=by omega
 have hU:U<Y:=by omega
 obtain⟨R,hR⟩:∃R,R=(U*4294967296+f)%Y:=⟨_,rfl⟩
 obtain⟨d,j⟩:∃d,d=(U*4294967296+f)/Y:=⟨_,rfl⟩
 obtain⟨i,k⟩:∃i,i=(R*4294967296+c)/Y:=⟨_,rfl⟩
 have hRY:R<Y:=by rw[hR];exact Nat.mod_lt _ (by omega)
 have hfin:(R*4294967296+c)%Y/2^3=(h*18446744073709551616+l)%y:=div_fin3 h l y Y U v f c R hYd hUd hv A s hR (by omega)
 have hlz:∀w,Calls prog 334 #[.int .u64 ((y:Nat):Int)] w (fun e w'=>e= .returned (.int .i64 3)/\Le w w'):=fun w=>by
  have:=lz64_ok y (by omega) (by omega) w
  rw[if_pos (by omega)]at this
  exact this
 refine enter func301 rfl rfl ?_
 have t:=Le.refl w
 refine Sr (Wn 2 rfl (Nx (Sq (Sr (Wn 2 rfl (Nx (WC.condB rfl (fun h=>absurd h (by simp;omega)) (fun _=>?_))))))))
 refine Sn (Sq (Sr (Wn 3 rfl (Nx (WC.condB rfl (fun h=>absurd h (by simp;omega)) (fun _=>?_))))))
 refine Sn (Sq (Sr (Wn 2 rfl (Nx (WC.cond rfl (fun C=>?_) (fun C=>?_))))))
 ·have D:h=0:=by omega
  subst D
  refine Sq (WC.draw [0,1,2,3,4,5,6,7] mixed (by kernel_rfl) fun Z F=>?_)
  have H:=t.trans F
  refine Gn 2 rfl (Ga rfl (.quoN (l) (y) (l/y) rfl rfl rfl rfl (by omega) (by omega) (rfl)) (Gn 2 rfl (Ga rfl (.remN (l) (y) (l%y) rfl rfl rfl rfl (by omega) (rfl)) (Gn 2 rfl (G.nil (E.thenN (Rt (E.thenR (E.ret2 rfl rfl rfl ?_)))))))))
  exact⟨_,by rw[Nat.zero_mul,Nat.zero_add],H⟩
 refine Sn (Sr (Wn 1 rfl (W.cl go334 rfl rfl (hlz w) ?_)))
 rintro _ aa ⟨rfl,I⟩
 have J:=t.trans I
 refine Wr (.idI (isS underlying3) underlying287 rfl (IntWalk.u64_in _ (by decide))) rfl (Wn 1 rfl (Nx (Sr (Wn 2 rfl (Wa (.shlN (y) (3) (Y) rfl rfl rfl rfl (by decide) (by omega)) rfl (Wn 1 rfl (Nx (Sr (Wn 1 rfl (Wa (.shrE (Y) (32) (a) rfl rfl rfl rfl (by decide) (by omega)) rfl (Wn 1 rfl (Nx (Sr (Wn 1 rfl ?_))))))))))))))
 refine Wa (.andE (Y) (4294967295) (b) rfl rfl rfl rfl (by omega) (by omega) ((mask32 _).trans z.symm)) rfl (Wn 1 rfl (Nx (Sr (Wn 2 rfl (Wa (.shlN (h) (3) (h*8) rfl rfl rfl rfl (by decide) (by omega)) rfl (Wn 2 rfl (Wa (.subN (64) (3) (61) rfl rfl rfl rfl (by decide) (by decide)) rfl (Wa (.shrE (l) (61) (l/2305843009213693952) rfl rfl rfl rfl (by decide) (rfl)) rfl ?_))))))))
 refine Wa (.orE (h*8) (l/2305843009213693952) (U) rfl rfl rfl rfl (by omega) (by omega) (by rw[hUd,Nat.mul_comm h,show(8:Nat)=2^3 by decide];exact(Nat.two_pow_add_eq_or_of_lt (by omega) _).symm)) rfl ?_
 refine Wn 1 rfl (Nx (Sr (Wn 2 rfl (Wa (.shlN (l) (3) (v) rfl rfl rfl rfl (by decide) (hv.symm)) rfl (Wn 1 rfl (Nx (Sr (Wn 1 rfl (Wa (.shrE (v) (32) (f) rfl rfl rfl rfl (by decide) (by omega)) rfl (Wn 1 rfl (Nx (Sr (Wn 1 rfl (Wa (.andE (v) (4294967295) (c) rfl rfl rfl rfl (by omega) (by omega) ((mask32 _).trans s.symm)) rfl ?_))))))))))))))
 refine Wn 1 rfl (Nx (Sr (Wn 2 rfl (Wa (.quoN (U) (a) (U/a) rfl rfl rfl rfl (by omega) (by omega) (rfl)) rfl (Wn 1 rfl (Nx (Sr (Wn 3 rfl (Wa (.mulN (U/a) (a) (U/a*a) rfl rfl rfl rfl (Nat.mod_eq_of_lt (Nat.lt_of_le_of_lt (Nat.div_mul_le_self _ _) (by omega)))) rfl (Wa (.subN (U) (U/a*a) (U%a) rfl rfl rfl rfl (Nat.le_trans (Nat.div_mul_le_self _ _) (by omega)) (sub_div U a (by omega))) rfl (Wn 1 rfl (Nx ?_))))))))))))
 refine WC.cut (ι:=Unit) (fun()=>[(2,.int .u64 ((Y:Nat):Int)),(8,.int .u64 (3:Int)),(9,.int .u64 ((a:Nat):Int)),(10,.int .u64 ((b:Nat):Int)),(11,.int .u64 ((U:Nat):Int)),(13,.int .u64 ((f:Nat):Int)),(14,.int .u64 ((c:Nat):Int)),(15,.int .u64 ((d:Nat):Int))]) (fun() u=>Le w u) ?_ ?_
 ·refine WC.block (WC.loop (ι:=Nat×Nat) (fun⟨qh,rh⟩=>[(2,.int .u64 ((Y:Nat):Int)),(8,.int .u64 (3:Int)),(9,.int .u64 ((a:Nat):Int)),(10,.int .u64 ((b:Nat):Int)),(11,.int .u64 ((U:Nat):Int)),(13,.int .u64 ((f:Nat):Int)),(14,.int .u64 ((c:Nat):Int)),(15,.int .u64 ((qh:Nat):Int)),(16,.int .u64 ((rh:Nat):Int))]) (fun⟨qh,rh⟩ wl=>Le w wl/\qh*a+rh=U/\d<=qh/\rh<4294967296/\qh<=4294967297) (fun⟨qh,rh⟩=>qh) (U/a,U%a) ?_ ?_ ?_)
  ·exact .of rfl
  ·exact⟨J,by rw[Nat.mul_comm];exact Nat.div_add_mod _ _,by rw[j];exact dig_start hY (by omega) hU (by omega),Nat.lt_of_lt_of_le (Nat.mod_lt _ (by omega)) (by omega),dig_first hY (by omega) (by omega) hU⟩
  rintro⟨qh,rh⟩ wl ⟨Ll,hi,hq,hr,K⟩
  refine Sq (Sr (Wn 2 rfl ?_))
  by_cases hb:4294967296<=qh
  ·refine Wn 1 rfl (W.skip rfl rfl rfl (dT (by omega)) rfl rfl (W.skip rfl rfl rfl (dT (by omega)) rfl rfl (W.skip rfl rfl rfl (dT (by omega)) rfl rfl (W.skip rfl rfl rfl (dT (by omega)) rfl rfl (W.skip rfl rfl rfl (dT (by omega)) rfl rfl ?_)))))
   refine W.skip rfl rfl rfl (dT (by omega)) rfl rfl (W.skip rfl rfl rfl (dT (by omega)) rfl rfl (W.skip rfl rfl rfl (dT (by omega)) rfl rfl (Wa (.pickT rfl (dT (by omega)) rfl) rfl ?_)))
   have hgt:d<qh:=by rw[j];exact dig_gt hY hU (by omega) hi (by omega)
   have hd:qh*a=(qh-1)*a+a:=by rw[<-Nat.succ_mul];congr 1;omega
   have hinv:(qh-1)*a+(rh+a)=U:=by omega
   refine Nx (WC.condT rfl (Sn (WC.block (Sr (Wn 1 rfl (Wa (.subN (qh) (1) (qh-1) rfl rfl rfl rfl (by omega) (by omega)) rfl (Wn 1 rfl (Nx (Sr (Wn 2 rfl (Wa (.addN (rh) (a) (rh+a) rfl rfl rfl rfl (by omega)) rfl (Wn 1 rfl (Nx (Sr (Wn 2 rfl (Nx (WC.cond rfl (fun n=>?_) (fun n=>?_))))))))))))))))))
   ·have hqe:qh-1=d:=Nat.le_antisymm (by rw[j];exact dig_brk hY (by omega) m hinv (by omega) (by omega)) (by omega)
    refine WC.exit (E.blkX rfl (E.thenX (E.blkH (E.meet () (.cons rfl (.cons rfl (.cons rfl (.cons rfl (.cons rfl (.cons rfl (.cons rfl (.cons' rfl (int_eq (by rw[hqe])) (.nil _))))))))) ?_))))
    exact Ll
   refine WC.skip (E.blkN (E.again (qh-1,rh+a) (.of rfl) ?_ ?_))
   ·exact⟨Ll,hinv,by omega,by omega,by omega⟩
   first|omega|(simp only[];omega)
  refine Wn 1 rfl (W.rdg (Any.rd (.move rfl) _) rfl rfl rfl (dF (by omega)) rfl rfl (W.rdg (Any.rd (.move rfl) _) rfl rfl rfl (dF (by omega)) rfl rfl ?_))
  have hqb:qh*b<18446744073709551616:=Nat.lt_of_le_of_lt (Nat.mul_le_mul (show qh<=4294967295 by omega) (show b<=4294967295 by omega)) (by decide)
  refine W.rdg (Any.rd (.mulN (qh) (b) (qh*b) rfl rfl rfl rfl (Nat.mod_eq_of_lt hqb)) _) rfl rfl rfl (dF (by omega)) rfl rfl (W.rdg (Any.rd (.move rfl) _) rfl rfl rfl (dF (by omega)) rfl rfl (W.rdg (Any.rd (.mulN (4294967296) (rh) (4294967296*rh) rfl rfl rfl rfl (by omega)) _) rfl rfl rfl (dF (by omega)) rfl rfl (W.rdg (Any.rd (.move rfl) _) rfl rfl rfl (dF (by omega)) rfl rfl (W.rdg (Any.rd (.addN (4294967296*rh) (f) (4294967296*rh+f) rfl rfl rfl rfl (by omega)) _) rfl rfl rfl (dF (by omega)) rfl rfl (W.rdg (Any.rd (.gtr rfl rfl) _) rfl rfl rfl (dF (by omega)) rfl rfl ?_)))))
  refine Wa (.pickF rfl (dF (by omega)) rfl) rfl (Nx (WC.cond rfl (fun L=>?_) (fun L=>?_)))
  ·have hgt:d<qh:=by rw[j];exact dig_gt hY hU (by omega) hi (by omega)
   have hd:qh*a=(qh-1)*a+a:=by rw[<-Nat.succ_mul];congr 1;omega
   have hinv:(qh-1)*a+(rh+a)=U:=by omega
   refine Sn (WC.block (Sr (Wn 1 rfl (Wa (.subN (qh) (1) (qh-1) rfl rfl rfl rfl (by omega) (by omega)) rfl (Wn 1 rfl (Nx (Sr (Wn 2 rfl (Wa (.addN (rh) (a) (rh+a) rfl rfl rfl rfl (by omega)) rfl (Wn 1 rfl (Nx (Sr (Wn 2 rfl (Nx (WC.cond rfl (fun n=>?_) (fun n=>?_))))))))))))))))
   ·have hqe:qh-1=d:=Nat.le_antisymm (by rw[j];exact dig_brk hY (by omega) m hinv (by omega) (by omega)) (by omega)
    refine WC.exit (E.blkX rfl (E.thenX (E.blkH (E.meet () (.cons rfl (.cons rfl (.cons rfl (.cons rfl (.cons rfl (.cons rfl (.cons rfl (.cons' rfl (int_eq (by rw[hqe])) (.nil _))))))))) ?_))))
    exact Ll
   refine WC.skip (E.blkN (E.again (qh-1,rh+a) (.of rfl) ?_ ?_))
   ·exact⟨Ll,hinv,by omega,by omega,by omega⟩
   first|omega|(simp only[];omega)
  have hqe:qh=d:=Nat.le_antisymm (by rw[j];exact dig_le hY (by omega) hi (by omega)) hq
  refine WC.exit (E.thenX (E.thenX (E.blkH (E.meet () (.cons rfl (.cons rfl (.cons rfl (.cons rfl (.cons rfl (.cons rfl (.cons rfl (.cons' rfl (int_eq (by rw[hqe])) (.nil _))))))))) ?_))))
  exact Ll
 rintro⟨⟩ u N
 refine Sr (Wn 1 rfl (Wa (.mulN (U) (4294967296) (U*4294967296%18446744073709551616) rfl rfl rfl rfl (rfl)) rfl (Wn 1 rfl (Wa (.addN (U*4294967296%18446744073709551616) (f) ((U*4294967296+f)%18446744073709551616) rfl rfl rfl rfl (by rw[Nat.mod_add_mod])) rfl ?_))))
 refine Wn 2 rfl (Wa (.mulN (d) (Y) (d*Y%18446744073709551616) rfl rfl rfl rfl (rfl)) rfl (Wa (.subN ((U*4294967296+f)%18446744073709551616) (d*Y%18446744073709551616) (R) rfl rfl rfl rfl (Nat.le_of_lt (Nat.mod_lt _ (by decide))) ((dig_rest Y _ _ j (by omega) (by omega)).trans hR.symm)) rfl (Wn 1 rfl (Nx (Sr (Wn 2 rfl (Wa (.quoN (R) (a) (R/a) rfl rfl rfl rfl (by omega) (by omega) (rfl)) rfl (Wn 1 rfl (Nx (Sr (Wn 3 rfl ?_)))))))))))
 refine Wa (.mulN (R/a) (a) (R/a*a) rfl rfl rfl rfl (Nat.mod_eq_of_lt (Nat.lt_of_le_of_lt (Nat.div_mul_le_self _ _) (by omega)))) rfl (Wa (.subN (R) (R/a*a) (R%a) rfl rfl rfl rfl (Nat.le_trans (Nat.div_mul_le_self _ _) (by omega)) (sub_div R a (by omega))) rfl (Wn 1 rfl (Nx (WC.cut (ι:=Unit) (fun()=>[(2,.int .u64 ((Y:Nat):Int)),(8,.int .u64 (3:Int)),(9,.int .u64 ((a:Nat):Int)),(10,.int .u64 ((b:Nat):Int)),(14,.int .u64 ((c:Nat):Int)),(17,.int .u64 ((R:Nat):Int)),(15,.int .u64 ((d:Nat):Int)),(18,.int .u64 ((i:Nat):Int))]) (fun() x=>Le w x) ?_ ?_))))
 ·refine WC.block (WC.loop (ι:=Nat×Nat) (fun⟨qh,rh⟩=>[(2,.int .u64 ((Y:Nat):Int)),(8,.int .u64 (3:Int)),(9,.int .u64 ((a:Nat):Int)),(10,.int .u64 ((b:Nat):Int)),(14,.int .u64 ((c:Nat):Int)),(17,.int .u64 ((R:Nat):Int)),(15,.int .u64 ((d:Nat):Int)),(18,.int .u64 ((qh:Nat):Int)),(16,.int .u64 ((rh:Nat):Int))]) (fun⟨qh,rh⟩ wl=>Le w wl/\qh*a+rh=R/\i<=qh/\rh<4294967296/\qh<=4294967297) (fun⟨qh,rh⟩=>qh) (R/a,R%a) ?_ ?_ ?_)
  ·exact .of rfl
  ·exact⟨N,by rw[Nat.mul_comm];exact Nat.div_add_mod _ _,by rw[k];exact dig_start hY (by omega) hRY (by omega),Nat.lt_of_lt_of_le (Nat.mod_lt _ (by omega)) (by omega),dig_first hY (by omega) (by omega) hRY⟩
  rintro⟨qh,rh⟩ wl ⟨Ll,hi,hq,hr,K⟩
  refine Sq (Sr (Wn 2 rfl ?_))
  by_cases hb:4294967296<=qh
  ·refine Wn 1 rfl (W.skip rfl rfl rfl (dT (by omega)) rfl rfl (W.skip rfl rfl rfl (dT (by omega)) rfl rfl (W.skip rfl rfl rfl (dT (by omega)) rfl rfl (W.skip rfl rfl rfl (dT (by omega)) rfl rfl (W.skip rfl rfl rfl (dT (by omega)) rfl rfl ?_)))))
   refine W.skip rfl rfl rfl (dT (by omega)) rfl rfl (W.skip rfl rfl rfl (dT (by omega)) rfl rfl (W.skip rfl rfl rfl (dT (by omega)) rfl rfl (Wa (.pickT rfl (dT (by omega)) rfl) rfl ?_)))
   have hgt:i<qh:=by rw[k];exact dig_gt hY hRY (by omega) hi (by omega)
   have hd:qh*a=(qh-1)*a+a:=by rw[<-Nat.succ_mul];congr 1;omega
   have hinv:(qh-1)*a+(rh+a)=R:=by omega
   refine Nx (WC.condT rfl (Sn (WC.block (Sr (Wn 1 rfl (Wa (.subN (qh) (1) (qh-1) rfl rfl rfl rfl (by omega) (by omega)) rfl (Wn 1 rfl (Nx (Sr (Wn 2 rfl (Wa (.addN (rh) (a) (rh+a) rfl rfl rfl rfl (by omega)) rfl (Wn 1 rfl (Nx (Sr (Wn 2 rfl (Nx (WC.cond rfl (fun o=>?_) (fun o=>?_))))))))))))))))))
   ·have hqe:qh-1=i:=Nat.le_antisymm (by rw[k];exact dig_brk hY (by omega) m hinv (by omega) (by omega)) (by omega)
    refine WC.exit (E.blkX rfl (E.thenX (E.blkH (E.meet () (.cons rfl (.cons rfl (.cons rfl (.cons rfl (.cons rfl (.cons rfl (.cons rfl (.cons' rfl (int_eq (by rw[hqe])) (.nil _))))))))) ?_))))
    exact Ll
   refine WC.skip (E.blkN (E.again (qh-1,rh+a) (.of rfl) ?_ ?_))
   ·exact⟨Ll,hinv,by omega,by omega,by omega⟩
   first|omega|(simp only[];omega)
  refine Wn 1 rfl (W.rdg (Any.rd (.move rfl) _) rfl rfl rfl (dF (by omega)) rfl rfl (W.rdg (Any.rd (.move rfl) _) rfl rfl rfl (dF (by omega)) rfl rfl ?_))
  have hqb:qh*b<18446744073709551616:=Nat.lt_of_le_of_lt (Nat.mul_le_mul (show qh<=4294967295 by omega) (show b<=4294967295 by omega)) (by decide)
  refine W.rdg (Any.rd (.mulN (qh) (b) (qh*b) rfl rfl rfl rfl (Nat.mod_eq_of_lt hqb)) _) rfl rfl rfl (dF (by omega)) rfl rfl (W.rdg (Any.rd (.move rfl) _) rfl rfl rfl (dF (by omega)) rfl rfl (W.rdg (Any.rd (.mulN (4294967296) (rh) (4294967296*rh) rfl rfl rfl rfl (by omega)) _) rfl rfl rfl (dF (by omega)) rfl rfl (W.rdg (Any.rd (.move rfl) _) rfl rfl rfl (dF (by omega)) rfl rfl (W.rdg (Any.rd (.addN (4294967296*rh) (c) (4294967296*rh+c) rfl rfl rfl rfl (by omega)) _) rfl rfl rfl (dF (by omega)) rfl rfl (W.rdg (Any.rd (.gtr rfl rfl) _) rfl rfl rfl (dF (by omega)) rfl rfl ?_)))))
  refine Wa (.pickF rfl (dF (by omega)) rfl) rfl (Nx (WC.cond rfl (fun O=>?_) (fun O=>?_)))
  ·have hgt:i<qh:=by rw[k];exact dig_gt hY hRY (by omega) hi (by omega)
   have hd:qh*a=(qh-1)*a+a:=by rw[<-Nat.succ_mul];congr 1;omega
   have hinv:(qh-1)*a+(rh+a)=R:=by omega
   refine Sn (WC.block (Sr (Wn 1 rfl (Wa (.subN (qh) (1) (qh-1) rfl rfl rfl rfl (by omega) (by omega)) rfl (Wn 1 rfl (Nx (Sr (Wn 2 rfl (Wa (.addN (rh) (a) (rh+a) rfl rfl rfl rfl (by omega)) rfl (Wn 1 rfl (Nx (Sr (Wn 2 rfl (Nx (WC.cond rfl (fun o=>?_) (fun o=>?_))))))))))))))))
   ·have hqe:qh-1=i:=Nat.le_antisymm (by rw[k];exact dig_brk hY (by omega) m hinv (by omega) (by omega)) (by omega)
    refine WC.exit (E.blkX rfl (E.thenX (E.blkH (E.meet () (.cons rfl (.cons rfl (.cons rfl (.cons rfl (.cons rfl (.cons rfl (.cons rfl (.cons' rfl (int_eq (by rw[hqe])) (.nil _))))))))) ?_))))
    exact Ll
   refine WC.skip (E.blkN (E.again (qh-1,rh+a) (.of rfl) ?_ ?_))
   ·exact⟨Ll,hinv,by omega,by omega,by omega⟩
   first|omega|(simp only[];omega)
  have hqe:qh=i:=Nat.le_antisymm (by rw[k];exact dig_le hY (by omega) hi (by omega)) hq
  refine WC.exit (E.thenX (E.thenX (E.blkH (E.meet () (.cons rfl (.cons rfl (.cons rfl (.cons rfl (.cons rfl (.cons rfl (.cons rfl (.cons' rfl (int_eq (by rw[hqe])) (.nil _))))))))) ?_))))
  exact Ll
 rintro⟨⟩ x P
 refine Sr (Wn 1 rfl (Wa (.mulN (d) (4294967296) (d*4294967296%18446744073709551616) rfl rfl rfl rfl (rfl)) rfl (Wn 1 rfl (Wa (.addN (d*4294967296%18446744073709551616) (i) ((d*4294967296%18446744073709551616+i)%18446744073709551616) rfl rfl rfl rfl (rfl)) rfl (Wn 1 rfl (Wa (.mulN (R) (4294967296) (R*4294967296%18446744073709551616) rfl rfl rfl rfl (rfl)) rfl ?_))))))
 refine Wn 1 rfl (Wa (.addN (R*4294967296%18446744073709551616) (c) ((R*4294967296+c)%18446744073709551616) rfl rfl rfl rfl (by rw[Nat.mod_add_mod])) rfl ?_)
 refine Wn 2 rfl (Wa (.mulN (i) (Y) (i*Y%18446744073709551616) rfl rfl rfl rfl (rfl)) rfl (Wa (.subN ((R*4294967296+c)%18446744073709551616) (i*Y%18446744073709551616) ((R*4294967296+c)%Y) rfl rfl rfl rfl (Nat.le_of_lt (Nat.mod_lt _ (by decide))) (dig_rest Y _ _ k (by omega) (by omega))) rfl (Wn 1 rfl (Wa (.shrE ((R*4294967296+c)%Y) (3) ((h*18446744073709551616+l)%y) rfl rfl rfl rfl (by decide) (hfin)) rfl (Wn 2 rfl (Nx (Rt ?_)))))))
 refine E.ret2 rfl rfl rfl ?_
 exact⟨_,rfl,P⟩

theorem rem64_ok (h l y:Nat)(h1:1152921504606846976<=y)(h2:y<4611686018427387904)(hl:l<18446744073709551616)(w:World):Calls prog 243 #[.int .u64 ((h:Nat):Int),.int .u64 ((l:Nat):Int),.int .u64 ((y:Nat):Int)] w fun e w'=>e= .returned (.int .u64 (((h*18446744073709551616+l)%y:Nat):Int))/\Le w w':=by
 have hd:∀w,Calls prog 301 #[.int .u64 ((h%y:Nat):Int),.int .u64 ((l:Nat):Int),.int .u64 ((y:Nat):Int)] w fun e w'=>∃qq:Int,e= .returned (.tuple #[.int .u64 qq,.int .u64 (((h*18446744073709551616+l)%y:Nat):Int)])/\Le w w':=fun w=>by
  rw[show(h*18446744073709551616+l)%y=(h%y*18446744073709551616+l)%y by rw[Nat.add_mod (h%y*_),Nat.mul_mod (h%y),Nat.mod_mod,<-Nat.mul_mod,<-Nat.add_mod]]
  by_cases hs:y<2305843009213693952
  ·exact div64_ok3 (h%y) l y (by omega) (by omega) (Nat.mod_lt _ (by omega)) hl w
  exact div64_ok2 (h%y) l y (by omega) (by omega) (Nat.mod_lt _ (by omega)) hl w
 refine enter func243 rfl rfl ?_
 have b:=Le.refl w
 refine Sr (Wn 1 rfl (Nx (Sr (Wn 2 rfl (Wa (.remN (h) (y) (h%y) rfl rfl rfl rfl (by omega) (rfl)) rfl (Wn 2 rfl (W.cl go301 rfl rfl (hd w) ?_)))))))
 rintro _ f ⟨qq,rfl,c⟩
 have d:=b.trans c
 refine Wn 1 rfl (Wa (.extract rfl rfl) rfl (Wa (.extract rfl rfl) rfl (Wn 2 rfl (Nx (Sr (Wn 2 rfl (Nx (Rt (E.ret1 rfl rfl ?_)))))))))
 exact⟨rfl,d⟩
end Go.Proofs.YtocheaahlpiajaaGreatDoor

namespace Go.Proofs.YtocheaahlpiajaaGreatDoor
open Tryz
open Go Go.Sx
set_option maxRecDepth 20000
structure Hid (p:Prop):Prop where
  out:p
theorem divQ (c V T K h l y Y U v e1 e0 R Q1 Q2:Nat)(hc:0<c)(hcV:c*V=T)(hK:K*K=T)(hy:0<y)(hY:Y=y*c)(hU:U=h*c+l/V)(hv:v=l*c%T)(h1:e1=v/K)(h0:e0=v%K)(hR:R=(U*K+e1)%Y)(hQ1:Q1=(U*K+e1)/Y)(hQ2:Q2=(R*K+e0)/Y):
    (R*K+e0)%Y/c=(h*T+l)%y/\Q1*K+Q2=(h*T+l)/y:=by
  have j:0<Y:=by rw[hY];exact Nat.mul_pos hy hc
  have k:K*e1+e0=v:=by rw[h1,h0];exact Nat.div_add_mod v K
  have m:T*(l/V)+v=l*c:=by
    have:l*c/T=l/V:=by rw[<-hcV,Nat.mul_comm c V];exact Nat.mul_div_mul_right l V hc
    rw[<-this,hv];exact Nat.div_add_mod _ _
  have e:(U*K+e1)*K+e0=(h*T+l)*c:=by
    rw[Nat.add_mul,Nat.mul_assoc,hK,Nat.mul_comm e1,Nat.add_assoc,k,hU,Nat.add_mul,Nat.mul_comm (l/V),Nat.add_assoc,m,Nat.add_mul,Nat.mul_right_comm]
  have n:Y*Q1+R=U*K+e1:=by rw[hQ1,hR];exact Nat.div_add_mod _ _
  have d:Y*Q2+(R*K+e0)%Y=R*K+e0:=by rw[hQ2];exact Nat.div_add_mod _ _
  have b:(R*K+e0)%Y<Y:=Nat.mod_lt _ j
  obtain⟨r,hr⟩:∃r,r=(R*K+e0)%Y:=⟨_,rfl⟩
  rw[<-hr]at d b ⊢
  obtain⟨N,hN⟩:∃N,N=h*T+l:=⟨_,rfl⟩
  rw[<-hN]at e ⊢
  obtain⟨G,hG⟩:∃G,G=Q1*K+Q2:=⟨_,rfl⟩
  rw[<-hG]
  have o:y*G*c+r=N*c:=by
    rw[<-e,<-n,Nat.add_mul,Nat.add_assoc,<-d,hG,hY,Nat.mul_right_comm,Nat.mul_add,Nat.mul_assoc (y*c),Nat.add_assoc]
  have s:y*G<=N:=Nat.le_of_mul_le_mul_right (by omega) hc
  obtain⟨D,hD⟩:=Nat.le.dest s
  have f:r=D*c:=by rw[<-hD,Nat.add_mul]at o;omega
  have i:D<y:=by rw[f,hY]at b;exact Nat.lt_of_mul_lt_mul_right b
  rw[f,Nat.mul_div_cancel _ hc,<-hD,Nat.mul_add_mod,Nat.mod_eq_of_lt i,Nat.mul_add_div hy,Nat.div_eq_of_lt i]
  exact⟨rfl,rfl⟩
theorem div44 (h l y:Nat)(h1:524288<=y)(h2:y<1048576)(hh:h<y)(hl:l<18446744073709551616):
    ∃Y H G U v,Hid (y*2^44%18446744073709551616=Y)/\Hid (h*2^44%18446744073709551616=H)/\Hid (l/2^20=G)/\Hid (H|||G=U)/\Hid (l*2^44%18446744073709551616=v)/\9223372036854775808<=Y/\Y<18446744073709551616/\U<Y/\v<18446744073709551616/\H<18446744073709551616/\G<18446744073709551616/\
      ∀e1 e0 R Q1 Q2,e1=v/4294967296->e0=v%4294967296->R=(U*4294967296+e1)%Y->Q1=(U*4294967296+e1)/Y->Q2=(R*4294967296+e0)/Y->
        Hid ((R*4294967296+e0)%Y/2^44=(h*18446744073709551616+l)%y)/\Hid ((Q1*4294967296%18446744073709551616+Q2)%18446744073709551616=(h*18446744073709551616+l)/y):=by
  have m:(2:Nat)^44=17592186044416:=by decide
  have n:(2:Nat)^20=1048576:=by decide
  have hG:l/2^20<2^44:=by rw[Nat.div_lt_iff_lt_mul (by decide)];exact Nat.lt_of_lt_of_le hl (by decide)
  have hHY:h*2^44+2^44<=y*2^44:=by rw[<-Nat.succ_mul];exact Nat.mul_le_mul_right _ hh
  have b:y*2^44<18446744073709551616:=Nat.lt_of_lt_of_le (Nat.mul_lt_mul_of_pos_right h2 (by decide)) (by decide)
  have c:9223372036854775808<=y*2^44:=Nat.le_trans (by decide) (Nat.mul_le_mul_right (2^44) h1)
  have hH:h*2^44%18446744073709551616=h*2^44:=Nat.mod_eq_of_lt (Nat.lt_of_le_of_lt (Nat.le_trans (Nat.le_add_right _ _) hHY) b)
  have hor:h*2^44|||l/2^20=h*2^44+l/2^20:=by rw[Nat.mul_comm h];exact(Nat.two_pow_add_eq_or_of_lt hG h).symm
  refine⟨y*2^44,h*2^44,l/2^20,h*2^44+l/2^20,l*2^44%18446744073709551616,⟨Nat.mod_eq_of_lt b⟩,⟨hH⟩,⟨rfl⟩,⟨hor⟩,⟨rfl⟩,c,b,Nat.lt_of_lt_of_le (Nat.add_lt_add_left hG _) hHY,Nat.mod_lt _ (by decide),by rw[<-hH];exact Nat.mod_lt _ (by decide),Nat.lt_trans hG (by decide),?_⟩
  intro e1 e0 R Q1 Q2 d e hR f i
  obtain⟨j,k⟩:=divQ (2^44) (2^20) 18446744073709551616 4294967296 h l y _ _ _ e1 e0 R Q1 Q2 (by decide) (by decide) (by decide) (by omega) rfl rfl rfl d e hR f i
  refine⟨⟨j⟩,⟨?_⟩⟩
  rw[Nat.mod_add_mod,k]
  apply Nat.mod_eq_of_lt
  rw[Nat.div_lt_iff_lt_mul (by omega)]
  exact Nat.lt_of_lt_of_le (show h*18446744073709551616+l<(h+1)*18446744073709551616 from by rw[Nat.succ_mul];exact Nat.add_lt_add_left hl _) (by rw[Nat.mul_comm 18446744073709551616 y];exact Nat.mul_le_mul_right _ hh)
theorem len8b:∀m,8<=m->m<16->tab8[m]? =some 4:=by
  have h:∀m:Fin 16,8<=m.val->tab8[m.val]? =some 4:=by decide+kernel
  exact fun m b c=>h ⟨m,c⟩ b

theorem len64_20 (y:Nat)(h1:524288<=y)(h2:y<1048576)(w:World):Calls prog 326 #[.int .u64 ((y:Nat):Int)] w fun e w'=>e= .returned (.int .i64 20)/\Le w w':=by
 refine enter func326 rfl rfl (Sr (Wn 1 rfl (Nx (Sq (Sr (Wn 2 rfl (Nx (WC.condB rfl (fun h=>absurd h (by simp;omega)) (fun _=>?_)))))))))
 refine Sn (Sq (Sr (Wn 2 rfl (Nx (WC.condB rfl (fun _=>?_) (fun h=>absurd h (by simp;omega)))))))
 refine Sr (Wn 1 rfl (Wa (.shrE (y) (16) (y/65536) rfl rfl rfl rfl (by decide) (by omega)) rfl (Wn 1 rfl (Nx (WC.region (Wn 1 rfl (Wa (.add rfl rfl (by omega)) rfl (Wn 1 rfl (Nx (Sq (Sr (Wn 2 rfl (Nx (WC.condB rfl (fun h=>absurd h (by simp;omega)) (fun _=>?_)))))))))))))))
 refine Sn (Sr (Wn 2 rfl (Wr (.toU8 (y/65536) (isS underlying27) underlying5 rfl rfl) rfl (Wa (.idxStr (y/65536) 4 underlying9 rfl rfl (by rw[BitVec.toNat_ofNat,Nat.mod_eq_of_lt (by omega)]) (len8b (y/65536) (by omega) (by omega))) rfl ?_))))
 refine Wr (.idI (isS underlying5) underlying3 rfl (IntWalk.i64_in _ (by decide))) rfl (Wa (.add rfl rfl (by decide)) rfl (Wn 1 rfl (Nx (Rt (E.ret1 rfl rfl ?_)))))
 exact⟨rfl,(Le.refl w)⟩

theorem lz64_20 (y:Nat)(h1:524288<=y)(h2:y<1048576)(w:World):Calls prog 334 #[.int .u64 ((y:Nat):Int)] w fun e w'=>e= .returned (.int .i64 44)/\Le w w':=by
 refine enter func334 rfl rfl ?_
 have b:=Le.refl w
 refine Sr (Wn 1 rfl (Nx (Sr (Wn 1 rfl (W.cl go326 rfl rfl (len64_20 y h1 h2 w) ?_)))))
 rintro _ f ⟨rfl,c⟩
 have d:=b.trans c
 refine Wa (.sub rfl rfl (by decide)) rfl (Wn 1 rfl (Nx (Rt (E.ret1 rfl rfl ?_))))
 exact⟨rfl,d⟩

theorem div64_q44 (h l y:Nat)(h1:524288<=y)(h2:y<1048576)(hh:h<y)(hl:l<18446744073709551616)(w:World):Calls prog 301 #[.int .u64 ((h:Nat):Int),.int .u64 ((l:Nat):Int),.int .u64 ((y:Nat):Int)] w fun e w'=>e= .returned (.tuple #[.int .u64 (((h*18446744073709551616+l)/y:Nat):Int),.int .u64 (((h*18446744073709551616+l)%y:Nat):Int)])/\Le w w':=by
 obtain⟨Y,Hn,Gn,U,v,fY,fH,fG,fU,fv,hYlo,hYhi,hU,Q,S,T,fin⟩:=div44 h l y (by omega) (by omega) hh hl
 obtain⟨a,ha⟩:∃a,a=Y/4294967296:=⟨_,rfl⟩
 obtain⟨b,z⟩:∃b,b=Y%4294967296:=⟨_,rfl⟩
 obtain⟨i,A⟩:∃i,i=v/4294967296:=⟨_,rfl⟩
 obtain⟨d,s⟩:∃d,d=v%4294967296:=⟨_,rfl⟩
 have hY:Y=a*4294967296+b:=by omega
 have V:2147483648<=a:=by omega
 have X:a<4294967296:=by omega
 have m:b<4294967296:=by omega
 have Z:i<4294967296:=by omega
 have aa:d<4294967296:=by omega
 obtain⟨R,hR⟩:∃R,R=(U*4294967296+i)%Y:=⟨_,rfl⟩
 obtain⟨c,j⟩:∃c,c=(U*4294967296+i)/Y:=⟨_,rfl⟩
 obtain⟨f,k⟩:∃f,f=(R*4294967296+d)/Y:=⟨_,rfl⟩
 have hRY:R<Y:=by rw[hR];exact Nat.mod_lt _ (by omega)
 obtain⟨hfin,hquo⟩:=fin i d R c f A s hR j k
 have hlz:∀w,Calls prog 334 #[.int .u64 ((y:Nat):Int)] w (fun e w'=>e= .returned (.int .i64 44)/\Le w w'):=fun w=>by
  exact lz64_20 y (by omega) (by omega) w
 refine enter func301 rfl rfl ?_
 have t:=Le.refl w
 refine Sr (Wn 2 rfl (Nx (Sq (Sr (Wn 2 rfl (Nx (WC.condB rfl (fun h=>absurd h (by simp;omega)) (fun _=>?_))))))))
 refine Sn (Sq (Sr (Wn 3 rfl (Nx (WC.condB rfl (fun h=>absurd h (by simp;omega)) (fun _=>?_))))))
 refine Sn (Sq (Sr (Wn 2 rfl (Nx (WC.cond rfl (fun C=>?_) (fun C=>?_))))))
 ·have D:h=0:=by omega
  subst D
  refine Sq (WC.draw [0,1,2,3,4,5,6,7] mixed (by kernel_rfl) fun w6 F=>?_)
  have H:=t.trans F
  refine G.run 2 rfl (Ga rfl (.quoN (l) (y) (l/y) rfl rfl rfl rfl (by omega) (by omega) (rfl)) (G.run 2 rfl (Ga rfl (.remN (l) (y) (l%y) rfl rfl rfl rfl (by omega) (rfl)) (G.run 2 rfl (G.nil (E.thenN (Rt (E.thenR (E.ret2 rfl rfl rfl ?_)))))))))
  exact⟨by rw[Nat.zero_mul,Nat.zero_add],H⟩
 refine Sn (Sr (Wn 1 rfl (W.cl go334 rfl rfl (hlz w) ?_)))
 rintro _ ab ⟨rfl,I⟩
 have J:=t.trans I
 refine Wr (.idI (isS underlying3) underlying287 rfl (IntWalk.u64_in _ (by decide))) rfl (Wn 1 rfl (Nx (Sr (Wn 2 rfl (Wa (.shlN (y) (44) (Y) rfl rfl rfl rfl (by decide) (fY.out)) rfl (Wn 1 rfl (Nx (Sr (Wn 1 rfl (Wa (.shrE (Y) (32) (a) rfl rfl rfl rfl (by decide) (by omega)) rfl (Wn 1 rfl (Nx (Sr (Wn 1 rfl ?_))))))))))))))
 refine Wa (.andE (Y) (4294967295) (b) rfl rfl rfl rfl (by omega) (by omega) ((mask32 _).trans z.symm)) rfl (Wn 1 rfl (Nx (Sr (Wn 2 rfl (Wa (.shlN (h) (44) (Hn) rfl rfl rfl rfl (by decide) (fH.out)) rfl (Wn 2 rfl (Wa (.subN (64) (44) (20) rfl rfl rfl rfl (by decide) (by decide)) rfl (Wa (.shrE (l) (20) (Gn) rfl rfl rfl rfl (by decide) (fG.out)) rfl ?_))))))))
 refine Wa (.orE (Hn) (Gn) (U) rfl rfl rfl rfl (by omega) (by omega) (fU.out)) rfl (Wn 1 rfl (Nx (Sr (Wn 2 rfl (Wa (.shlN (l) (44) (v) rfl rfl rfl rfl (by decide) (fv.out)) rfl (Wn 1 rfl (Nx (Sr (Wn 1 rfl (Wa (.shrE (v) (32) (i) rfl rfl rfl rfl (by decide) (by omega)) rfl (Wn 1 rfl (Nx (Sr (Wn 1 rfl ?_))))))))))))))
 refine Wa (.andE (v) (4294967295) (d) rfl rfl rfl rfl (by omega) (by omega) ((mask32 _).trans s.symm)) rfl (Wn 1 rfl (Nx (Sr (Wn 2 rfl (Wa (.quoN (U) (a) (U/a) rfl rfl rfl rfl (by omega) (by omega) (rfl)) rfl (Wn 1 rfl (Nx (Sr (Wn 3 rfl (Wa (.mulN (U/a) (a) (U/a*a) rfl rfl rfl rfl (Nat.mod_eq_of_lt (Nat.lt_of_le_of_lt (Nat.div_mul_le_self _ _) (by omega)))) rfl (Wa (.subN (U) (U/a*a) (U%a) rfl rfl rfl rfl (Nat.le_trans (Nat.div_mul_le_self _ _) (by omega)) (sub_div U a (by omega))) rfl ?_)))))))))))
 refine Wn 1 rfl (Nx (WC.cut (ι:=Unit) (fun()=>[(2,.int .u64 ((Y:Nat):Int)),(8,.int .u64 (44:Int)),(9,.int .u64 ((a:Nat):Int)),(10,.int .u64 ((b:Nat):Int)),(11,.int .u64 ((U:Nat):Int)),(13,.int .u64 ((i:Nat):Int)),(14,.int .u64 ((d:Nat):Int)),(15,.int .u64 ((c:Nat):Int))]) (fun() u=>Le w u) ?_ ?_))
 ·refine WC.block (WC.loop (ι:=Nat×Nat) (fun⟨qh,rh⟩=>[(2,.int .u64 ((Y:Nat):Int)),(8,.int .u64 (44:Int)),(9,.int .u64 ((a:Nat):Int)),(10,.int .u64 ((b:Nat):Int)),(11,.int .u64 ((U:Nat):Int)),(13,.int .u64 ((i:Nat):Int)),(14,.int .u64 ((d:Nat):Int)),(15,.int .u64 ((qh:Nat):Int)),(16,.int .u64 ((rh:Nat):Int))]) (fun⟨qh,rh⟩ wl=>Le w wl/\qh*a+rh=U/\c<=qh/\rh<4294967296/\qh<=4294967297) (fun⟨qh,rh⟩=>qh) (U/a,U%a) ?_ ?_ ?_)
  ·exact .of rfl
  ·exact⟨J,by rw[Nat.mul_comm];exact Nat.div_add_mod _ _,by rw[j];exact dig_start hY (by omega) hU (by omega),Nat.lt_of_lt_of_le (Nat.mod_lt _ (by omega)) (by omega),dig_first hY (by omega) (by omega) hU⟩
  rintro⟨qh,rh⟩ wl ⟨Ll,hi,hq,hr,K⟩
  refine Sq (Sr (Wn 2 rfl ?_))
  by_cases hb:4294967296<=qh
  ·refine Wn 1 rfl (W.skip rfl rfl rfl (dT (by omega)) rfl rfl (W.skip rfl rfl rfl (dT (by omega)) rfl rfl (W.skip rfl rfl rfl (dT (by omega)) rfl rfl (W.skip rfl rfl rfl (dT (by omega)) rfl rfl (W.skip rfl rfl rfl (dT (by omega)) rfl rfl ?_)))))
   refine W.skip rfl rfl rfl (dT (by omega)) rfl rfl (W.skip rfl rfl rfl (dT (by omega)) rfl rfl (W.skip rfl rfl rfl (dT (by omega)) rfl rfl (Wa (.pickT rfl (dT (by omega)) rfl) rfl ?_)))
   have hgt:c<qh:=by rw[j];exact dig_gt hY hU (by omega) hi (by omega)
   have hd:qh*a=(qh-1)*a+a:=by rw[<-Nat.succ_mul];congr 1;omega
   have hinv:(qh-1)*a+(rh+a)=U:=by omega
   refine Nx (WC.condT rfl (Sn (WC.block (Sr (Wn 1 rfl (Wa (.subN (qh) (1) (qh-1) rfl rfl rfl rfl (by omega) (by omega)) rfl (Wn 1 rfl (Nx (Sr (Wn 2 rfl (Wa (.addN (rh) (a) (rh+a) rfl rfl rfl rfl (by omega)) rfl (Wn 1 rfl (Nx (Sr (Wn 2 rfl (Nx (WC.cond rfl (fun n=>?_) (fun n=>?_))))))))))))))))))
   ·have hqe:qh-1=c:=Nat.le_antisymm (by rw[j];exact dig_brk hY (by omega) m hinv (by omega) (by omega)) (by omega)
    refine WC.exit (E.blkX rfl (E.thenX (E.blkH (E.meet () (.cons rfl (.cons rfl (.cons rfl (.cons rfl (.cons rfl (.cons rfl (.cons rfl (.cons' rfl (int_eq (by rw[hqe])) (.nil _))))))))) ?_))))
    exact Ll
   refine WC.skip (E.blkN (E.again (qh-1,rh+a) (.of rfl) ?_ ?_))
   ·exact⟨Ll,hinv,by omega,by omega,by omega⟩
   first|omega|(simp only[];omega)
  refine Wn 1 rfl (W.rdg (Any.rd (.move rfl) _) rfl rfl rfl (dF (by omega)) rfl rfl (W.rdg (Any.rd (.move rfl) _) rfl rfl rfl (dF (by omega)) rfl rfl ?_))
  have hqb:qh*b<18446744073709551616:=Nat.lt_of_le_of_lt (Nat.mul_le_mul (show qh<=4294967295 by omega) (show b<=4294967295 by omega)) (by decide)
  refine W.rdg (Any.rd (.mulN (qh) (b) (qh*b) rfl rfl rfl rfl (Nat.mod_eq_of_lt hqb)) _) rfl rfl rfl (dF (by omega)) rfl rfl (W.rdg (Any.rd (.move rfl) _) rfl rfl rfl (dF (by omega)) rfl rfl (W.rdg (Any.rd (.mulN (4294967296) (rh) (4294967296*rh) rfl rfl rfl rfl (by omega)) _) rfl rfl rfl (dF (by omega)) rfl rfl (W.rdg (Any.rd (.move rfl) _) rfl rfl rfl (dF (by omega)) rfl rfl (W.rdg (Any.rd (.addN (4294967296*rh) (i) (4294967296*rh+i) rfl rfl rfl rfl (by omega)) _) rfl rfl rfl (dF (by omega)) rfl rfl (W.rdg (Any.rd (.gtr rfl rfl) _) rfl rfl rfl (dF (by omega)) rfl rfl ?_)))))
  refine Wa (.pickF rfl (dF (by omega)) rfl) rfl (Nx (WC.cond rfl (fun L=>?_) (fun L=>?_)))
  ·have hgt:c<qh:=by rw[j];exact dig_gt hY hU (by omega) hi (by omega)
   have hd:qh*a=(qh-1)*a+a:=by rw[<-Nat.succ_mul];congr 1;omega
   have hinv:(qh-1)*a+(rh+a)=U:=by omega
   refine Sn (WC.block (Sr (Wn 1 rfl (Wa (.subN (qh) (1) (qh-1) rfl rfl rfl rfl (by omega) (by omega)) rfl (Wn 1 rfl (Nx (Sr (Wn 2 rfl (Wa (.addN (rh) (a) (rh+a) rfl rfl rfl rfl (by omega)) rfl (Wn 1 rfl (Nx (Sr (Wn 2 rfl (Nx (WC.cond rfl (fun n=>?_) (fun n=>?_))))))))))))))))
   ·have hqe:qh-1=c:=Nat.le_antisymm (by rw[j];exact dig_brk hY (by omega) m hinv (by omega) (by omega)) (by omega)
    refine WC.exit (E.blkX rfl (E.thenX (E.blkH (E.meet () (.cons rfl (.cons rfl (.cons rfl (.cons rfl (.cons rfl (.cons rfl (.cons rfl (.cons' rfl (int_eq (by rw[hqe])) (.nil _))))))))) ?_))))
    exact Ll
   refine WC.skip (E.blkN (E.again (qh-1,rh+a) (.of rfl) ?_ ?_))
   ·exact⟨Ll,hinv,by omega,by omega,by omega⟩
   first|omega|(simp only[];omega)
  have hqe:qh=c:=Nat.le_antisymm (by rw[j];exact dig_le hY (by omega) hi (by omega)) hq
  refine WC.exit (E.thenX (E.thenX (E.blkH (E.meet () (.cons rfl (.cons rfl (.cons rfl (.cons rfl (.cons rfl (.cons rfl (.cons rfl (.cons' rfl (int_eq (by rw[hqe])) (.nil _))))))))) ?_))))
  exact Ll
 rintro⟨⟩ u N
 refine Sr (Wn 1 rfl (Wa (.mulN (U) (4294967296) (U*4294967296%18446744073709551616) rfl rfl rfl rfl (rfl)) rfl (Wn 1 rfl (Wa (.addN (U*4294967296%18446744073709551616) (i) ((U*4294967296+i)%18446744073709551616) rfl rfl rfl rfl (by rw[Nat.mod_add_mod])) rfl ?_))))
 refine Wn 2 rfl (Wa (.mulN (c) (Y) (c*Y%18446744073709551616) rfl rfl rfl rfl (rfl)) rfl (Wa (.subN ((U*4294967296+i)%18446744073709551616) (c*Y%18446744073709551616) (R) rfl rfl rfl rfl (Nat.le_of_lt (Nat.mod_lt _ (by decide))) ((dig_rest Y _ _ j (by omega) (by omega)).trans hR.symm)) rfl (Wn 1 rfl (Nx (Sr (Wn 2 rfl (Wa (.quoN (R) (a) (R/a) rfl rfl rfl rfl (by omega) (by omega) (rfl)) rfl (Wn 1 rfl (Nx (Sr (Wn 3 rfl ?_)))))))))))
 refine Wa (.mulN (R/a) (a) (R/a*a) rfl rfl rfl rfl (Nat.mod_eq_of_lt (Nat.lt_of_le_of_lt (Nat.div_mul_le_self _ _) (by omega)))) rfl (Wa (.subN (R) (R/a*a) (R%a) rfl rfl rfl rfl (Nat.le_trans (Nat.div_mul_le_self _ _) (by omega)) (sub_div R a (by omega))) rfl (Wn 1 rfl (Nx (WC.cut (ι:=Unit) (fun()=>[(2,.int .u64 ((Y:Nat):Int)),(8,.int .u64 (44:Int)),(9,.int .u64 ((a:Nat):Int)),(10,.int .u64 ((b:Nat):Int)),(14,.int .u64 ((d:Nat):Int)),(17,.int .u64 ((R:Nat):Int)),(15,.int .u64 ((c:Nat):Int)),(18,.int .u64 ((f:Nat):Int))]) (fun() x=>Le w x) ?_ ?_))))
 ·refine WC.block (WC.loop (ι:=Nat×Nat) (fun⟨qh,rh⟩=>[(2,.int .u64 ((Y:Nat):Int)),(8,.int .u64 (44:Int)),(9,.int .u64 ((a:Nat):Int)),(10,.int .u64 ((b:Nat):Int)),(14,.int .u64 ((d:Nat):Int)),(17,.int .u64 ((R:Nat):Int)),(15,.int .u64 ((c:Nat):Int)),(18,.int .u64 ((qh:Nat):Int)),(16,.int .u64 ((rh:Nat):Int))]) (fun⟨qh,rh⟩ wl=>Le w wl/\qh*a+rh=R/\f<=qh/\rh<4294967296/\qh<=4294967297) (fun⟨qh,rh⟩=>qh) (R/a,R%a) ?_ ?_ ?_)
  ·exact .of rfl
  ·exact⟨N,by rw[Nat.mul_comm];exact Nat.div_add_mod _ _,by rw[k];exact dig_start hY (by omega) hRY (by omega),Nat.lt_of_lt_of_le (Nat.mod_lt _ (by omega)) (by omega),dig_first hY (by omega) (by omega) hRY⟩
  rintro⟨qh,rh⟩ wl ⟨Ll,hi,hq,hr,K⟩
  refine Sq (Sr (Wn 2 rfl ?_))
  by_cases hb:4294967296<=qh
  ·refine Wn 1 rfl (W.skip rfl rfl rfl (dT (by omega)) rfl rfl (W.skip rfl rfl rfl (dT (by omega)) rfl rfl (W.skip rfl rfl rfl (dT (by omega)) rfl rfl (W.skip rfl rfl rfl (dT (by omega)) rfl rfl (W.skip rfl rfl rfl (dT (by omega)) rfl rfl ?_)))))
   refine W.skip rfl rfl rfl (dT (by omega)) rfl rfl (W.skip rfl rfl rfl (dT (by omega)) rfl rfl (W.skip rfl rfl rfl (dT (by omega)) rfl rfl (Wa (.pickT rfl (dT (by omega)) rfl) rfl ?_)))
   have hgt:f<qh:=by rw[k];exact dig_gt hY hRY (by omega) hi (by omega)
   have hd:qh*a=(qh-1)*a+a:=by rw[<-Nat.succ_mul];congr 1;omega
   have hinv:(qh-1)*a+(rh+a)=R:=by omega
   refine Nx (WC.condT rfl (Sn (WC.block (Sr (Wn 1 rfl (Wa (.subN (qh) (1) (qh-1) rfl rfl rfl rfl (by omega) (by omega)) rfl (Wn 1 rfl (Nx (Sr (Wn 2 rfl (Wa (.addN (rh) (a) (rh+a) rfl rfl rfl rfl (by omega)) rfl (Wn 1 rfl (Nx (Sr (Wn 2 rfl (Nx (WC.cond rfl (fun o=>?_) (fun o=>?_))))))))))))))))))
   ·have hqe:qh-1=f:=Nat.le_antisymm (by rw[k];exact dig_brk hY (by omega) m hinv (by omega) (by omega)) (by omega)
    refine WC.exit (E.blkX rfl (E.thenX (E.blkH (E.meet () (.cons rfl (.cons rfl (.cons rfl (.cons rfl (.cons rfl (.cons rfl (.cons rfl (.cons' rfl (int_eq (by rw[hqe])) (.nil _))))))))) ?_))))
    exact Ll
   refine WC.skip (E.blkN (E.again (qh-1,rh+a) (.of rfl) ?_ ?_))
   ·exact⟨Ll,hinv,by omega,by omega,by omega⟩
   first|omega|(simp only[];omega)
  refine Wn 1 rfl (W.rdg (Any.rd (.move rfl) _) rfl rfl rfl (dF (by omega)) rfl rfl (W.rdg (Any.rd (.move rfl) _) rfl rfl rfl (dF (by omega)) rfl rfl ?_))
  have hqb:qh*b<18446744073709551616:=Nat.lt_of_le_of_lt (Nat.mul_le_mul (show qh<=4294967295 by omega) (show b<=4294967295 by omega)) (by decide)
  refine W.rdg (Any.rd (.mulN (qh) (b) (qh*b) rfl rfl rfl rfl (Nat.mod_eq_of_lt hqb)) _) rfl rfl rfl (dF (by omega)) rfl rfl (W.rdg (Any.rd (.move rfl) _) rfl rfl rfl (dF (by omega)) rfl rfl (W.rdg (Any.rd (.mulN (4294967296) (rh) (4294967296*rh) rfl rfl rfl rfl (by omega)) _) rfl rfl rfl (dF (by omega)) rfl rfl (W.rdg (Any.rd (.move rfl) _) rfl rfl rfl (dF (by omega)) rfl rfl (W.rdg (Any.rd (.addN (4294967296*rh) (d) (4294967296*rh+d) rfl rfl rfl rfl (by omega)) _) rfl rfl rfl (dF (by omega)) rfl rfl (W.rdg (Any.rd (.gtr rfl rfl) _) rfl rfl rfl (dF (by omega)) rfl rfl ?_)))))
  refine Wa (.pickF rfl (dF (by omega)) rfl) rfl (Nx (WC.cond rfl (fun O=>?_) (fun O=>?_)))
  ·have hgt:f<qh:=by rw[k];exact dig_gt hY hRY (by omega) hi (by omega)
   have hd:qh*a=(qh-1)*a+a:=by rw[<-Nat.succ_mul];congr 1;omega
   have hinv:(qh-1)*a+(rh+a)=R:=by omega
   refine Sn (WC.block (Sr (Wn 1 rfl (Wa (.subN (qh) (1) (qh-1) rfl rfl rfl rfl (by omega) (by omega)) rfl (Wn 1 rfl (Nx (Sr (Wn 2 rfl (Wa (.addN (rh) (a) (rh+a) rfl rfl rfl rfl (by omega)) rfl (Wn 1 rfl (Nx (Sr (Wn 2 rfl (Nx (WC.cond rfl (fun o=>?_) (fun o=>?_))))))))))))))))
   ·have hqe:qh-1=f:=Nat.le_antisymm (by rw[k];exact dig_brk hY (by omega) m hinv (by omega) (by omega)) (by omega)
    refine WC.exit (E.blkX rfl (E.thenX (E.blkH (E.meet () (.cons rfl (.cons rfl (.cons rfl (.cons rfl (.cons rfl (.cons rfl (.cons rfl (.cons' rfl (int_eq (by rw[hqe])) (.nil _))))))))) ?_))))
    exact Ll
   refine WC.skip (E.blkN (E.again (qh-1,rh+a) (.of rfl) ?_ ?_))
   ·exact⟨Ll,hinv,by omega,by omega,by omega⟩
   first|omega|(simp only[];omega)
  have hqe:qh=f:=Nat.le_antisymm (by rw[k];exact dig_le hY (by omega) hi (by omega)) hq
  refine WC.exit (E.thenX (E.thenX (E.blkH (E.meet () (.cons rfl (.cons rfl (.cons rfl (.cons rfl (.cons rfl (.cons rfl (.cons rfl (.cons' rfl (int_eq (by rw[hqe])) (.nil _))))))))) ?_))))
  exact Ll
 rintro⟨⟩ x P
 refine Sr (Wn 1 rfl (Wa (.mulN (c) (4294967296) (c*4294967296%18446744073709551616) rfl rfl rfl rfl (rfl)) rfl (Wn 1 rfl (Wa (.addN (c*4294967296%18446744073709551616) (f) ((c*4294967296%18446744073709551616+f)%18446744073709551616) rfl rfl rfl rfl (rfl)) rfl (Wn 1 rfl (Wa (.mulN (R) (4294967296) (R*4294967296%18446744073709551616) rfl rfl rfl rfl (rfl)) rfl ?_))))))
 refine Wn 1 rfl (Wa (.addN (R*4294967296%18446744073709551616) (d) ((R*4294967296+d)%18446744073709551616) rfl rfl rfl rfl (by rw[Nat.mod_add_mod])) rfl ?_)
 refine Wn 2 rfl (Wa (.mulN (f) (Y) (f*Y%18446744073709551616) rfl rfl rfl rfl (rfl)) rfl (Wa (.subN ((R*4294967296+d)%18446744073709551616) (f*Y%18446744073709551616) ((R*4294967296+d)%Y) rfl rfl rfl rfl (Nat.le_of_lt (Nat.mod_lt _ (by decide))) (dig_rest Y _ _ k (by omega) (by omega))) rfl (Wn 1 rfl (Wa (.shrE ((R*4294967296+d)%Y) (44) ((h*18446744073709551616+l)%y) rfl rfl rfl rfl (by decide) (hfin.out)) rfl (Wn 2 rfl (Nx (Rt ?_)))))))
 refine E.ret2 rfl rfl rfl ?_
 exact⟨by rw[hquo.out],P⟩
end Go.Proofs.YtocheaahlpiajaaGreatDoor

namespace Go.Proofs.YtocheaahlpiajaaGreatDoor
open Tryz
open Go Go.Sx Go.Num
set_option maxRecDepth 20000
theorem times_ok (a b:Nat)(ha:a<18446744073709551616)(hb:b<18446744073709551616)(w:World):Calls prog 244 #[.int .u64 ((a:Nat):Int),.int .u64 ((b:Nat):Int)] w fun e w'=>e= .returned (.int .u64 ((a*b%M:Nat):Int))/\Le w w':=by
 refine enter func244 rfl rfl ?_
 have c:=Le.refl w
 refine Sr (Wn 1 rfl (Nx (Sr (Wn 2 rfl (W.cl go302 rfl rfl (mul64_ok a b ha hb w) ?_)))))
 rintro _ d ⟨rfl,f⟩
 have h:=c.trans f
 refine Wn 1 rfl (Wa (.extract rfl rfl) rfl (Wa (.extract rfl rfl) rfl (Wn 2 rfl (Nx (Sr (Wn 2 rfl (W.cl go243 rfl rfl (rem64_ok (a*b/18446744073709551616) (a*b%18446744073709551616) 4611686018427377339 (by decide) (by decide) (Nat.mod_lt _ (by decide)) d) ?_)))))))
 rintro _ k ⟨rfl,i⟩
 have j:=h.trans i
 refine Wn 1 rfl (Nx (Rt (E.ret1 rfl rfl ?_)))
 exact⟨by rw[Nat.div_add_mod'];rfl,j⟩

theorem ntimes_ok (a b:Nat)(ha:a<18446744073709551616)(hb:b<18446744073709551616)(w:World):Calls prog 281 #[.int .u64 ((a:Nat):Int),.int .u64 ((b:Nat):Int)] w fun e w'=>e= .returned (.int .u64 ((a*b%q:Nat):Int))/\Le w w':=by
 refine enter func281 rfl rfl ?_
 have c:=Le.refl w
 refine Sr (Wn 1 rfl (Nx (Sr (Wn 2 rfl (W.cl go302 rfl rfl (mul64_ok a b ha hb w) ?_)))))
 rintro _ d ⟨rfl,f⟩
 have h:=c.trans f
 refine Wn 1 rfl (Wa (.extract rfl rfl) rfl (Wa (.extract rfl rfl) rfl (Wn 2 rfl (Nx (Sr (Wn 2 rfl (W.cl go243 rfl rfl (rem64_ok (a*b/18446744073709551616) (a*b%18446744073709551616) 2305843009213688669 (by decide) (by decide) (Nat.mod_lt _ (by decide)) d) ?_)))))))
 rintro _ k ⟨rfl,i⟩
 have j:=h.trans i
 refine Wn 1 rfl (Nx (Rt (E.ret1 rfl rfl ?_)))
 exact⟨by rw[Nat.div_add_mod'];rfl,j⟩

theorem power_ok (a n:Nat)(ha:a<18446744073709551616)(hn:n<18446744073709551616)(w:World):Calls prog 170 #[.int .u64 ((a:Nat):Int),.int .u64 ((n:Nat):Int)] w fun e w'=>e= .returned (.int .u64 ((pw a n:Nat):Int))/\Le w w':=by
 refine enter func170 rfl rfl (Sr (Wn 1 rfl (Nx (Sr (Wn 1 rfl (Nx (Sq (WC.block (WC.loop (ι:=Nat×Nat×Nat) (fun⟨b,m,out⟩=>[(0,.int .u64 ((b:Nat):Int)),(1,.int .u64 ((m:Nat):Int)),(5,.int .u64 ((out:Nat):Int))]) (fun⟨b,m,out⟩ wl=>Le w wl/\b<18446744073709551616/\m<18446744073709551616/\out<M/\out*b^m%M=pw a n) (fun⟨b,m,out⟩=>m) (a,n,1) ?_ ?_ ?_)))))))))
 ·exact .of rfl
 ·exact⟨(Le.refl w),ha,hn,M_one,pw_start a n hn⟩
 rintro⟨b,m,out⟩ wl ⟨Ll,hb,hm,ho,hi⟩
 refine Sq (Sr (Wn 2 rfl (Nx (WC.cond rfl (fun f=>?_) (fun f=>?_)))))
 ·have hbb:b*b%M<18446744073709551616:=Nat.lt_trans (Nat.mod_lt _ (by decide)) (by decide)
  have h:out<18446744073709551616:=Nat.lt_trans ho (by decide)
  refine Sn (Sq (WC.block (Sq (Sr (Wn 1 rfl (Wa (.andE (m) (1) (m%2) rfl rfl rfl rfl (by omega) (by omega) (mask1 _)) rfl (Wn 1 rfl (Nx (WC.cond rfl (fun i=>?_) (fun i=>?_))))))))))
  ·refine WC.region (Wn 2 rfl (W.cl go244 rfl rfl (times_ok out b h hb wl) ?_))
   rintro _ j ⟨rfl,k⟩
   have l:=Ll.trans k
   refine Wn 1 rfl (Nx (WC.region (Wn 2 rfl (W.cl go244 rfl rfl (times_ok b b hb hb j) ?_))))
   rintro _ o ⟨rfl,c⟩
   have d:=l.trans c
   refine Wn 1 rfl (W.nil (E.blkN (E.thenN (WC.region (Wn 1 rfl (Wa (.shrE (m) (1) (m/2) rfl rfl rfl rfl (by decide) (rfl)) rfl (Wn 1 rfl (W.nil (E.again (b*b%M,m/2,out*b%M) (.of rfl) ?_ ?_)))))))))
   ·exact⟨d,hbb,by omega,Nat.mod_lt _ (by decide),by rw[step1 b m out (by omega)];exact hi⟩
   first|omega|(simp only[];omega)
  refine Sn (WC.region (Wn 2 rfl (W.cl go244 rfl rfl (times_ok b b hb hb wl) ?_)))
  rintro _ o ⟨rfl,c⟩
  have d:=Ll.trans c
  refine Wn 1 rfl (W.nil (E.blkN (E.thenN (WC.region (Wn 1 rfl (Wa (.shrE (m) (1) (m/2) rfl rfl rfl rfl (by decide) (rfl)) rfl (Wn 1 rfl (W.nil (E.again (b*b%M,m/2,out) (.of rfl) ?_ ?_)))))))))
  ·exact⟨d,hbb,by omega,ho,by rw[step0 b m out (by omega)];exact hi⟩
  first|omega|(simp only[];omega)
 have s:m=0:=by omega
 subst s
 rw[pw_end b out ho]at hi
 refine WC.exit (E.thenX (E.thenX (E.blkH (E.thenN (Sr (Wn 2 rfl (Nx (Rt (E.ret1 rfl rfl ?_)))))))))
 exact⟨by rw[hi],Ll⟩

theorem dec1 (x:Nat):decide ((x:Int)=1)=decide (x=1):=decide_eq_decide.2 (by omega)

theorem pright_ok (p:Nat)(hp:p<18446744073709551616)(w:World):Calls prog 75 #[.int .u64 ((p:Nat):Int)] w fun e w'=>e= .returned (.bool (right p))/\Le w w':=by
 refine enter func75 rfl rfl ?_
 have b:=Le.refl w
 refine Sr (Wn 1 rfl (Nx (Sr (Wn 1 rfl ?_))))
 by_cases c:0<p
 ·refine Wa (.dec (.gtr rfl rfl) (dT (by omega))) rfl (Wn 2 rfl ?_)
  by_cases d:p<4611686018427377339
  ·refine Wg (Any.rd (.dec (.lss rfl rfl) (dT (by omega))) _) rfl (Wn 3 rfl (W.efg rfl rfl rfl (rfl) rfl rfl (Ef.call go170 rfl rfl (power_ok p 2305843009213688669 hp (by decide) w) ?_)))
   rintro _ i ⟨rfl,f⟩
   refine⟨_,rfl,?_⟩
   have h:=b.trans f
   refine Wn 3 rfl (Nx (Rt (E.ret1 rfl rfl ?_)))
   exact⟨by rw[right,dT c,dT (show p<M from d),Bool.true_and,Bool.true_and,<-dec1];rfl,h⟩
  refine Wg (Any.rd (.dec (.lss rfl rfl) (dF (by omega))) _) rfl (Wn 7 rfl (Nx (Rt (E.ret1 rfl rfl ?_))))
  exact⟨by rw[right,dF (show¬p<M from d),Bool.and_false,Bool.false_and],b⟩
 refine Wa (.dec (.gtr rfl rfl) (dF (by omega))) rfl (Wn 10 rfl (Nx (Rt (E.ret1 rfl rfl ?_))))
 exact⟨by rw[right,dF c,Bool.false_and,Bool.false_and],b⟩

theorem taken_ok (p:Nat)(hp:p<18446744073709551616)(w:World):Calls prog 172 #[.int .u64 ((p:Nat):Int)] w fun e w'=>e= .returned (.int .u64 ((taken p:Nat):Int))/\Le w w':=by
 refine enter func172 rfl rfl ?_
 have d:=Le.refl w
 refine Sr (Wn 1 rfl (Nx (Sq (Sr (Wn 1 rfl (W.cl go75 rfl rfl (pright_ok p hp w) ?_))))))
 rintro _ h ⟨rfl,f⟩
 have c:=d.trans f
 refine Nx (WC.condB rfl (fun b=>?_) (fun b=>?_))
 ·refine Sr (Wn 2 rfl (Nx (Rt (E.thenR (E.ret1 rfl rfl ?_)))))
  exact⟨by rw[taken,if_pos b],c⟩
 refine Sn (Sr (Wn 1 rfl (Nx (Rt (E.ret1 rfl rfl ?_)))))
 exact⟨by rw[taken,if_neg (by rw[b];simp)];rfl,c⟩

theorem taken_lt (p:Nat):taken p<18446744073709551616:=Nat.lt_trans ((right_iff _).1 (right_taken p)).2.1 (by decide)

theorem scale_ok (p k:Nat)(hp:p<18446744073709551616)(w:World):Calls prog 77 #[.int .u64 ((p:Nat):Int),.int .u64 ((k:Nat):Int)] w fun e w'=>e= .returned (.int .u64 ((scale p k:Nat):Int))/\Le w w':=by
 refine enter func77 rfl rfl ?_
 have b:=Le.refl w
 refine Sr (Wn 1 rfl (Nx (Sr (Wn 1 rfl (W.cl go172 rfl rfl (taken_ok p hp w) ?_)))))
 rintro _ c ⟨rfl,d⟩
 have f:=b.trans d
 refine Wn 1 rfl (Wa (.remN (k) (2305843009213688669) (k%2305843009213688669) rfl rfl rfl rfl (by decide) (rfl)) rfl (W.cl go170 rfl rfl (power_ok (taken p) (k%2305843009213688669) (taken_lt p) (by omega) c) ?_))
 rintro _ j ⟨rfl,h⟩
 have i:=f.trans h
 refine Wn 1 rfl (Nx (Rt (E.ret1 rfl rfl ?_)))
 exact⟨rfl,i⟩

theorem base_ok (k:Nat)(w:World):Calls prog 20 #[.int .u64 ((k:Nat):Int)] w fun e w'=>e= .returned (.int .u64 ((base k:Nat):Int))/\Le w w':=by
 refine enter func20 rfl rfl ?_
 have b:=Le.refl w
 refine Sr (Wn 1 rfl (Nx (Sr (Wn 1 rfl (W.cl go77 rfl rfl (scale_ok 4 k (by decide) w) ?_)))))
 rintro _ f ⟨rfl,c⟩
 have d:=b.trans c
 refine Wn 1 rfl (Nx (Rt (E.ret1 rfl rfl ?_)))
 exact⟨rfl,d⟩

theorem fright_ok (a:Nat)(w:World):Calls prog 134 #[.int .u64 ((a:Nat):Int)] w fun e w'=>e= .returned (.bool (decide (a<q)))/\Le w w':=by
 refine enter func134 rfl rfl (WC.sr (W.run 1 rfl (W.nx (WC.sr (W.run 3 rfl (W.nx (WC.ret (E.ret1 rfl rfl ?_))))))))
 exact⟨rB (decide_eq_decide.2 (by rw[q_def];omega)),(Le.refl w)⟩

theorem of_ok (a:Nat)(w:World):Calls prog 227 #[.int .u64 ((a:Nat):Int)] w fun e w'=>e= .returned (.int .u64 ((a%q:Nat):Int))/\Le w w':=by
 refine enter func227 rfl rfl (WC.sr (W.run 1 rfl (W.nx (WC.sr (W.run 1 rfl (Wa (.remN (a) (2305843009213688669) (a%2305843009213688669) rfl rfl rfl rfl (by decide) (rfl)) rfl (W.run 1 rfl (W.nx (WC.ret (E.ret1 rfl rfl ?_))))))))))
 exact⟨rfl,(Le.refl w)⟩

theorem fmul_ok (a b:Nat)(w:World):Calls prog 222 #[.int .u64 ((a:Nat):Int),.int .u64 ((b:Nat):Int)] w fun e w'=>e= .returned (.int .u64 ((mulS a b:Nat):Int))/\Le w w':=by
 refine enter func222 rfl rfl ?_
 have c:=Le.refl w
 refine Sr (Wn 1 rfl (Nx (Sr (Wn 1 rfl (W.cl go227 rfl rfl (of_ok a w) ?_)))))
 rintro _ d ⟨rfl,f⟩
 have h:=c.trans f
 refine Wn 1 rfl (W.cl go227 rfl rfl (of_ok b d) ?_)
 rintro _ i ⟨rfl,j⟩
 have k:=h.trans j
 refine W.cl go281 rfl rfl (ntimes_ok (a%q) (b%q) (mod_q_lt a) (mod_q_lt b) i) ?_
 rintro _ n ⟨rfl,l⟩
 have m:=k.trans l
 refine Wn 1 rfl (Nx (Rt (E.ret1 rfl rfl ?_)))
 exact⟨rfl,m⟩

theorem from_ok (h:List (BitVec 8))(hh:h.length=32)(w:World):Calls prog 169 #[.agg (h.map u8v).toArray] w fun e w'=>e= .returned (.int .u64 ((fromB h:Nat):Int))/\Le w w':=by
 refine enter func169 rfl rfl ?_
 have b:=Le.refl w
 refine Sr (W.ef rfl rfl rfl (Ef.boxA rfl fun n o s c d=>?_))
 have f:=b.trans d
 refine Wn 1 rfl (Nx (Sr (Wn 1 rfl (Nx (Sq (Sr (Wr (.loadAll ag30 (by simp[hh]) rfl (c)) rfl ?_)))))))
 refine Wn 1 rfl (Nx (WC.block (WC.loop (ι:=Nat) (fun k=>[(6,.agg (h.map u8v).toArray),(7,.int .i64 (k:Int)),(3,.int .u64 ((fromTo 0 (h.take k):Nat):Int))]) (fun k wl=>k<=32/\Le w wl) (fun k=>32-k) 0 ?_ ?_ ?_)))
 ·exact .of rfl
 ·exact⟨by omega,f⟩
 rintro k wl ⟨hk,Ll⟩
 have hlt:fromTo 0 (h.take k)<q-1:=fromTo_lt _ 0 (by decide)
 have t:fromTo 0 (h.take k)<2305843009213688668:=hlt
 refine Sr (Wn 1 rfl (Nx (Sq (WC.cond rfl (fun i=>?_) (fun i=>?_)))))
 ·have hb:h[k]? =some (h.getD k 0):=by rw[List.getElem?_eq_getElem (by omega),List.getD_eq_getElem?_getD,List.getElem?_eq_getElem (by omega)];rfl
  have hbl:=(h.getD k 0).isLt
  refine Sn (Sq (WC.block (Sr (Wa (.as (Any.idxV k underlying30 underlying5 sz5 hh rfl rfl rfl (by omega)) (show u8v (h.getD k 0)=_ from rfl)) rfl (Wn 1 rfl (Nx (WC.region (Wn 1 rfl (Wa (.shrE (fromTo 0 (h.take k)) (56) (fromTo 0 (h.take k)/72057594037927936) rfl rfl rfl rfl (by decide) (rfl)) rfl (Wn 1 rfl (Wa (.shlN (fromTo 0 (h.take k)) (8) (fromTo 0 (h.take k)*256%18446744073709551616) rfl rfl rfl rfl (by decide) (rfl)) rfl ?_)))))))))))
  refine Wn 1 rfl (Wr (.u8to64 (isS underlying5) underlying27 rfl) rfl (Wa (.orE (fromTo 0 (h.take k)*256%18446744073709551616) ((h.getD k 0).toNat) (fromTo 0 (h.take k)*256%18446744073709551616+(h.getD k 0).toNat) rfl rfl rfl rfl (by omega) (by omega) (or_byteM _ _ hbl)) rfl (W.cl go243 rfl rfl (rem64_ok (fromTo 0 (h.take k)/72057594037927936) (fromTo 0 (h.take k)*256%18446744073709551616+(h.getD k 0).toNat) 2305843009213688668 (by decide) (by decide) (by omega) wl) ?_)))
  rintro _ u ⟨rfl,j⟩
  have l:=Ll.trans j
  refine Wn 1 rfl (W.nil (E.blkN (E.thenN (WC.region (Wa (.add rfl rfl (by omega)) rfl (Wn 1 rfl (W.nil (E.again (k+1) (.cons rfl (.cons rfl (.cons' rfl (int_eq (congrArg Nat.cast (by rw[fromTo_snoc h k 0 _ hb,show q-1=2305843009213688668 from rfl];congr 1;omega))) (.nil _)))) ?_ ?_))))))))
  ·exact⟨by omega,l⟩
  first|omega|(simp only[];omega)
 have m:k=32:=by omega
 subst m
 refine WC.exit (E.thenX (E.thenX (E.blkH (E.thenN (Sr (Wn 1 rfl (Wa (.addN (fromTo 0 (h.take 32)) (1) (fromTo 0 (h.take 32)+1) rfl rfl rfl rfl (by omega)) rfl (Wn 1 rfl (Nx (Rt (E.ret1 rfl rfl ?_)))))))))))
 exact⟨by rw[fromB,List.take_of_length_le (by omega)],Ll⟩



theorem all2_ok (a b g:Nat)(ha:a<18446744073709551616)(hb:b<18446744073709551616)(w:World)(hB:Blk w g 43 #[.int .u64 ((a:Nat):Int),.int .u64 ((b:Nat):Int)]):Calls prog 245 #[.slice (some ⟨g,0,none⟩) 2 2] w fun e w'=>e= .returned (.int .u64 ((addP a b:Nat):Int))/\Le w w':=by
 refine enter func245 rfl rfl (Sr (Wn 1 rfl (Nx (Sr (Wn 1 rfl (Nx (Sq (Sr (Wn 1 rfl (Wr (.len underlying39 rfl) rfl (Wn 1 rfl (Nx (WC.block (WC.loop (ι:=Nat×Nat) (fun⟨k,out⟩=>[(3,.int .u64 ((out:Nat):Int)),(6,.slice (some ⟨g,0,none⟩) 2 2),(7,.int .i64 2),(8,.int .i64 (k:Int))]) (fun⟨k,out⟩ wl=>k<=2/\Le w wl/\out=(if k=0 then 1 else if k=1 then 1*taken a%M else(1*taken a%M)*taken b%M)) (fun⟨k,out⟩=>2-k) (0,1) ?_ ?_ ?_))))))))))))))
 ·exact .of rfl
 ·exact⟨by omega,(Le.refl w),rfl⟩
 rintro⟨k,out⟩ wl ⟨hk,Ll,ho⟩
 refine Sr (Wn 1 rfl (Nx (Sq (WC.cond rfl (fun d=>?_) (fun d=>?_)))))
 ·have c:k=0\/k=1:=by omega
  have f:out<18446744073709551616:=by
   rw[ho];rcases c with rfl|rfl
   ·rw[if_pos rfl];decide
   rw[if_neg (by decide),if_pos rfl];exact Nat.lt_trans (Nat.mod_lt _ (by decide)) (by decide)
  obtain⟨p,h,i,j⟩:∃p:Nat,(#[.int .u64 ((a:Nat):Int),.int .u64 ((b:Nat):Int)]:Array Value)[k]? =some (.int .u64 ((p:Nat):Int))/\(if k=0 then a else b)=p/\p<18446744073709551616:=by
   rcases c with rfl|rfl
   ·exact⟨a,rfl,rfl,ha⟩
   exact⟨b,rfl,rfl,hb⟩
  have hstep:out*taken p%M=(if k+1=0 then 1 else if k+1=1 then 1*taken a%M else(1*taken a%M)*taken b%M):=by
   rw[ho,<-i];rcases c with rfl|rfl<;>rfl
  refine Sn (Sq (WC.block (Sr (Wa (.idxB1 (k) underlying39 sz43 rfl rfl (rfl) (by omega)) rfl (Wr (.loadB na43 rfl (hB.le Ll) (h)) rfl (Wn 1 rfl (Nx (WC.region (Wn 2 rfl (W.cl go172 rfl rfl (taken_ok p j wl) ?_))))))))))
  rintro _ l ⟨rfl,m⟩
  have n:=Ll.trans m
  refine W.cl go244 rfl rfl (times_ok out (taken p) f (taken_lt p) l) ?_
  rintro _ t ⟨rfl,o⟩
  have s:=n.trans o
  refine Wn 1 rfl (W.nil (E.blkN (E.thenN (WC.region (Wa (.add rfl rfl (by omega)) rfl (Wn 1 rfl (W.nil (E.again (k+1,out*taken p%M) (.of rfl) ?_ ?_))))))))
  ·exact⟨by omega,s,hstep⟩
  first|omega|(simp only[];omega)
 have c:k=2:=by omega
 subst c
 have hres:out=addP a b:=by rw[ho,addP,Nat.one_mul];simp only[Nat.reduceEqDiff,if_false];rw[Nat.mul_mod,Nat.mod_mod,<-Nat.mul_mod]
 refine WC.exit (E.thenX (E.thenX (E.blkH (E.thenN (Sr (Wn 2 rfl (Nx (Rt (E.ret1 rfl rfl ?_)))))))))
 exact⟨by rw[hres],Ll⟩

theorem padd_ok (a b:Nat)(ha:a<18446744073709551616)(hb:b<18446744073709551616)(w:World):Calls prog 171 #[.int .u64 ((a:Nat):Int),.int .u64 ((b:Nat):Int)] w fun e w'=>e= .returned (.int .u64 ((addP a b:Nat):Int))/\Le w w':=by
 refine enter func171 rfl rfl ?_
 have c:=Le.refl w
 refine Sr (Wn 1 rfl (Nx (Sr (Wn 2 rfl (W.ef rfl rfl rfl (Ef.buildSliceN [_,_] underlying39 el43 rfl (by intro v hv;simp at hv;rcases hv with rfl|rfl<;>rfl) rfl (by decide) (by decide) ?_))))))
 intro d f m h i
 have j:=c.trans i
 refine W.cl go245 rfl rfl (all2_ok a b d ha hb f h) ?_
 rintro _ n ⟨rfl,k⟩
 have l:=j.trans k
 refine Wn 1 rfl (Nx (Rt (E.ret1 rfl rfl ?_)))
 exact⟨rfl,l⟩
end Go.Proofs.YtocheaahlpiajaaGreatDoor

namespace Go.Proofs.YtocheaahlpiajaaGreatDoor
open Tryz
open Go Go.Sx Go.Hsp Go.Num Go.Osp
set_option maxRecDepth 20000
theorem flatten_snoc (ps:List (List Byte))(k:Nat)(q:List Byte)(h:ps[k]? =some q):(ps.take (k+1)).flatten=(ps.take k).flatten++q:=by
  rw[List.take_add_one,h];simp
theorem flatten_take_le:∀(ps:List (List Byte)) (k:Nat),(ps.take k).flatten.length<=ps.flatten.length
  |[],k=>by simp
  |p::ps,0=>by simp
  |p::ps,k+1=>by
    have:=flatten_take_le ps k
    simp only[List.take_succ_cons,List.flatten_cons,List.length_append];omega
theorem grow_ok (m:Nat)(h0:0<m)(hm:m<=1000000)(w:World):Calls prog 226 #[.slice none 0 0,.int .i64 (m:Int)] w fun e w'=>∃A c,e= .returned (.slice A 0 c)/\Own w' w.heap.size 5 1 A 0 c []/\Le w w':=by
 refine enter func226 rfl rfl ?_
 have b:=Le.refl w
 refine Sr (Wn 1 rfl (Nx (Sq (Sr (Wn 2 rfl (Nx (WC.condB rfl (fun h=>absurd h (by simp)) (fun _=>?_))))))))
 refine Sn (Sq (Sr (Wn 2 rfl (Wr (.cap underlying26 rfl rfl) rfl (Wn 1 rfl (Wr (.len underlying26 rfl) rfl (Wa (.sub rfl rfl (by omega)) rfl (Wa (.sub rfl rfl (by omega)) rfl ?_))))))))
 refine Wn 1 rfl (Nx (Sr (Wn 2 rfl (Nx (WC.condB rfl (fun _=>?_) (fun h=>absurd h (by simp;omega)))))))
 refine WC.region (Wn 2 rfl (Wr (.cap underlying26 rfl rfl) rfl (Wa (.cutH (0) underlying26 sz5 rfl rfl (rfl) (by decide)) rfl (Wn 1 rfl (W.ef rfl rfl rfl (Ef.appendZ m underlying26 underlying3 el5 rfl rfl (Own.nil _ _ _ _ _) rfl (by omega) h0 (by omega) (by unfold maxLen;omega) (Nat.le_refl _) ?_))))))
 intro d f i j k n
 have l:Le w i:=b.then_ k (fun q hq=>by simp[rowOf_zero]at hq)
 refine Wn 1 rfl (Wr (.len underlying26 rfl) rfl (Wa (.cutH (0) underlying26 sz5 rfl rfl (rfl) (Nat.zero_le _)) rfl (Wn 1 rfl (Nx (Sr (Wn 2 rfl (Nx (Rt (E.ret1 rfl rfl ?_)))))))))
 exact⟨d,f,rfl,(j.front 0 (Nat.zero_le _)).cast rfl (by simp),l⟩

theorem concat_ok {A:Option Addr}{n c:Nat}{vs:List Value}{ps:List (List Byte)}(w:World)(hV:Sl w 1 A n vs)(hP:Parts w vs ps)(h0:0<ps.flatten.length)(hT:ps.flatten.length<=1000000)(hn:n<=1000):Calls prog 128 #[.slice A n c] w fun e w'=>∃A' c',e= .returned (.slice A' ps.flatten.length c')/\Own w' w.heap.size 5 1 A' ps.flatten.length c' (ps.flatten.map u8v)/\Le w w':=by
 have hvl:=hV.1
 rw[Nat.mul_one]at hvl
 have hpl:=hP.1
 have hgr:∀w,Calls prog 226 #[.slice none 0 0,.int .i64 (((ps.take n).flatten.length:Nat):Int)] w fun e w'=>∃A c,e= .returned (.slice A 0 c)/\Own w' w.heap.size 5 1 A 0 c []/\Le w w':=fun w=>by
  rw[List.take_of_length_le (by omega)]
  exact grow_ok _ h0 hT w
 refine enter func128 rfl rfl (Sr (Wn 1 rfl (Nx (Sr (Wn 1 rfl (Nx (Sq (Sr (Wn 1 rfl (Wr (.len underlying157 rfl) rfl (Wn 1 rfl (Nx (WC.block (WC.loop (ι:=Nat) (fun k=>[(0,.slice A n c),(3,.int .i64 (((ps.take k).flatten.length:Nat):Int)),(9,.slice A n c),(10,.int .i64 (n:Int)),(11,.int .i64 (k:Int))]) (fun k wl=>k<=n/\Le w wl) (fun k=>n-k) 0 ?_ ?_ ?_))))))))))))))
 ·exact .of rfl
 ·exact⟨Nat.zero_le _,(Le.refl w)⟩
 rintro k wl ⟨hk,Ll⟩
 have hle:=flatten_take_le ps k
 refine Sr (Wn 1 rfl (Nx (Sq (WC.cond rfl (fun m=>?_) (fun m=>?_)))))
 ·obtain⟨q,hq⟩:∃q,ps[k]? =some q:=⟨_,List.getElem?_eq_getElem (by omega)⟩
  obtain⟨v,hv⟩:∃v,vs[k]? =some v:=⟨_,List.getElem?_eq_getElem (by omega)⟩
  obtain⟨Aq,cq,rfl,l⟩:=hP.2 k v q hv hq
  have f:=flatten_take_le ps (k+1)
  rw[flatten_snoc ps k q hq,List.length_append]at f
  refine Sn (Sq (WC.block (Sr (Wa (.idxS1 (k) underlying157 sz26 rfl rfl (hV.isSome (j:=k) (by omega) (by decide)) (rfl) (by omega)) rfl (Wr (.loadS na26 rfl (hV.le Ll) (hv)) rfl (Wn 1 rfl (Nx (Sr (Wn 2 rfl (Wr (.len underlying26 rfl) rfl (Wa (.add rfl rfl (by omega)) rfl ?_)))))))))))
  refine Wn 1 rfl (Nx (Sr (Wn 2 rfl (Nx (WC.condB rfl (fun h=>absurd h (by simp;omega)) (fun _=>?_))))))
  refine WC.skip (E.blkN (E.thenN (WC.region (Wa (.add rfl rfl (by omega)) rfl (Wn 1 rfl (W.nil (E.again (k+1) (.cons rfl (.cons' rfl (int_eq (by rw[flatten_snoc ps k q hq,List.length_append,Int.natCast_add])) (.of rfl))) ?_ ?_)))))))
  ·exact⟨by omega,Ll⟩
  first|omega|(simp only[];omega)
 have hkn:n=k:=by omega
 subst hkn
 rw[List.take_of_length_le (by omega)]at hle
 refine WC.exit (E.thenX (E.thenX (E.blkH (E.thenN (Sr (Wn 1 rfl (W.cl go226 rfl rfl (hgr wl) ?_)))))))
 rintro _ I ⟨o,s,rfl,i,t⟩
 have u:=Ll.trans t
 have i:=i.mono Ll.size
 refine Wn 1 rfl (Nx (Sq (Sr (Wn 1 rfl (Wr (.len underlying157 rfl) rfl (Wn 1 rfl (Nx (WC.block (WC.loop (ι:=Nat×Option Addr×Nat) (fun⟨k,b,d⟩=>[(6,.slice b ((ps.take k).flatten.length) d),(25,.slice A n c),(26,.int .i64 (n:Int)),(27,.int .i64 (k:Int))]) (fun⟨k,b,d⟩ wm=>k<=n/\Le w wm/\Own wm w.heap.size 5 1 b ((ps.take k).flatten.length) d ((ps.take k).flatten.map u8v)) (fun⟨k,b,d⟩=>n-k) (0,o,s) ?_ ?_ ?_)))))))))
 ·exact .of rfl
 ·exact⟨Nat.zero_le _,u,i⟩
 rintro⟨k,b,d⟩ wm ⟨hk,Lm,om⟩
 refine Sr (Wn 1 rfl (Nx (Sq (WC.cond rfl (fun x=>?_) (fun x=>?_)))))
 ·obtain⟨q,hq⟩:∃q,ps[k]? =some q:=⟨_,List.getElem?_eq_getElem (by omega)⟩
  obtain⟨v,hv⟩:∃v,vs[k]? =some v:=⟨_,List.getElem?_eq_getElem (by omega)⟩
  obtain⟨Aq,cq,rfl,l⟩:=hP.2 k v q hv hq
  have f:=flatten_take_le ps (k+1)
  rw[flatten_snoc ps k q hq,List.length_append]at f
  refine Sn (Sq (WC.block (Sr (Wa (.idxS1 (k) underlying157 sz26 rfl rfl (hV.isSome (j:=k) (by omega) (by decide)) (rfl) (by omega)) rfl (Wr (.loadS na26 rfl (hV.le Lm) (hv)) rfl (Wn 1 rfl (Nx (WC.region (Wn 2 rfl (W.ef rfl rfl rfl (Ef.append underlying26 el5 rfl (om) rfl ((l.le Lm).src underlying26 _) (by omega) (by unfold maxLen;omega) (Lm.size) ?_)))))))))))
  intro y z C D F J
  have H:Le w C:=Lm.then_ F (fun q hq=>(om.row hq).1)
  refine Wn 1 rfl (W.nil (E.blkN (E.thenN (WC.region (Wa (.add rfl rfl (by omega)) rfl (Wn 1 rfl (W.nil (E.again (k+1,y,z) (.cons' rfl (slice_eq (by rw[flatten_snoc ps k q hq,List.length_append])) (.of rfl)) ?_ ?_))))))))
  ·exact⟨by omega,H,D.cast (by rw[flatten_snoc ps k q hq,List.length_append]) (by rw[flatten_snoc ps k q hq,List.map_append])⟩
  first|omega|(simp only[];omega)
 have hkn:n=k:=by omega
 subst hkn
 rw[List.take_of_length_le (by omega)]at om
 refine WC.exit (E.thenX (E.thenX (E.blkH (E.thenN (Sr (Wn 2 rfl (Nx (Rt (E.ret1 rfl rfl ?_)))))))))
 exact⟨b,d,by rw[List.take_of_length_le (by omega)],om,Lm⟩

theorem plus_ok (a b:Nat)(ha:a<2305843009213688669)(hb:b<2305843009213688669)(w:World):Calls prog 228 #[.int .u64 ((a:Nat):Int),.int .u64 ((b:Nat):Int)] w fun e w'=>e= .returned (.int .u64 (((a+b)%q:Nat):Int))/\Le w w':=by
 refine enter func228 rfl rfl (WC.sr (W.run 1 rfl (W.nx (WC.sr (W.run 2 rfl (Wa (.addN (a) (b) (a+b) rfl rfl rfl rfl (Nat.mod_eq_of_lt (by omega))) rfl (Wa (.remN (a+b) (2305843009213688669) ((a+b)%2305843009213688669) rfl rfl rfl rfl (by decide) (rfl)) rfl (W.run 1 rfl (W.nx (WC.ret (E.ret1 rfl rfl ?_)))))))))))
 exact⟨rfl,(Le.refl w)⟩

theorem fadd_ok (a b:Nat)(w:World):Calls prog 148 #[.int .u64 ((a:Nat):Int),.int .u64 ((b:Nat):Int)] w fun e w'=>e= .returned (.int .u64 ((addS a b:Nat):Int))/\Le w w':=by
 refine enter func148 rfl rfl ?_
 have c:=Le.refl w
 refine Sr (Wn 1 rfl (Nx (Sr (Wn 1 rfl (W.cl go227 rfl rfl (of_ok a w) ?_)))))
 rintro _ d ⟨rfl,f⟩
 have h:=c.trans f
 refine Wn 1 rfl (W.cl go227 rfl rfl (of_ok b d) ?_)
 rintro _ i ⟨rfl,j⟩
 have k:=h.trans j
 refine W.cl go228 rfl rfl (plus_ok (a%q) (b%q) (Nat.mod_lt _ (by decide)) (Nat.mod_lt _ (by decide)) i) ?_
 rintro _ n ⟨rfl,l⟩
 have m:=k.trans l
 refine Wn 1 rfl (Nx (Rt (E.ret1 rfl rfl ?_)))
 exact⟨rfl,m⟩
end Go.Proofs.YtocheaahlpiajaaGreatDoor

namespace Go.Proofs.YtocheaahlpiajaaGreatDoor
open Tryz
open Go Go.Sx Go.Hsp Go.Num Go.Osp
set_option maxRecDepth 20000
def hopV (h:Hop):List Value:=[.int .i64 h.1,.int .i64 h.2.1,.int .i64 h.2.2.1,.int .i64 h.2.2.2.1,.int .u64 (h.2.2.2.2.1:Nat),.int .u64 (h.2.2.2.2.2:Nat)]
def stopV (s:Stop):List Value:= .int .u64 (s.1:Nat)::s.2.map u8v
theorem stopV_length (s:Stop)(h:s.2.length=32):(stopV s).length=33:=by simp[stopV,h]
theorem hopV_one (h:Hop):∀u∈hopV h,u.oneCell'=true:=fun u hu=>by simp[hopV]at hu;rcases hu with rfl|rfl|rfl|rfl|rfl|rfl<;>rfl
theorem stopV_one (s:Stop):∀u∈stopV s,u.oneCell'=true:=fun u hu=>by
  simp only[stopV,List.mem_cons]at hu
  rcases hu with rfl|hu
  · rfl
  · exact all_u8v _ u hu
theorem stopV_at (s:Stop):∀i u,(s.2.map u8v)[i]? =some u->(stopV s).toArray[1+i]? =some u:=fun i u hu=>by
  rw[Nat.add_comm];simpa[stopV]using hu
theorem wrap_usg (i:Int):IntKind.u64.wrap i=((usg i:Nat):Int):=by rw[wrap_u64];unfold usg;omega
theorem wrap_sgn (m:Nat)(hm:m<18446744073709551616):IntKind.i64.wrap (m:Int)=sgn m:=by
  rw[IntKind.wrap_i64];unfold sgn
  split<;>omega
theorem numTo_snoc (xs:List Byte)(k n:Nat)(b:Byte)(h:xs[k]? =some b):numTo n (xs.take (k+1))=numTo n (xs.take k)*256+b.toNat:=by
  have ap:∀(l m:List Byte) (n:Nat),numTo n (l++m)=numTo (numTo n l) m:=by
    intro l
    induction l with
    |nil=>intro m n;rfl
    |cons c l ih=>intro m n;exact ih m _
  rw[List.take_add_one,h,ap]
  rfl
theorem eight_ok (m:Nat)(w:World):Calls prog 133 #[.int .u64 ((m:Nat):Int)] w fun e w'=>∃g,e= .returned (.slice (some ⟨g,0,none⟩) 8 8)/\w.heap.size<=g/\Blk w' g 5 ((be8 m).map u8v).toArray/\Le w w':=by
 refine enter func133 rfl rfl ?_
 have h:=Le.refl w
 refine Sr (Wn 1 rfl (Nx (Sr (W.ef rfl rfl rfl (Ef.makeSlice 8 8 underlying26 el5 rfl rfl rfl rfl (by decide) (by decide) (by decide) fun b v d i j=>?_)))))
 have l:=h.trans j
 refine Wn 1 rfl (Nx (Sq (Sr (Wn 1 rfl (Wr (.len underlying26 rfl) rfl (Wn 1 rfl (Nx (WC.block (WC.loop (ι:=Nat) (fun k=>[(0,.int .u64 ((m:Nat):Int)),(3,.slice (some ⟨b,0,none⟩) 8 8),(7,.int .i64 8),(8,.int .i64 (k:Int))]) (fun k wl=>k<=8/\Le w wl/\Blk wl b 5 (((be8To m k)++List.replicate (8-k) 0#8).map u8v).toArray) (fun k=>8-k) 0 ?_ ?_ ?_)))))))))
 ·exact .of rfl
 ·exact⟨by omega,l,i.cast (made_u8 8)⟩
 rintro k wl ⟨f,Ll,c⟩
 have hbl:(be8To m k).length=k:=by simp[be8To,be8_length];omega
 refine Sr (Wn 1 rfl (Nx (Sq (WC.cond rfl (fun n=>?_) (fun n=>?_)))))
 ·refine Sn (Sq (WC.block (Sr (Wn 2 rfl (Nx (WC.region (Wn 4 rfl (Wa (.mul rfl rfl (by omega)) rfl (Wa (.sub rfl rfl (by omega)) rfl (Wa (.shrN m (56-8*k) rfl rfl rfl (by omega) (by show 56-8*k<=64;omega)) rfl ?_))))))))))
  refine Wr (.toU8 (m>>>(56-8*k)) (isS underlying27) underlying5 rfl rfl) rfl (Wa (.idxB1 (k) underlying26 sz5 rfl rfl (rfl) (by omega)) rfl (W.ef0 rfl rfl (Ef.store sz5 rfl rfl (c) (by simp;omega) (rfl) ?_)))
  intro o s t
  have u:Le w o:=Ll.then_ t (fun q hq=>by cases hq;exact d)
  refine W.nil (E.blkN (E.thenN (WC.region (Wa (.add rfl rfl (by omega)) rfl (Wn 1 rfl (W.nil (E.again (k+1) (.of rfl) ?_ ?_)))))))
  ·exact⟨by omega,u,s.cast (by rw[fill_set u8v (be8To m k) 0#8 _ 8 k hbl (by omega),be8To_succ m k (by omega)])⟩
  first|omega|(simp only[];omega)
 have f:k=8:=by omega
 subst f
 have c:Blk wl b 5 ((be8 m).map u8v).toArray:=c
 refine WC.exit (E.thenX (E.thenX (E.blkH (E.thenN (Sr (Wn 2 rfl (Nx (Rt (E.ret1 rfl rfl ?_)))))))))
 exact⟨b,rfl,d,c,Ll⟩

theorem number_ok {A:Option Addr}{n c:Nat}{xs:List Byte}(w:World)(hS:Sb w A n xs)(h8:8<=n)(hc:n<=c):Calls prog 135 #[.slice A n c] w fun e w'=>e= .returned (.int .u64 ((numB xs:Nat):Int))/\Le w w':=by
 have hl:=hS.len
 refine enter func135 rfl rfl (Sr (Wn 1 rfl (Nx (Sq (Sr (Wn 1 rfl (Wa (.cutH (8) underlying26 sz5 rfl rfl (rfl) (by omega)) rfl (Wr (.len underlying26 rfl) rfl (Wn 1 rfl (Nx (WC.block (WC.loop (ι:=Nat) (fun k=>[(2,.int .u64 ((numTo 0 (xs.take k):Nat):Int)),(6,.slice A 8 c),(7,.int .i64 8),(8,.int .i64 (k:Int))]) (fun k wl=>k<=8/\Le w wl) (fun k=>8-k) 0 ?_ ?_ ?_))))))))))))
 ·exact .of rfl
 ·exact⟨by omega,(Le.refl w)⟩
 rintro k wl ⟨hk,Ll⟩
 refine Sr (Wn 1 rfl (Nx (Sq (WC.cond rfl (fun b=>?_) (fun b=>?_)))))
 ·have hb:xs[k]? =some (xs.getD k 0):=by rw[List.getElem?_eq_getElem (by omega),List.getD_eq_getElem?_getD,List.getElem?_eq_getElem (by omega)];rfl
  have hbl:=(xs.getD k 0).isLt
  have hnl:numTo 0 (xs.take k)<256^7:=by
   have d:=numTo_lt (xs.take k) 0 0 (by decide)
   exact Nat.lt_of_lt_of_le d (Nat.pow_le_pow_right (by decide) (by rw[List.length_take];omega))
  have hnl':numTo 0 (xs.take k)<72057594037927936:=hnl
  refine Sn (Sq (WC.block (Sr (Wa (.idxS1 (k) underlying26 sz5 rfl rfl (hS.isSome (by omega)) (rfl) (by omega)) rfl (Wr (.loadS na5 rfl (hS.le Ll) (getb xs (by omega))) rfl (Wn 1 rfl (Nx (WC.region (Wn 1 rfl (Wa (.shlN (numTo 0 (xs.take k)) (8) (numTo 0 (xs.take k)*256) rfl rfl rfl rfl (by decide) (by omega)) rfl (Wn 1 rfl ?_)))))))))))
  refine Wr (.u8to64 (isS underlying5) underlying27 rfl) rfl (Wa (.orE (numTo 0 (xs.take k)*256) ((xs.getD k 0).toNat) (numTo 0 (xs.take k)*256+(xs.getD k 0).toNat) rfl rfl rfl rfl (by omega) (by omega) (or_byte _ _ hbl)) rfl (Wn 1 rfl (W.nil (E.blkN (E.thenN (WC.region (Wa (.add rfl rfl (by omega)) rfl (Wn 1 rfl (W.nil (E.again (k+1) (.cons' rfl (int_eq (congrArg Nat.cast (by rw[numTo_snoc xs k 0 _ hb]))) (.of rfl)) ?_ ?_))))))))))
  ·exact⟨by omega,Ll⟩
  first|omega|(simp only[];omega)
 have f:k=8:=by omega
 subst f
 refine WC.exit (E.thenX (E.thenX (E.blkH (E.thenN (Sr (Wn 2 rfl (Nx (Rt (E.ret1 rfl rfl ?_)))))))))
 exact⟨rfl,Ll⟩

theorem xor_ok {A B:Option Addr}{n c c':Nat}{xs ys:List Byte}(w:World)(hS:Sb w A n xs)(hT:Sb w B n ys)(hn:n<=1000000):Calls prog 127 #[.slice A n c,.slice B n c'] w fun e w'=>∃A' c',e= .returned (.slice A' n c')/\Own w' w.heap.size 5 1 A' n c' ((xorB xs ys).map u8v)/\Le w w':=by
 have hl:=hS.len
 have m:=hT.len
 refine enter func127 rfl rfl ?_
 have o:=Le.refl w
 refine Sr (Wn 1 rfl (Nx (Sr (Wn 1 rfl (W.cl go173 rfl rfl (clone_ok w hS (by omega)) ?_)))))
 rintro _ H ⟨b,d,rfl,s,t⟩
 have u:=o.trans t
 refine Wn 1 rfl (Nx (Sq (Sr (Wn 1 rfl (Wr (.len underlying26 rfl) rfl (Wn 1 rfl (Nx (WC.block (WC.loop (ι:=Nat) (fun k=>[(1,.slice B n c'),(5,.slice b n d),(10,.int .i64 (n:Int)),(11,.int .i64 (k:Int))]) (fun k wl=>k<=n/\Le w wl/\Own wl w.heap.size 5 1 b n d ((overTo xs ys k).map u8v)) (fun k=>n-k) 0 ?_ ?_ ?_)))))))))
 ·exact .of rfl
 ·exact⟨Nat.zero_le _,u,s.cast rfl (by rw[overTo_zero])⟩
 rintro k wl ⟨hkn,Ll,ol⟩
 have hol:=overTo_length xs ys k (by omega) (by omega)
 refine Sr (Wn 1 rfl (Nx (Sq (WC.cond rfl (fun v=>?_) (fun v=>?_)))))
 ·obtain⟨gA,x,y,I,hrow⟩:=ol.lit (by omega)
  subst x
  refine Sn (Sq (WC.block (Sr (Wn 2 rfl (Nx (WC.draw [0,1,2,3,4,5,6,7,8,9,10] mixed (by kernel_rfl) fun J f=>?_))))))
  have j:=Ll.trans f
  refine Gn 2 rfl (Ga rfl (.idxB1 (k) underlying26 sz5 rfl rfl (rfl) (by omega)) (Gd rfl (.load na5 rfl (((ol.le f).sl.2 k _ (getb _ (by omega))).elim fun ad h=>by obtain⟨i,l⟩:=h;injection i with i;subst i;rw[add_lit,Nat.zero_add]at l;exact l)) ?_))
  refine Gn 2 rfl (Ga rfl (.idxS1 (k) underlying26 sz5 rfl rfl (hT.isSome (by omega)) (rfl) (by omega)) (Gd rfl (.loadS na5 rfl (hT.le j) (getb ys (by omega))) (Ga rfl (.xor8 rfl rfl) (Ga rfl (.idxB1 (k) underlying26 sz5 rfl rfl (rfl) (by omega)) (G.ef0 rfl rfl rfl rfl ?_)))))
  refine Ef.storeO sz5 rfl rfl (ol.le f) (by omega) (rfl) fun z C D=>?_
  have F:Le w z:=j.then_ D (fun q hq=>by cases hq;exact y)
  refine noT (by kernel_rfl) (G.nil (E.blkN (E.thenN (WC.region (Wa (.add rfl rfl (by omega)) rfl (Wn 1 rfl (W.nil (E.again (k+1) (.of rfl) ?_ ?_))))))))
  ·exact⟨by omega,F,C.cast rfl (by rw[<-overTo_succ xs ys k (by omega) (by omega),overTo_at xs ys k (by omega) (by omega),List.map_set])⟩
  first|omega|(simp only[];omega)
 have hkn:k=n:=by omega
 subst hkn
 refine WC.exit (E.thenX (E.thenX (E.blkH (E.thenN (Sr (Wn 2 rfl (Nx (Rt (E.ret1 rfl rfl ?_)))))))))
 exact⟨b,d,rfl,ol.cast rfl (by rw[<-overTo_all xs ys (by omega),m]),Ll⟩

theorem within_T (i lo hi:Int)(h:(lo<=i/\i<=hi))(w:World):Calls prog 223 #[.int .i64 i,.int .i64 lo,.int .i64 hi] w fun e w'=>e= .returned (.bool true)/\Le w w':=by
 refine enter func223 rfl rfl (WC.sr (W.run 1 rfl (W.nx (WC.sr (W.run 2 rfl (Wa (.dec (.leq rfl rfl) (dT (by omega))) rfl (W.run 3 rfl (Wg (Any.rd (.dec (.leq rfl rfl) (dT (by omega))) _) rfl (W.run 2 rfl (W.nx (WC.ret ?_)))))))))))
 refine E.ret1 rfl rfl ?_
 exact⟨rfl,(Le.refl w)⟩

theorem within_F (i lo hi:Int)(h:¬(lo<=i/\i<=hi))(w:World):Calls prog 223 #[.int .i64 i,.int .i64 lo,.int .i64 hi] w fun e w'=>e= .returned (.bool false)/\Le w w':=by
 refine enter func223 rfl rfl ?_
 have b:=Le.refl w
 refine Sr (Wn 1 rfl (Nx (Sr (Wn 2 rfl ?_))))
 by_cases c:lo<=i
 ·refine Wa (.dec (.leq rfl rfl) (dT (by omega))) rfl (Wn 3 rfl (Wg (Any.rd (.dec (.leq rfl rfl) (dF (by omega))) _) rfl (Wn 2 rfl (Nx (Rt (E.ret1 rfl rfl ?_))))))
  exact⟨rfl,b⟩
 refine Wa (.dec (.leq rfl rfl) (dF (by omega))) rfl (Wn 6 rfl (Nx (Rt (E.ret1 rfl rfl ?_))))
 exact⟨rfl,b⟩

theorem fright_T (a:Nat)(h:a<q)(w:World):Calls prog 134 #[.int .u64 ((a:Nat):Int)] w fun e w'=>e= .returned (.bool true)/\Le w w':=by
  have:=fright_ok a w
  rwa [decide_eq_true h]at this

theorem fright_F (a:Nat)(h:¬a<q)(w:World):Calls prog 134 #[.int .u64 ((a:Nat):Int)] w fun e w'=>e= .returned (.bool false)/\Le w w':=by
  have:=fright_ok a w
  rwa [decide_eq_false h]at this

theorem may_ok (h:Hop)(ho:HopOk h)(w:World):Calls prog 124 #[.agg (hopV h).toArray] w fun e w'=>e= .returned (.bool (mayB h))/\Le w w':=by
 refine enter func124 rfl rfl ?_
 have J:=Le.refl w
 refine Sr (W.ef rfl rfl rfl (Ef.boxA rfl fun N t O c b=>?_))
 have P:=J.trans b
 have LL:=Le.refl t
 refine Wn 1 rfl (Nx (Sr (Wn 1 rfl (Nx (Sr (Wn 1 rfl (Wa (.field0 fa109_0 rfl) rfl (Wr (.loadB na3 rfl (c.le LL) (rfl)) rfl ?_))))))))
 by_cases d: -1<=h.1/\h.1<=11
 ·refine W.cl go223 rfl rfl (within_T _ _ _ d t) ?_
  rintro _ u ⟨rfl,v⟩
  have l:=LL.trans v
  refine Wn 2 rfl (Wg (Any.rd (.field0 fa109_1 rfl) _) rfl (Wg (.loadB na3 rfl (c.le l) (rfl)) rfl ?_))
  by_cases f:0<=h.2.1/\h.2.1<=1048575
  ·refine W.efg rfl rfl rfl (rfl) rfl rfl (Ef.call go223 rfl rfl (within_T _ _ _ f u) ?_)
   rintro _ x ⟨rfl,y⟩
   refine⟨_,rfl,?_⟩
   have m:=l.trans y
   refine Wn 3 rfl (Wg (Any.rd (.field0 fa109_2 rfl) _) rfl (Wg (.loadB na3 rfl (c.le m) (rfl)) rfl ?_))
   by_cases i:0<=h.2.2.1/\h.2.2.1<=1125899906842624
   ·refine W.efg rfl rfl rfl (rfl) rfl rfl (Ef.call go223 rfl rfl (within_T _ _ _ i x) ?_)
    rintro _ z ⟨rfl,A⟩
    refine⟨_,rfl,?_⟩
    have n:=m.trans A
    refine Wn 3 rfl (Wg (Any.rd (.field0 fa109_3 rfl) _) rfl (Wg (.loadB na3 rfl (c.le n) (rfl)) rfl ?_))
    by_cases j:0<=h.2.2.2.1/\h.2.2.2.1<=1048576
    ·refine W.efg rfl rfl rfl (rfl) rfl rfl (Ef.call go223 rfl rfl (within_T _ _ _ j z) ?_)
     rintro _ C ⟨rfl,D⟩
     refine⟨_,rfl,?_⟩
     have o:=n.trans D
     refine Wn 2 rfl (Nx (Sr (Wn 2 rfl (Wg (Any.rd (.field0 fa109_5 rfl) _) rfl (Wg (.loadB na28 rfl (c.le o) (rfl)) rfl ?_)))))
     by_cases s:h.2.2.2.2.2<q
     ·refine W.efg rfl rfl rfl (rfl) rfl rfl (Ef.call go134 rfl rfl (fright_T _ s C) ?_)
      rintro _ H ⟨rfl,F⟩
      refine⟨_,rfl,?_⟩
      have k:=o.trans F
      refine Wn 2 rfl (Wg (Any.rd (.field0 fa109_4 rfl) _) rfl (Wg (.loadB na43 rfl (c.le k) (rfl)) rfl ?_))
      by_cases I:h.2.2.2.2.1=0
      ·refine Wg (Any.rd (.dec (.eql rfl rfl) (dT (by omega))) _) rfl (Wn 4 rfl (Wg (Any.rd (.pickT rfl rfl rfl) _) rfl (Wn 2 rfl (Nx (Rt (E.ret1 rfl rfl ?_))))))
       exact⟨by rw[mayB,dT d,dT f,dT i,dT j,dT s,dT I];rfl,b.trans k⟩
      refine Wg (Any.rd (.dec (.eql rfl rfl) (dF (by omega))) _) rfl (Wn 1 rfl (Wg (Any.rd (.field0 fa109_4 rfl) _) rfl (Wg (.loadB na43 rfl (c.le k) (rfl)) rfl (W.efg rfl rfl rfl (rfl) rfl rfl (Ef.call go75 rfl rfl (pright_ok _ ho.2.2.2.2.1 H) ?_)))))
      rintro _ Q ⟨rfl,K⟩
      refine⟨_,rfl,?_⟩
      have L:=k.trans K
      refine Wg (Any.rd (.pickF rfl rfl rfl) _) rfl (Wn 2 rfl (Nx (Rt (E.ret1 rfl rfl ?_))))
      exact⟨by rw[mayB,dT d,dT f,dT i,dT j,dT s,dF I];rfl,b.trans L⟩
     refine W.efg rfl rfl rfl (rfl) rfl rfl (Ef.call go134 rfl rfl (fright_F _ s C) ?_)
     rintro _ H ⟨rfl,F⟩
     refine⟨_,rfl,?_⟩
     have k:=o.trans F
     refine Wn 6 rfl (W.skipu rfl rfl rfl rfl rfl (W.skipu rfl rfl rfl rfl rfl (W.skipu rfl rfl rfl rfl rfl (Wn 3 rfl (Nx (Rt (E.ret1 rfl rfl ?_)))))))
     exact⟨by rw[mayB,dT d,dT f,dT i,dT j,dF s];rfl,b.trans k⟩
    refine W.efg rfl rfl rfl (rfl) rfl rfl (Ef.call go223 rfl rfl (within_F _ _ _ j z) ?_)
    rintro _ C ⟨rfl,D⟩
    refine⟨_,rfl,?_⟩
    have o:=n.trans D
    refine Wn 2 rfl (Nx (Sr (Wn 11 rfl (W.skipu rfl rfl rfl rfl rfl (W.skipu rfl rfl rfl rfl rfl (W.skipu rfl rfl rfl rfl rfl (Wn 3 rfl (Nx (Rt (E.ret1 rfl rfl ?_))))))))))
    exact⟨by rw[mayB,dF j,Bool.and_false,Bool.false_and],b.trans o⟩
   refine W.efg rfl rfl rfl (rfl) rfl rfl (Ef.call go223 rfl rfl (within_F _ _ _ i x) ?_)
   rintro _ z ⟨rfl,A⟩
   refine⟨_,rfl,?_⟩
   have n:=m.trans A
   refine Wn 8 rfl (Nx (Sr (Wn 11 rfl (W.skipu rfl rfl rfl rfl rfl (W.skipu rfl rfl rfl rfl rfl (W.skipu rfl rfl rfl rfl rfl (Wn 3 rfl (Nx (Rt (E.ret1 rfl rfl ?_))))))))))
   exact⟨by rw[mayB,dF i,Bool.and_false,Bool.false_and,Bool.false_and],b.trans n⟩
  refine W.efg rfl rfl rfl (rfl) rfl rfl (Ef.call go223 rfl rfl (within_F _ _ _ f u) ?_)
  rintro _ x ⟨rfl,y⟩
  refine⟨_,rfl,?_⟩
  have m:=l.trans y
  refine Wn 14 rfl (Nx (Sr (Wn 11 rfl (W.skipu rfl rfl rfl rfl rfl (W.skipu rfl rfl rfl rfl rfl (W.skipu rfl rfl rfl rfl rfl (Wn 3 rfl (Nx (Rt (E.ret1 rfl rfl ?_))))))))))
  exact⟨by rw[mayB,dF f,Bool.and_false,Bool.false_and,Bool.false_and,Bool.false_and],b.trans m⟩
 refine W.cl go223 rfl rfl (within_F _ _ _ d t) ?_
 rintro _ u ⟨rfl,v⟩
 have l:=LL.trans v
 refine Wn 19 rfl (Nx (Sr (Wn 11 rfl (W.skipu rfl rfl rfl rfl rfl (W.skipu rfl rfl rfl rfl rfl (W.skipu rfl rfl rfl rfl rfl (Wn 3 rfl (Nx (Rt (E.ret1 rfl rfl ?_))))))))))
 exact⟨by rw[mayB,dF d,Bool.false_and,Bool.false_and,Bool.false_and,Bool.false_and],b.trans l⟩
end Go.Proofs.YtocheaahlpiajaaGreatDoor

namespace Go.Proofs.YtocheaahlpiajaaGreatDoor
open Tryz
open Go Go.Sx Go.Hsp Go.Num Go.Osp
set_option maxRecDepth 20000
theorem getp (ks:List Nat){k:Nat}(h:k<ks.length):(ks.map pv)[k]? =some (pv (ks.getD k 0)):=by simp[h,List.getD]
theorem getn (ks:List Nat){k:Nat}(h:k<ks.length):ks[k]? =some (ks.getD k 0):=by simp[h,List.getD]
def xAt:Nat->List Nat->Nat
  |x,[]=>x
  |x,k::ks=>xAt (nextX x k) ks
theorem xAt_snoc (x:Nat)(ks:List Nat)(k:Nat)(key:Nat)(h:ks[k]? =some key):xAt x (ks.take (k+1))=nextX (xAt x (ks.take k)) key:=by
  have ap:∀(l m:List Nat) (x:Nat),xAt x (l++m)=xAt (xAt x l) m:=by
    intro l
    induction l with
    |nil=>intro m n;rfl
    |cons c l ih=>intro m n;exact ih m _
  rw[List.take_add_one,h,ap];rfl
theorem wayB_append:∀(l m:List Nat) (x:Nat),wayB x (l++m)=wayB x l++wayB (xAt x l) m
  |[],_,_=>rfl
  |k::l,m,x=>by rw[List.cons_append,wayB,wayB,wayB_append l m,List.cons_append];rfl
theorem wayB_snoc (x:Nat)(ks:List Nat)(k:Nat)(key:Nat)(h:ks[k]? =some key):wayB x (ks.take (k+1))=wayB x (ks.take k)++[stopB (xAt x (ks.take k)) key]:=by
  rw[List.take_add_one,h,wayB_append];rfl
theorem wayB_sum:∀(ks:List Nat) (x:Nat),∀s∈wayB x ks,s.2.length=32
  |[],_,s,hs=>by simp[wayB]at hs
  |k::ks,x,s,hs=>by
    simp only[wayB,List.mem_cons]at hs
    rcases hs with rfl|hs
    · exact sharedB_length _
    · exact wayB_sum ks _ s hs
theorem keyOk_yes {k:Nat}(h1:¬k=1)(h2:right k=true):keyOk k=true:=by rw[keyOk,h2,decide_eq_true h1];rfl
theorem keyOk_no {k:Nat}(h2:right k=false):keyOk k=false:=by rw[keyOk,h2,Bool.and_false]
def stopRows (l:List Stop):List (List Value):=l.map stopV
theorem stopRows_len (l:List Stop)(h:∀s∈l,s.2.length=32):∀r∈stopRows l,r.length=33:=fun r hr=>by
  obtain⟨s,hs,rfl⟩:=List.mem_map.1 hr
  exact stopV_length s (h s hs)
theorem fillTo_snoc (l:List Stop)(k:Nat)(s:Stop)(h:l[k]? =some s):fillTo [] (l.take (k+1))=fillS (fillTo [] (l.take k)) s:=by
  rw[List.take_add_one,h,fillTo_append];rfl
theorem keys_all (ks:List Nat)(k key:Nat)(h:ks[k]? =some key)(ha:(ks.take k).all keyOk=true):(ks.take (k+1)).all keyOk=keyOk key:=by
  rw[List.take_add_one,h,List.all_append,ha];simp
theorem key_bad (ks:List Nat)(k key:Nat)(h:ks[k]? =some key)(hb:keyOk key=false):keysOk ks=false:=by
  have:ks.all keyOk=false:=by
    rw[<-Bool.not_eq_true,List.all_eq_true]
    intro ha
    have:=ha key (List.mem_of_getElem? h)
    rw[hb]at this;cases this
  rw[keysOk,this,Bool.and_false]
theorem concat_to {A:Option Addr}{n c:Nat}{vs:List Value}{ps:List (List Byte)}(l:List Byte)(m:Nat)(w:World)(hV:Sl w 1 A n vs)(hP:Parts w vs ps)(hfl:ps.flatten=l)(hm:l.length=m)(h0:0<m)(hT:m<=1000000)(hn:n<=1000):Calls prog 128 #[.slice A n c] w fun e w'=>∃A' c',e= .returned (.slice A' m c')/\Own w' w.heap.size 5 1 A' m c' (l.map u8v)/\Le w w':=by
  subst hfl hm
  exact concat_ok w hV hP h0 hT hn
theorem one6 {A B C D E F:Option Addr}{a b c d e f a' b' c' d' e' f':Nat}:∀v∈[Value.slice A a a',Value.slice B b b',Value.slice C c c',Value.slice D d d',Value.slice E e e',Value.slice F f f'],v.oneCell'=true:=fun v hv=>by
  simp at hv;rcases hv with rfl|rfl|rfl|rfl|rfl|rfl<;>rfl
theorem one3 {A B C:Option Addr}{a b c a' b' c':Nat}:∀v∈[Value.slice A a a',Value.slice B b b',Value.slice C c c'],v.oneCell'=true:=fun v hv=>by
  simp at hv;rcases hv with rfl|rfl|rfl<;>rfl

theorem lay_ok (h:Hop)(w:World):Calls prog 129 #[.agg (hopV h).toArray] w fun e w'=>∃A' c',e= .returned (.slice A' 48 c')/\Own w' w.heap.size 5 1 A' 48 c' ((layB h).map u8v)/\Le w w':=by
 refine enter func129 rfl rfl ?_
 have D:=Le.refl w
 refine Sr (W.ef rfl rfl rfl (Ef.boxA rfl fun ab F ac m x=>?_))
 have ad:=D.trans x
 have LL:=Le.refl F
 refine Wn 1 rfl (Nx (Sq (WC.draw [0,1,2,4,5,6,8,9,10,12,13,14,16,17,19,20,3,7,11,15,18,21,22,23,24] mixed (by kernel_rfl) fun H A=>?_)))
 have j:=LL.trans A
 refine Ga rfl (.field0 fa109_0 rfl) (Gd rfl (.loadB na3 rfl (m.le j) (rfl)) (Gd rfl (.convEq (isS underlying3) underlying27 rfl (wrap_usg _)) (Ga rfl (.field0 fa109_1 rfl) (Gd rfl (.loadB na3 rfl (m.le j) (rfl)) (Gd rfl (.convEq (isS underlying3) underlying27 rfl (wrap_usg _)) ?_)))))
 refine Ga rfl (.field0 fa109_2 rfl) (Gd rfl (.loadB na3 rfl (m.le j) (rfl)) (Gd rfl (.convEq (isS underlying3) underlying27 rfl (wrap_usg _)) (Ga rfl (.field0 fa109_3 rfl) (Gd rfl (.loadB na3 rfl (m.le j) (rfl)) (Gd rfl (.convEq (isS underlying3) underlying27 rfl (wrap_usg _)) ?_)))))
 refine Ga rfl (.field0 fa109_4 rfl) (Gd rfl (.loadB na43 rfl (m.le j) (rfl)) (Ga rfl (.field0 fa109_5 rfl) (Gd rfl (.loadB na28 rfl (m.le j) (rfl)) (G.ef rfl rfl rfl rfl rfl (Ef.call go133 rfl rfl (eight_ok (usg h.1) H) ?_)))))
 rintro _ I ⟨g3,rfl,ae,b,y⟩
 refine⟨_,rfl,?_⟩
 have J:=j.trans y
 refine⟨fun _=>y,?_⟩
 refine G.ef rfl rfl rfl rfl rfl (Ef.call go133 rfl rfl (eight_ok (usg h.2.1) I) ?_)
 rintro _ K ⟨g7,rfl,af,c,v⟩
 refine⟨_,rfl,?_⟩
 have L:=J.trans v
 refine⟨fun _=>v,?_⟩
 have b:=b.le v
 refine G.ef rfl rfl rfl rfl rfl (Ef.call go133 rfl rfl (eight_ok (usg h.2.2.1) K) ?_)
 rintro _ N ⟨ah,rfl,ai,d,t⟩
 refine⟨_,rfl,?_⟩
 have O:=L.trans t
 refine⟨fun _=>t,?_⟩
 have b:=b.le t
 have c:=c.le t
 refine G.ef rfl rfl rfl rfl rfl (Ef.call go133 rfl rfl (eight_ok (usg h.2.2.2.1) N) ?_)
 rintro _ P ⟨aj,rfl,ak,k,o⟩
 refine⟨_,rfl,?_⟩
 have Q:=O.trans o
 refine⟨fun _=>o,?_⟩
 have b:=b.le o
 have c:=c.le o
 have d:=d.le o
 refine G.ef rfl rfl rfl rfl rfl (Ef.call go133 rfl rfl (eight_ok (h.2.2.2.2.1) P) ?_)
 rintro _ R ⟨al,rfl,am,u,l⟩
 refine⟨_,rfl,?_⟩
 have S:=Q.trans l
 refine⟨fun _=>l,?_⟩
 have b:=b.le l
 have c:=c.le l
 have d:=d.le l
 have k:=k.le l
 refine G.ef rfl rfl rfl rfl rfl (Ef.call go133 rfl rfl (eight_ok (h.2.2.2.2.2) R) ?_)
 rintro _ an ⟨ao,rfl,ap,z,i⟩
 refine⟨_,rfl,?_⟩
 have T:=S.trans i
 refine⟨fun _=>i,?_⟩
 have b:=b.le i
 have c:=c.le i
 have d:=d.le i
 have k:=k.le i
 have u:=u.le i
 refine G.ef rfl rfl rfl rfl rfl (Ef.buildSliceN [_,_,_,_,_,_] underlying157 el26 rfl one6 rfl (by decide) (by decide) fun aq U ar V f=>?_)
 have X:=T.trans f
 refine⟨fun _=>f,?_⟩
 have b:=b.le f
 have c:=c.le f
 have d:=d.le f
 have k:=k.le f
 have u:=u.le f
 have z:=z.le f
 refine G.ef rfl rfl rfl rfl rfl (Ef.call go128 rfl rfl (concat_to (layB h) 48 U (V.sl (s:=1) (n:=6) rfl) (.cons (b.sb (be8_length _)) (.cons (c.sb (be8_length _)) (.cons (d.sb (be8_length _)) (.cons (k.sb (be8_length _)) (.cons (u.sb (be8_length _)) (.cons (z.sb (be8_length _)) (.nil _))))))) (by simp[layB]) (layB_length h) (by decide) (by decide) (by decide)) ?_)
 rintro _ au ⟨Y,Z,rfl,o1,C⟩
 refine⟨_,rfl,?_⟩
 have aa:=X.trans C
 refine⟨fun _=>C,?_⟩
 refine Gn 1 rfl (G.nil (E.thenN (Rt (E.ret1 rfl rfl ?_))))
 exact⟨Y,Z,rfl,o1.mono (Nat.le_trans x.size (Nat.le_trans A.size (Nat.le_trans y.size (Nat.le_trans v.size (Nat.le_trans t.size (Nat.le_trans o.size (Nat.le_trans l.size (Nat.le_trans i.size f.size)))))))),x.trans aa⟩

theorem read_okO {A:Option Addr}{n c:Nat}{xs:List Byte}(w:World)(hS:Sb w A n xs)(h48:48<=n)(hc:n<=c):Calls prog 137 #[.slice A n c] w fun e w'=>e= .returned (.agg (hopV (readH xs)).toArray)/\Le w w':=by
 refine enter func137 rfl rfl ?_
 have S:=Le.refl w
 refine Sr (W.ef rfl rfl rfl (Ef.allocA z109 fun d T b U V=>?_))
 have X:=S.trans V
 have Y:Blk T d 109 #[.int .i64 0,.int .i64 0,.int .i64 0,.int .i64 0,.int .u64 0,.int .u64 0]:=U
 refine Nx (Sq (WC.drawS (fun f w'=>Ch f w' (some d)) [0,3,4,7,8,11,12,1,2,15,5,6,9,10,13,14,16,17,18,19,20,21,22] mixed (by kernel_rfl) fun f o=>⟨Ch.refl _ _,?_⟩))
 have s:=X.trans o
 refine GS.any rfl rfl (.move rfl) rfl rfl rfl (GS.any rfl rfl (.move rfl) rfl rfl rfl (GS.any rfl rfl (.cutL (8) underlying26 sz5 rfl rfl (rfl) (by omega) (hc)) rfl rfl rfl (GS.any rfl rfl (.move rfl) rfl rfl rfl (GS.any rfl rfl (.cutL (16) underlying26 sz5 rfl rfl (rfl) (by omega) (hc)) rfl rfl rfl (GS.any rfl rfl (.move rfl) rfl rfl rfl ?_)))))
 refine GS.any rfl rfl (.cutL (24) underlying26 sz5 rfl rfl (rfl) (by omega) (hc)) rfl rfl rfl (GS.ef rfl rfl rfl rfl rfl (Ef.call go135 rfl rfl (number_ok f (hS.le s) (by omega) hc) ?_))
 rintro _ Z ⟨rfl,h⟩
 refine⟨_,rfl,?_⟩
 have t:=s.trans h
 have u:=h.ch (some d)
 refine⟨u,?_⟩
 refine GS.rd rfl rfl (fun w' hs=> .convEq (isS underlying27) underlying3 rfl (wrap_sgn _ (numB_lt _))) rfl rfl rfl (GS.any rfl rfl (.field0 fa109_0 rfl) rfl rfl rfl (GS.ef rfl rfl rfl rfl rfl (Ef.call go135 rfl rfl (number_ok Z ((hS.le t).cutL c 8 (by omega) hc) (by omega) (by omega)) ?_)))
 rintro _ aa ⟨rfl,i⟩
 refine⟨_,rfl,?_⟩
 have v:=t.trans i
 have x:=u.trans (i.ch _)
 refine⟨x,?_⟩
 refine GS.rd rfl rfl (fun w' hs=> .convEq (isS underlying27) underlying3 rfl (wrap_sgn _ (numB_lt _))) rfl rfl rfl (GS.ef rfl rfl rfl rfl rfl (Ef.call go135 rfl rfl (number_ok aa ((hS.le v).cutL c 16 (by omega) hc) (by omega) (by omega)) ?_))
 rintro _ ab ⟨rfl,j⟩
 refine⟨_,rfl,?_⟩
 have y:=v.trans j
 have z:=x.trans (j.ch _)
 refine⟨z,?_⟩
 refine GS.rd rfl rfl (fun w' hs=> .convEq (isS underlying27) underlying3 rfl (wrap_sgn _ (numB_lt _))) rfl rfl rfl (GS.ef rfl rfl rfl rfl rfl (Ef.call go135 rfl rfl (number_ok ab ((hS.le y).cutL c 24 (by omega) hc) (by omega) (by omega)) ?_))
 rintro _ aH ⟨rfl,k⟩
 refine⟨_,rfl,?_⟩
 have ac:=y.trans k
 have C:=z.trans (k.ch _)
 refine⟨C,?_⟩
 refine GS.rd rfl rfl (fun w' hs=> .convEq (isS underlying27) underlying3 rfl (wrap_sgn _ (numB_lt _))) rfl rfl rfl (GS.ef0 rfl rfl rfl rfl (Ef.store sz3 rfl rfl (Y.le (o.trans (h.trans (i.trans (j.trans k))))) (by simp) (rfl) ?_))
 intro ad ae D
 have af:Le w ad:=ac.then_ D (fun q hq=>by cases hq;exact b)
 have F:=C.trans D
 refine⟨F,?_⟩
 refine GS.any rfl rfl (.field0 fa109_1 rfl) rfl rfl rfl (GS.ef0 rfl rfl rfl rfl (Ef.store sz3 rfl rfl (ae) (by simp) (rfl) ?_))
 intro ah ai H
 have aj:Le w ah:=af.then_ H (fun q hq=>by cases hq;exact b)
 have I:=F.trans H
 refine⟨I,?_⟩
 refine GS.any rfl rfl (.field0 fa109_2 rfl) rfl rfl rfl (GS.ef0 rfl rfl rfl rfl (Ef.store sz3 rfl rfl (ai) (by simp) (rfl) ?_))
 intro ak al J
 have am:Le w ak:=aj.then_ J (fun q hq=>by cases hq;exact b)
 have K:=I.trans J
 refine⟨K,?_⟩
 refine GS.any rfl rfl (.field0 fa109_3 rfl) rfl rfl rfl (GS.ef0 rfl rfl rfl rfl (Ef.store sz3 rfl rfl (al) (by simp) (rfl) ?_))
 intro an ao L
 have ap:Le w an:=am.then_ L (fun q hq=>by cases hq;exact b)
 have aq:=K.trans L
 refine⟨aq,?_⟩
 refine GS.nil (E.thenN (Sq (WC.draw [0,1,3,4,2,6,5,7,8,9] mixed (by kernel_rfl) fun w2 N=>?_)))
 have O:=ap.trans N
 refine Gn 1 rfl (Ga rfl (.cutL (32) underlying26 sz5 rfl rfl (rfl) (by omega) (hc)) (Gn 1 rfl (Ga rfl (.cutL (40) underlying26 sz5 rfl rfl (rfl) (by omega) (hc)) (G.ef rfl rfl rfl rfl rfl (Ef.call go135 rfl rfl (number_ok w2 ((hS.le O).cutL c 32 (by omega) hc) (by omega) (by omega)) ?_)))))
 rintro _ ar ⟨rfl,l⟩
 refine⟨_,rfl,?_⟩
 have P:=O.trans l
 refine⟨fun _=>l,?_⟩
 refine Ga rfl (.field0 fa109_4 rfl) (G.ef rfl rfl rfl rfl rfl (Ef.call go135 rfl rfl (number_ok ar ((hS.le P).cutL c 40 (by omega) hc) (by omega) (by omega)) ?_))
 rintro _ aI ⟨rfl,m⟩
 refine⟨_,rfl,?_⟩
 have au:=P.trans m
 refine⟨fun _=>m,?_⟩
 refine G.ef0 rfl rfl rfl rfl (Ef.store sz43 rfl rfl (ao.le (N.trans (l.trans m))) (by simp) (rfl) ?_)
 intro av aw ax
 have ay:Le w av:=au.then_ ax (fun q hq=>by cases hq;exact b)
 refine noT (by kernel_rfl) (Ga rfl (.field0 fa109_5 rfl) (G.ef0 rfl rfl rfl rfl (Ef.store sz28 rfl rfl (aw) (by simp) (rfl) ?_)))
 intro Q az aA
 have aB:Le w Q:=ay.then_ aA (fun q hq=>by cases hq;exact b)
 refine noT (by kernel_rfl) ?_
 have R:Blk Q d 109 (hopV (readH xs)).toArray:=az.cast (by rfl)
 refine G.nil (E.thenN (Sr (Wr (.loadAll ag109 (by rfl) rfl (R)) rfl ?_)))
 refine W.ef0 rfl rfl (Ef.storeAll sz109 (by rfl) rfl rfl (R) (by rfl) (hopV_one _) ?_)
 intro aC aE aF
 have aG:Le w aC:=aB.then_ aF (fun q hq=>by cases hq;exact b)
 refine Nx (Rt (E.retC rfl rfl aE ag109 (by rfl) ?_))
 exact⟨rfl,aG⟩

theorem stopped_ok (ee both:Nat)(w:World):Calls prog 136 #[.int .u64 ((ee:Nat):Int),.int .u64 ((both:Nat):Int)] w fun e w'=>e= .returned (.agg (stopV (ee,sharedB both)).toArray)/\Le w w':=by
 refine enter func136 rfl rfl ?_
 have h:=Le.refl w
 refine Sr (W.ef rfl rfl rfl (Ef.allocA z209 fun D i j k l=>?_))
 have m:=h.trans l
 refine Nx (Sr (Wn 2 rfl (W.cl go133 rfl rfl (eight_ok both i) ?_)))
 rintro _ F ⟨H,rfl,I,b,d⟩
 have o:=m.trans d
 refine W.ef rfl rfl rfl (Ef.buildSlice1 underlying157 el26 rfl rfl fun J t K u c=>?_)
 have v:=o.trans c
 have b:=b.le c
 refine W.cl go21 rfl rfl (tag_ok _ nShared t (ps:=[be8 both]) rfl (u.sl (s:=1) (n:=1) rfl) (.cons (b.sb (be8_length _)) (.nil _)) (by rw[tagLen1,be8_length];decide)) ?_
 rintro _ L ⟨rfl,f⟩
 have x:=v.trans f
 refine Wa (.as (Any.buildAll [.int .u64 (ee:Nat),.agg ((sharedB both).map u8v).toArray] pl209 z209 rfl ⟨rfl,by simp[Value.cells,sharedB_length],trivial⟩ (by simp[flatV,Value.cells,sharedB_length])) (show _=Value.agg (stopV (ee,sharedB both)).toArray by simp[flatV,Value.cells,stopV])) rfl ?_
 refine W.ef0 rfl rfl (Ef.storeAll sz209 (by simp[stopV,sharedB_length]) rfl rfl (((k.le d).le c).le f) (by simp[stopV,sharedB_length]) (stopV_one _) ?_)
 intro y z A
 have C:Le w y:=x.then_ A (fun q hq=>by cases hq;exact j)
 refine Nx (Rt (E.retC rfl rfl z ag209 (by simp[stopV,sharedB_length]) ?_))
 exact⟨rfl,C⟩

theorem blind_ok (s:Stop)(hs:s.2.length=32)(w:World):Calls prog 138 #[.agg (stopV s).toArray] w fun e w'=>e= .returned (.int .u64 ((blindB s:Nat):Int))/\Le w w':=by
 refine enter func138 rfl rfl ?_
 have l:=Le.refl w
 refine Sr (W.ef rfl rfl rfl (Ef.boxA rfl fun D m F c d=>?_))
 have H:=l.trans d
 have LL:=Le.refl m
 refine Wn 1 rfl (Nx (Sq (WC.draw [0,1,3,4,2,5,6,7,8] mixed (by kernel_rfl) fun o t=>?_)))
 have f:=LL.trans t
 refine Ga rfl (.field0 fa209_0 rfl) (Gd rfl (.loadB na43 rfl (c.le f) (rfl)) (Ga rfl (.field0 fa209_1 rfl) (Ga rfl (.cutArrO underlying30 sz5 (by decide) rfl) (G.ef rfl rfl rfl rfl rfl (Ef.call go133 rfl rfl (eight_ok s.1 o) ?_)))))
 rintro _ I ⟨J,rfl,K,u,h⟩
 refine⟨_,rfl,?_⟩
 have v:=f.trans h
 refine⟨fun _=>h,?_⟩
 refine G.ef rfl rfl rfl rfl rfl (Ef.buildSliceN [_,_] underlying157 el26 rfl (one2 _ _ _ _ _ _) rfl (by decide) (by decide) fun L x N y b=>?_)
 have i:=v.trans b
 refine⟨fun _=>b,?_⟩
 refine G.ef rfl rfl rfl rfl rfl (Ef.call go21 rfl rfl (tag_ok _ nBlind x (ps:=[be8 s.1,s.2]) rfl (y.sl (s:=1) (n:=2) rfl) (.cons ((u.le b).sb (be8_length _)) (.cons ((c.le i).sbAt 1 32 s.2 hs (stopV_at s)) (.nil _))) (by rw[tagLen2,be8_length,hs];decide)) ?_)
 rintro _ z ⟨rfl,j⟩
 refine⟨_,rfl,?_⟩
 have A:=i.trans j
 refine⟨fun _=>j,?_⟩
 refine G.ef rfl rfl rfl rfl rfl (Ef.call go169 rfl rfl (from_ok _ (tag_length _ _) z) ?_)
 rintro _ O ⟨rfl,k⟩
 refine⟨_,rfl,?_⟩
 have C:=A.trans k
 refine⟨fun _=>k,?_⟩
 refine Gn 1 rfl (G.nil (E.thenN (Rt (E.ret1 rfl rfl ?_))))
 exact⟨rfl,d.trans C⟩

theorem rho_ok (s:Stop)(hs:s.2.length=32)(n:Nat)(hn:n<=65536)(w:World):Calls prog 130 #[.agg (stopV s).toArray,.int .i64 (n:Int)] w fun e w'=>∃A c,e= .returned (.slice A n c)/\Own w' w.heap.size 5 1 A n c ((rho s n).map u8v)/\Le w w':=by
 refine enter func130 rfl rfl ?_
 have h:=Le.refl w
 refine Sr (W.ef rfl rfl rfl (Ef.boxA rfl fun C i D j b=>?_))
 have F:=h.trans b
 have LL:=Le.refl i
 refine Wn 1 rfl (Nx (Sr (Wa (.field0 fa209_1 rfl) rfl (Wa (.cutArrO underlying30 sz5 (by decide) rfl) rfl (W.ef rfl rfl rfl (Ef.buildSlice1 underlying157 el26 rfl rfl fun H k I l m=>?_))))))
 have d:=LL.trans m
 refine W.cl go21 rfl rfl (tag_ok _ nRho k (ps:=[s.2]) rfl (l.sl (s:=1) (n:=1) rfl) (.cons ((j.le d).sbAt 1 32 s.2 hs (stopV_at s)) (.nil _)) (by rw[tagLen1,hs];decide)) ?_
 rintro _ o ⟨rfl,t⟩
 have f:=d.trans t
 refine Wn 1 rfl (W.cl go125 rfl rfl (stream_ok _ (tag_length _ _) n hn o) ?_)
 rintro _ J ⟨u,v,rfl,x,y⟩
 have z:=f.trans y
 refine Wn 1 rfl (Nx (Rt (E.ret1 rfl rfl ?_)))
 exact⟨u,v,rfl,x.mono (b.trans f).size,b.trans z⟩

theorem mac_ok (s:Stop)(hs:s.2.length=32){A:Option Addr}{n c:Nat}{xs:List Byte}(w:World)(hS:Sb w A n xs)(hn:n<=1000000):Calls prog 132 #[.agg (stopV s).toArray,.slice A n c] w fun e w'=>e= .returned (.agg ((macB s xs).map u8v).toArray)/\Le w w':=by
 refine enter func132 rfl rfl ?_
 have j:=Le.refl w
 refine Sr (W.ef rfl rfl rfl (Ef.boxA rfl fun F f H k b=>?_))
 have I:=j.trans b
 have LL:=Le.refl f
 refine W.ef rfl rfl rfl (Ef.allocA z30 fun J K l m o=>?_)
 have t:=LL.trans o
 refine Nx (Sr (Wa (.field0 fa209_1 rfl) rfl (Wa (.cutArrO underlying30 sz5 (by decide) rfl) rfl (Wn 1 rfl (W.ef rfl rfl rfl (Ef.buildSliceN [_,_] underlying157 el26 rfl (one2 _ _ _ _ _ _) rfl (by decide) (by decide) fun L u N v h=>?_))))))
 have d:=t.trans h
 refine W.cl go21 rfl rfl (tag_ok _ nMac u (ps:=[s.2,xs]) rfl (v.sl (s:=1) (n:=2) rfl) (.cons ((k.le d).sbAt 1 32 s.2 hs (stopV_at s)) (.cons (hS.le (b.trans d)) (.nil _))) (by rw[tagLen2,hs,hS.len];show 24+3+32+n<=_;omega)) ?_
 rintro _ O ⟨rfl,i⟩
 have x:=d.trans i
 refine W.ef0 rfl rfl (Ef.storeAll sz30 (by simp[tag_length]) rfl rfl ((m.le h).le i) (by simp[tag_length]) (all_u8v _) ?_)
 intro y z C
 have D:Le f y:=x.then_ C (fun q hq=>by cases hq;exact l)
 refine Nx (Rt (E.retC rfl rfl z ag30 (by simp[tag_length]) ?_))
 exact⟨rfl,b.trans D⟩

theorem pright_T (a:Nat)(ha:a<18446744073709551616)(h:right a=true)(w:World):Calls prog 75 #[.int .u64 ((a:Nat):Int)] w fun e w'=>e= .returned (.bool true)/\Le w w':=by
  have:=pright_ok a ha w
  rwa [h]at this

theorem pright_F (a:Nat)(ha:a<18446744073709551616)(h:right a=false)(w:World):Calls prog 75 #[.int .u64 ((a:Nat):Int)] w fun e w'=>e= .returned (.bool false)/\Le w w':=by
  have:=pright_ok a ha w
  rwa [h]at this

set_option maxHeartbeats 1000000 in
theorem way_ok (seed:List Byte) (hse:seed.length=32) {A:Option Addr} {n c:Nat} {ks:List Nat} (w:World) (hK:Sl w 1 A n (ks.map pv)) (hks:∀k∈ks,k<18446744073709551616) (hn:n<=1000000):Calls prog 123 #[.slice A n c,.agg (seed.map u8v).toArray] w fun e w'=>Le w w'/\((keysOk ks=true/\∃A' c',e= .returned (.tuple #[.slice A' n c',.bool true])/\Own w' w.heap.size 209 33 A' n c' (stopRows (wayB (startX seed) ks)).flatten)\/(keysOk ks=false/\e= .returned (.tuple #[.slice none 0 0,.bool false]))):=by
 have N:=hK.1
 rw[List.length_map,Nat.mul_one]at N
 refine enter func123 rfl rfl ?_
 have O:=Le.refl w
 refine Sr (W.ef rfl rfl rfl (Ef.boxA rfl fun az aA aB P Q=>?_))
 have t:=O.trans Q
 refine Wn 2 rfl (Nx (Sq (Sr (Wn 1 rfl (Wr (.len underlying39 rfl) rfl ?_)))))
 by_cases aC:n<1
 ·refine Wa (.dec (.lss rfl rfl) (dT (by omega))) rfl (Wn 5 rfl (Nx (WC.condT rfl (Sr (Wn 2 rfl (Nx (Rt (E.thenR (E.ret2 rfl rfl rfl ?_)))))))))
  exact⟨t,.inr ⟨by simp[keysOk];omega,rfl⟩⟩
 refine Wa (.dec (.lss rfl rfl) (dF (by omega))) rfl (Wn 2 rfl (Wg (.len underlying39 rfl) rfl ?_))
 by_cases aE:8<n
 ·refine Wg (Any.rd (.dec (.gtr rfl rfl) (dT (by omega))) _) rfl (Wn 1 rfl (Nx (WC.condT rfl (Sr (Wn 2 rfl (Nx (Rt (E.thenR (E.ret2 rfl rfl rfl ?_)))))))))
  exact⟨t,.inr ⟨by simp[keysOk];omega,rfl⟩⟩
 refine Wg (Any.rd (.dec (.gtr rfl rfl) (dF (by omega))) _) rfl (Wn 1 rfl (Nx (WC.condF rfl (Sn (Sr (Wa (.cutArr underlying30 sz5 rfl) rfl (W.ef rfl rfl rfl (Ef.buildSlice1 underlying157 el26 rfl rfl fun aF R aG S y=>?_))))))))
 have T:=t.trans y
 refine W.cl go21 rfl rfl (tag_ok _ nOnion R (ps:=[seed]) rfl (S.sl (s:=1) (n:=1) rfl) (.cons ((P.le y).sb hse) (.nil _)) (by rw[tagLen1,hse];decide)) ?_
 rintro _ U ⟨rfl,V⟩
 have X:=T.trans V
 refine W.cl go169 rfl rfl (from_ok _ (tag_length _ _) U) ?_
 rintro _ aH ⟨rfl,Y⟩
 have Z:=X.trans Y
 refine Wn 1 rfl (Nx (Sq (Sr (Wn 1 rfl (Wr (.len underlying39 rfl) rfl (Wn 1 rfl (Nx (WC.block (WC.loop (ι:=Nat×Option Addr×Nat) (fun⟨k,b,cp⟩=>[(4,.slice b k cp),(6,.int .u64 ((xAt (startX seed) (ks.take k):Nat):Int)),(22,.slice A n c),(23,.int .i64 (n:Int)),(24,.int .i64 (k:Int))]) (fun⟨k,b,cp⟩ wl=>k<=n/\Le w wl/\(ks.take k).all keyOk=true/\Own wl w.heap.size 209 33 b k cp (stopRows (wayB (startX seed) (ks.take k))).flatten) (fun⟨k,b,cp⟩=>n-k) (0,none,0) ?_ ?_ ?_)))))))))
 ·exact .of rfl
 ·exact⟨Nat.zero_le _,Z,rfl,Own.nil _ _ _ _ _⟩
 rintro⟨k,b,cp⟩ wl ⟨hk,Ll,hall,ol⟩
 refine Sr (Wn 1 rfl (Nx (Sq (WC.cond rfl (fun c1=>?_) (fun c1=>?_)))))
 ·have hkey:=getn ks (show k<ks.length by omega)
  have hkl:ks.getD k 0<18446744073709551616:=hks _ (List.mem_of_getElem? hkey)
  refine Sn (Sq (WC.block (Sr (Wa (.idxS1 (k) underlying39 sz43 rfl rfl (hK.isSome (j:=k) (by omega) (by decide)) (rfl) (by omega)) rfl (Wr (.loadS na43 rfl (hK.le Ll) (getp ks (by omega))) rfl (Wn 1 rfl (Nx (Sq (Sr (Wn 1 rfl ?_))))))))))
  by_cases z:ks.getD k 0=1
  ·refine Wa (.dec (.eql rfl rfl) (dT (by omega))) rfl (Wn 5 rfl (Nx (WC.condT rfl (Sr (Wn 2 rfl (Nx (Rt (E.thenR (E.blkR (E.thenR (E.thenR (E.blkR (E.thenR (E.ret2 rfl rfl rfl ?_))))))))))))))
   exact⟨Ll,.inr ⟨key_bad ks k _ hkey (by rw[z];rfl),rfl⟩⟩
  refine Wa (.dec (.eql rfl rfl) (dF (by omega))) rfl (Wn 2 rfl ?_)
  by_cases hrt:right (ks.getD k 0)=true
  ·refine W.efg rfl rfl rfl (rfl) rfl rfl (Ef.call go75 rfl rfl (pright_T _ hkl hrt wl) ?_)
   rintro _ C ⟨rfl,d⟩
   refine⟨_,rfl,?_⟩
   have u:=Ll.trans d
   refine Wn 2 rfl (Nx (WC.condF rfl (Sn (Sr (Wn 1 rfl (W.cl go20 rfl rfl (base_ok _ C) ?_))))))
   rintro _ aa ⟨rfl,h⟩
   have ab:=u.trans h
   refine Wn 2 rfl (W.cl go77 rfl rfl (scale_ok _ _ hkl aa) ?_)
   rintro _ ac ⟨rfl,i⟩
   have ad:=ab.trans i
   refine W.cl go136 rfl rfl (stopped_ok _ _ ac) ?_
   rintro _ aI ⟨rfl,l⟩
   have D:=ad.trans l
   refine W.ef rfl rfl rfl (Ef.allocA z209 fun ae aJ af ah F=>?_)
   have ai:=D.trans F
   refine W.ef0 rfl rfl (Ef.storeAll sz209 (by simp[stopV,sharedB_length]) rfl rfl (ah) (by simp[stopV,sharedB_length]) (stopV_one _) ?_)
   intro aj ak H
   have al:Le w aj:=ai.tb H D af
   have am:=(ol.le (d.trans (h.trans (i.trans (l.trans F))))).ch H (fun q hq=>by cases hq;exact fun he=>by have:=(ol.row he).2;have:=d.size;have:=h.size;have:=i.size;have:=l.size;omega)
   have hrow:∀q,rowOf b cp=some q->q≠ae:=fun q hq he=>by subst he;have:=(ol.row hq).2;have:=d.size;have:=h.size;have:=i.size;have:=l.size;omega
   refine Nx (WC.drawS (fun I w'=>Ch I w' (rowOf b cp)) [0,1,4,5,2,3,6,7,8,9] mixed (by kernel_rfl) fun I v=>⟨Ch.refl _ _,?_⟩)
   have an:=al.trans v
   have ao:=am.le v
   have J:=ak.le v
   refine GS.any rfl rfl (.move rfl) rfl rfl rfl (GS.rd rfl rfl (fun w' hs=> .loadAll ag209 (by simp[stopV,sharedB_length]) rfl (J.ch hs (fun he=>hrow _ he rfl))) rfl rfl rfl ?_)
   refine GS.any rfl rfl (.move rfl) rfl rfl rfl (GS.rd rfl rfl (fun w' hs=> .loadAll ag209 (by simp[stopV,sharedB_length]) rfl (J.ch hs (fun he=>hrow _ he rfl))) rfl rfl rfl ?_)
   refine GS.ef rfl rfl rfl rfl rfl (Ef.buildSliceA underlying200 el209 (by decide) rfl (by simp[stopV,sharedB_length]) ?_)
   intro aK aL aM ap f
   have K:=an.trans f
   refine⟨f.ch _,?_⟩
   refine GS.ef rfl rfl rfl rfl rfl (Ef.append underlying200 el209 rfl (ao.le f) rfl (ap.srcA underlying200 (by simp[stopV,sharedB_length]) (by decide) (stopV_one _)) (by omega) (by unfold maxLen;omega) (K.size) ?_)
   intro aq ar L au m aO
   have av:Le w L:=K.then_ m (fun q hq=>(ol.row hq).1)
   refine⟨(f.ch _).trans m,?_⟩
   have oo:=au
   refine GS.ef rfl rfl rfl rfl rfl (Ef.call go138 rfl rfl (blind_ok _ (sharedB_length _) L) ?_)
   rintro _ aw ⟨rfl,o⟩
   refine⟨_,rfl,?_⟩
   have ax:=av.trans o
   refine⟨((f.ch _).trans m).trans (o.ch _),?_⟩
   refine GS.ef rfl rfl rfl rfl rfl (Ef.call go222 rfl rfl (fmul_ok _ _ aw) ?_)
   rintro _ aP ⟨rfl,x⟩
   refine⟨_,rfl,?_⟩
   have ay:=ax.trans x
   refine⟨(((f.ch _).trans m).trans (o.ch _)).trans (x.ch _),?_⟩
   refine GS.any rfl rfl (.assign rfl) rfl rfl rfl (GS.any rfl rfl (.assign rfl) rfl rfl rfl (GS.nil (E.blkN (E.thenN (WC.region (Wa (.add rfl rfl (by omega)) rfl (Wn 1 rfl (W.nil ?_))))))))
   refine E.again (k+1,aq,ar) (.cons rfl (.cons' rfl (int_eq (congrArg Nat.cast (by rw[xAt_snoc _ ks k _ hkey];rfl))) (.of rfl))) ?_ ?_
   ·exact⟨by omega,ay,by rw[keys_all ks k _ hkey hall];exact keyOk_yes z hrt,(oo.le (o.trans x)).cast rfl (by rw[wayB_snoc _ ks k _ hkey];simp[stopRows,stopB])⟩
   first|omega|(simp only[];omega)
  refine W.efg rfl rfl rfl (rfl) rfl rfl (Ef.call go75 rfl rfl (pright_F _ hkl (by simpa using hrt) wl) ?_)
  rintro _ C ⟨rfl,d⟩
  refine⟨_,rfl,?_⟩
  have u:=Ll.trans d
  refine Wn 2 rfl (Nx (WC.condT rfl (Sr (Wn 2 rfl (Nx (Rt (E.thenR (E.blkR (E.thenR (E.thenR (E.blkR (E.thenR (E.ret2 rfl rfl rfl ?_)))))))))))))
  exact⟨u,.inr ⟨key_bad ks k _ hkey (keyOk_no (by simpa using hrt)),rfl⟩⟩
 have hkn:n=k:=by omega
 subst hkn
 rw[List.take_of_length_le (by omega)]at hall ol
 refine WC.exit (E.thenX (E.thenX (E.blkH (E.thenN (Sr (Wn 3 rfl (Nx (Rt (E.ret2 rfl rfl rfl ?_)))))))))
 exact⟨Ll,.inl ⟨by rw[keysOk,hall];simp;omega,b,cp,rfl,ol⟩⟩
end Go.Proofs.YtocheaahlpiajaaGreatDoor

namespace Go.Proofs.YtocheaahlpiajaaGreatDoor
open Tryz
open Go Go.Sx Go.Hsp Go.Num Go.Osp Go.Gsp
set_option maxRecDepth 20000
def polV (p:Pol):List Value:=[.int .i64 p.b,.int .i64 p.p,.int .i64 p.d,.int .i64 p.l,.int .i64 p.m]
theorem polV_row:RowF polV 5:=⟨fun _=>rfl,fun x v hv=>by simp[polV]at hv;rcases hv with rfl|rfl|rfl|rfl|rfl<;>rfl,by decide⟩
def edgeV (e:Gsp.Edge):List Value:=[.int .i64 e.f,.int .i64 e.t,.int .i64 e.c,.int .i64 e.r,.int .i64 e.pol.b,.int .i64 e.pol.p,.int .i64 e.pol.d,.int .i64 e.pol.l,.int .i64 e.pol.m]
theorem edgeV_row:RowF edgeV 9:=⟨fun _=>rfl,fun x v hv=>by simp[edgeV]at hv;rcases hv with rfl|rfl|rfl|rfl|rfl|rfl|rfl|rfl|rfl<;>rfl,by decide⟩
theorem hopV_row:RowF hopV 6:=⟨fun _=>rfl,hopV_one,by decide⟩
theorem partC_nat (an nn:Nat):partC an nn=if an<=1125899906842624/\an*nn/1000000<=1125899906842624 then(((an*nn/1000000:Nat):Int),true)else(0,false):=by
  have e:(an:Int)*(nn:Int)/1000000=((an*nn/1000000:Nat):Int):=by rw[Int.natCast_ediv,Int.natCast_mul];rfl
  unfold partC
  rw[e]
  by_cases h:an<=1125899906842624/\an*nn/1000000<=1125899906842624
  · rw[if_pos h,if_pos (by simp[coinB,inB];omega)]
  · rw[if_neg h,if_neg (by simp[coinB,inB];omega)]
def orL:List Int->Int
  |[]=>0
  |x::l=>if x≠0 then x else orL l
theorem orL_skip:∀(l:List Int) (k:Nat),(∀j,j<k->l.getD j 0=0)->orL l=orL (l.drop k)
  |_,0,_=>rfl
  |[],k+1,_=>by simp
  |x::l,k+1,h=>by
    have h0:x=0:=h 0 (by omega)
    rw[orL,if_neg (by simp[h0]),List.drop_succ_cons]
    exact orL_skip l k (fun j hj=>h (j+1) (by omega))
theorem gin_ok (n lo hi:Int)(w:World):Calls prog 102 #[.int .i64 (n),.int .i64 (lo),.int .i64 (hi)] w fun r w'=>r= .returned (.bool (inB n lo hi))/\Le w w':=by
 refine enter func102 rfl rfl ?_
 have c:=Le.refl w
 refine Sr (Wn 1 rfl (Nx (Sr (Wn 3 rfl ?_))))
 by_cases b:lo<=n
 ·refine Dt b rfl rfl (Wn 5 rfl (Nx (Rt (E.retG1 rfl rfl ?_))))
  exact⟨rB (by simp[inB,b]),c⟩
 refine Df b rfl rfl (Wn 5 rfl (Nx (Rt (E.retG1 rfl rfl ?_))))
 exact⟨rB (by simp[inB,b]),c⟩

theorem hin_ok (n lo hi:Int)(w:World):Calls prog 144 #[.int .i64 (n),.int .i64 (lo),.int .i64 (hi)] w fun r w'=>r= .returned (.bool (inB n lo hi))/\Le w w':=by
 refine enter func144 rfl rfl ?_
 have c:=Le.refl w
 refine Sr (Wn 1 rfl (Nx (Sr (Wn 3 rfl ?_))))
 by_cases b:lo<=n
 ·refine Dt b rfl rfl (Wn 5 rfl (Nx (Rt (E.retG1 rfl rfl ?_))))
  exact⟨rB (by simp[inB,b]),c⟩
 refine Df b rfl rfl (Wn 5 rfl (Nx (Rt (E.retG1 rfl rfl ?_))))
 exact⟨rB (by simp[inB,b]),c⟩

theorem coins_ok (a:Int)(w:World):Calls prog 207 #[.int .i64 (a)] w fun r w'=>r= .returned (.bool (coinB a))/\Le w w':=by
 refine enter func207 rfl rfl ?_
 have c:=Le.refl w
 refine Sr (Wn 1 rfl (Nx (Sr (Wn 2 rfl ?_))))
 by_cases b:0<=a
 ·refine Dt b rfl rfl (Wn 4 rfl (Nx (Rt (E.retG1 rfl rfl ?_))))
  exact⟨rB (by simp[coinB,inB,b]),c⟩
 refine Df b rfl rfl (Wn 4 rfl (Nx (Rt (E.retG1 rfl rfl ?_))))
 exact⟨rB (by simp[coinB,inB,b]),c⟩

theorem nadd_ok (a b:Int)(w:World):Calls prog 104 #[.int .i64 (a),.int .i64 (b)] w fun r w'=>r= .returned (.tuple #[.int .i64 (addC a b).1,.bool (addC a b).2])/\Le w w':=by
 refine enter func104 rfl rfl (Sr (Wn 2 rfl (Nx (Sq (Sr (Wn 1 rfl (W.cl go207 rfl rfl (coins_ok a w) ?_)))))))
 rintro _ i ⟨rfl,j⟩
 have h:=(Le.refl w).trans j
 refine Wn 1 rfl ?_
 by_cases c:(coinB a)=true
 ·refine Wa (.dec (.move rfl) (congrArg not (c))) rfl (Wn 1 rfl (W.efg rfl rfl rfl (rfl) rfl rfl (Ef.call go207 rfl rfl (coins_ok b i) ?_)))
  rintro _ l ⟨rfl,k⟩
  refine⟨_,rfl,?_⟩
  have f:=h.trans k
  refine Wn 2 rfl ?_
  by_cases d:(coinB b)=true
  ·refine Wa (.dec (.move rfl) (congrArg not (d))) rfl (Wn 2 rfl ?_)
   have m:=inB_T (show inB b 0 1125899906842624=true by assumption)
   refine Wg (Any.rd (.sub rfl rfl (by omega)) _) rfl (Wn 2 rfl (Nx ?_))
   by_cases e:(1125899906842624-b)<a
   ·refine Cy rfl (dT e) (Sr (Wn 2 rfl (Nx (Rt (E.thenR (E.retG2 rfl rfl rfl ?_))))))
    exact⟨(by first|rfl|(simp[addC,c,d,e];done)|(simp[addC,c,d,e];omega)|(simp[addC,c,d,e];split<;>first|(exfalso;omega)|(simp;done)|(simp;omega))),f⟩
   refine Cn rfl (dF e) (Sn (Sr (Wn 2 rfl (Wa (.add rfl rfl (by have:=inB_T (show inB a 0 1125899906842624=true by assumption);have:=inB_T (show inB b 0 1125899906842624=true by assumption);omega)) rfl ?_))))
   refine Wn 2 rfl (Nx (Rt (E.retG2 rfl rfl rfl ?_)))
   exact⟨(by first|rfl|(simp[addC,c,d,e];done)|(simp[addC,c,d,e];omega)|(simp[addC,c,d,e];split<;>first|(exfalso;omega)|(simp;done)|(simp;omega))),f⟩
  refine Wa (.dec (.move rfl) (congrArg not ((Bool.eq_false_iff.2 d)))) rfl (Wn 5 rfl (Nx (WC.condT rfl (Sr (Wn 2 rfl (Nx (Rt (E.thenR (E.retG2 rfl rfl rfl ?_)))))))))
  exact⟨(by first|rfl|(simp[addC,c,d];done)|(simp[addC,c,d];omega)|(simp[addC,c,d];split<;>first|(exfalso;omega)|(simp;done)|(simp;omega))),f⟩
 refine Wa (.dec (.move rfl) (congrArg not ((Bool.eq_false_iff.2 c)))) rfl (Wn 10 rfl (Nx (WC.condT rfl (Sr (Wn 2 rfl (Nx (Rt (E.thenR (E.retG2 rfl rfl rfl ?_)))))))))
 exact⟨(by first|rfl|(simp[addC,c];done)|(simp[addC,c];omega)|(simp[addC,c];split<;>first|(exfalso;omega)|(simp;done)|(simp;omega))),h⟩

theorem npart0_ok (a num:Int)(hn:num<=9223372036854775807)(w:World):Calls prog 273 #[.int .i64 (a),.int .i64 (num),.int .i64 (1000000)] w fun r w'=>∃b:Bool,r= .returned (.tuple #[.int .i64 (partC a num).1,.bool b,.bool (partC a num).2])/\Le w w':=by
 refine enter func273 rfl rfl (Sr (Wn 3 rfl (Nx (Sq (Sr (Wn 1 rfl (W.cl go207 rfl rfl (coins_ok a w) ?_)))))))
 rintro _ k ⟨rfl,l⟩
 have e:=(Le.refl w).trans l
 refine Wn 1 rfl ?_
 by_cases c:(coinB a)=true
 ·refine Wa (.dec (.move rfl) (congrArg not (c))) rfl (Wn 3 rfl ?_)
  by_cases d:num<0
  ·refine Dt d rfl rfl (Wn 3 rfl (Nx (WC.condT rfl (Sr (Wn 3 rfl (Nx (Rt (E.thenR (E.retG3 rfl rfl rfl rfl ?_)))))))))
   exact⟨false,(by first|rfl|(simp[partC,c,d];done)|(simp[partC,c,d];omega)|(simp[partC,c,d];split<;>first|(exfalso;omega)|(simp;done)|(simp;omega))),e⟩
  refine Df d rfl rfl (Wn 1 rfl (Wg (Any.rd (.dec (.lss rfl rfl) (show _=false from by first|decide|rfl)) _) rfl ?_))
  refine Wn 1 rfl (Nx (WC.condF rfl (Sn (Sr (Wn 1 rfl ?_)))))
  have ha:=inB_T (show inB a 0 1125899906842624=true by assumption)
  obtain⟨an,rfl⟩:=Int.eq_ofNat_of_zero_le ha.1
  obtain⟨nn,rfl⟩:=Int.eq_ofNat_of_zero_le (show 0<=num by omega)
  refine Wr (.idI (isS underlying3) underlying27 rfl (IntWalk.u64_in _ (by omega))) rfl (Wn 1 rfl (Wr (.idI (isS underlying3) underlying27 rfl (IntWalk.u64_in _ (by omega))) rfl (W.cl go302 rfl rfl (mul64_ok an nn (by omega) (by omega) k) ?_)))
  rintro _ m ⟨rfl,n⟩
  have f:=e.trans n
  have hdm:an*nn/18446744073709551616*18446744073709551616+an*nn%18446744073709551616=an*nn:=by rw[Nat.mul_comm];exact Nat.div_add_mod _ _
  have hlo:=Nat.mod_lt (an*nn) (show 0<18446744073709551616 by decide)
  generalize hH:an*nn/18446744073709551616=H at*
  generalize hLo:an*nn%18446744073709551616=Lo at*
  refine Wn 5 rfl (Nx (Sq (Sr (Wn 2 rfl (Wr (.idI (isS underlying3) underlying27 rfl (IntWalk.u64_in _ (by omega))) rfl (Wn 1 rfl (Nx ?_)))))))
  by_cases h:1000000<=((H:Nat):Int)
  ·refine Cy rfl (dT h) (Sr (Wn 3 rfl (Nx (Rt (E.thenR (E.retG3 rfl rfl rfl rfl ?_))))))
   exact⟨false,by rw[partC_nat];first|(rw[if_neg (by omega)];done)|(rw[if_pos (by omega),hQ]),f⟩
  refine Cn rfl (dF h) (Sn (Sr (Wn 3 rfl (Wr (.idI (isS underlying3) underlying27 rfl (IntWalk.u64_in _ (by omega))) rfl (W.cl go301 rfl rfl (div64_q44 H Lo 1000000 (by decide) (by decide) (by omega) hlo m) ?_)))))
  rintro _ s ⟨rfl,o⟩
  have i:=f.trans o
  rw[hdm]
  generalize hQ:an*nn/1000000=Qn at*
  generalize hRm:an*nn%1000000=Rm at*
  refine Wn 5 rfl (Nx (Sq (Sr (Wn 2 rfl (Nx ?_)))))
  by_cases j:1125899906842624<((Qn:Nat):Int)
  ·refine Cy rfl (dT j) (Sr (Wn 3 rfl (Nx (Rt (E.thenR (E.retG3 rfl rfl rfl rfl ?_))))))
   exact⟨false,by rw[partC_nat];first|(rw[if_neg (by omega)];done)|(rw[if_pos (by omega),hQ]),i⟩
  refine Cn rfl (dF j) (Sn (Sr (Wn 1 rfl (Wr (.idI (isS underlying27) underlying3 rfl (IntWalk.i64_in _ (by omega))) rfl (Wn 5 rfl (Nx (Rt (E.retG3 rfl rfl rfl rfl ?_))))))))
  exact⟨decide (0<((Rm:Nat):Int)),by rw[partC_nat];first|(rw[if_neg (by omega)];done)|(rw[if_pos (by omega),hQ]),i⟩
 refine Wa (.dec (.move rfl) (congrArg not ((Bool.eq_false_iff.2 c)))) rfl (Wn 7 rfl (Nx (WC.condT rfl (Sr (Wn 3 rfl (Nx (Rt (E.thenR (E.retG3 rfl rfl rfl rfl ?_)))))))))
 exact⟨false,by simp[partC,c],e⟩

theorem npart_ok (a num:Int)(hn:num<=9223372036854775807)(w:World):Calls prog 205 #[.int .i64 (a),.int .i64 (num),.int .i64 (1000000)] w fun r w'=>r= .returned (.tuple #[.int .i64 (partC a num).1,.bool (partC a num).2])/\Le w w':=by
 refine enter func205 rfl rfl (Sr (Wn 2 rfl (Nx (Sr (Wn 3 rfl (W.cl go273 rfl rfl (npart0_ok a num hn w) ?_))))))
 rintro _ c ⟨bb,rfl,b⟩
 refine Wn 7 rfl (Nx (Sr (Wn 4 rfl (Nx (Rt (E.retG2 rfl rfl rfl ?_))))))
 exact⟨rfl,((Le.refl w).trans b)⟩

theorem hright_ok (p:Pol)(w:World):Calls prog 206 #[.agg (polV p).toArray] w fun r w'=>r= .returned (.bool (polOk p))/\Le w w':=by
 refine enter func206 rfl rfl (Sr (W.ef rfl rfl rfl (Ef.boxA rfl fun D j N (k:Blk j D 79 (polV p).toArray) F=>(Wn 1 rfl (Nx (Sr (Wa (.field0 fa79_0 rfl) rfl (Wr (.loadB (v:= .int .i64 (p.b)) na3 rfl k rfl) rfl ?_))))))))
 refine W.cl go144 rfl rfl (hin_ok p.b 0 1125899906842624 j) ?_
 rintro _ H ⟨rfl,n⟩
 have o:=((Le.refl w).trans F).trans n
 by_cases c:(inB p.b 0 1125899906842624)=true
 ·refine Wa (.dec (.move rfl) (c)) rfl (Wg (Any.rd (.field0 fa79_3 rfl) _) rfl ?_)
  have i:=(k.le n)
  refine Wg (.loadB (v:= .int .i64 (p.l)) na3 rfl i rfl) rfl (Wg (Any.rd (.field0 fa79_4 rfl) _) rfl (Wg (.loadB (v:= .int .i64 (p.m)) na3 rfl i rfl) rfl (W.efg rfl rfl rfl (rfl) rfl rfl (Ef.call go144 rfl rfl (hin_ok p.l 0 p.m H) ?_))))
  rintro _ I ⟨rfl,s⟩
  refine⟨_,rfl,?_⟩
  have t:=o.trans s
  refine Wn 1 rfl ?_
  by_cases e:(inB p.l 0 p.m)=true
  ·refine Wa (.dec (.move rfl) (e)) rfl (Wg (Any.rd (.field0 fa79_4 rfl) _) rfl ?_)
   have u:=(i.le s)
   refine Wg (.loadB (v:= .int .i64 (p.m)) na3 rfl u rfl) rfl (W.efg rfl rfl rfl (rfl) rfl rfl (Ef.call go144 rfl rfl (hin_ok p.m 0 1125899906842624 I) ?_))
   rintro _ J ⟨rfl,x⟩
   refine⟨_,rfl,?_⟩
   have y:=t.trans x
   refine Wn 1 rfl ?_
   by_cases f:(inB p.m 0 1125899906842624)=true
   ·refine Wa (.dec (.move rfl) (f)) rfl (Wg (Any.rd (.field0 fa79_1 rfl) _) rfl ?_)
    have z:=(u.le x)
    refine Wg (.loadB (v:= .int .i64 (p.p)) na3 rfl z rfl) rfl (W.efg rfl rfl rfl (rfl) rfl rfl (Ef.call go144 rfl rfl (hin_ok p.p 0 1000000 J) ?_))
    rintro _ K ⟨rfl,A⟩
    refine⟨_,rfl,?_⟩
    have C:=y.trans A
    refine Wn 1 rfl ?_
    by_cases h:(inB p.p 0 1000000)=true
    ·refine Wa (.dec (.move rfl) (h)) rfl (Wg (Any.rd (.field0 fa79_2 rfl) _) rfl (Wg (.loadB (v:= .int .i64 (p.d)) na3 rfl (z.le A) rfl) rfl (W.efg rfl rfl rfl (rfl) rfl rfl (Ef.call go144 rfl rfl (hin_ok p.d 0 1048576 K) ?_))))
     rintro _ O ⟨rfl,L⟩
     refine⟨_,rfl,?_⟩
     refine Wn 2 rfl (Nx (Rt (E.retG1 rfl rfl ?_)))
     exact⟨rB (by simp[polOk,c,e,f,h]),(C.trans L)⟩
    refine Wa (.dec (.move rfl) ((Bool.eq_false_iff.2 h))) rfl (Wn 5 rfl (Nx (Rt (E.retG1 rfl rfl ?_))))
    exact⟨rB (by simp[polOk,c,e,f,h]),C⟩
   refine Wa (.dec (.move rfl) ((Bool.eq_false_iff.2 f))) rfl (Wn 10 rfl (Nx (Rt (E.retG1 rfl rfl ?_))))
   exact⟨rB (by simp[polOk,c,e,f]),y⟩
  refine Wa (.dec (.move rfl) ((Bool.eq_false_iff.2 e))) rfl (Wn 15 rfl (Nx (Rt (E.retG1 rfl rfl ?_))))
  exact⟨rB (by simp[polOk,c,e]),t⟩
 refine Wa (.dec (.move rfl) ((Bool.eq_false_iff.2 c))) rfl (Wn 22 rfl (Nx (Rt (E.retG1 rfl rfl ?_))))
 exact⟨rB (by simp[polOk,c]),o⟩

theorem hfee_ok (p:Pol)(a:Int)(hp:PolI p)(w:World):Calls prog 103 #[.agg (polV p).toArray,.int .i64 (a)] w fun r w'=>r= .returned (.tuple #[.int .i64 (feeG p a).1,.bool (feeG p a).2])/\Le w w':=by
 have u:=hp.2.1
 refine enter func103 rfl rfl (Sr (W.ef rfl rfl rfl (Ef.boxA rfl fun m e x (f:Blk e m 79 (polV p).toArray) n=>(Wn 2 rfl (Nx (Sr (Wn 1 rfl (Wa (.field0 fa79_1 rfl) rfl (Wr (.loadB (v:= .int .i64 (p.p)) na3 rfl f rfl) rfl ?_)))))))))
 refine W.cl go205 rfl rfl (npart_ok a p.p (by omega) e) ?_
 rintro _ o ⟨rfl,h⟩
 have i:=((Le.refl w).trans n).trans h
 refine Wn 5 rfl (Nx (Sq (Sr (Wn 2 rfl ?_))))
 by_cases c:((partC a p.p).2)=true
 ·refine Wa (.dec (.move rfl) (congrArg not (c))) rfl ?_
  have j:=(f.le h)
  refine Wg (.loadAll ag79 (by rfl) rfl j) rfl ?_
  refine W.efg rfl rfl rfl (rfl) rfl rfl (Ef.call go206 rfl rfl (hright_ok p o) ?_)
  rintro _ s ⟨rfl,k⟩
  refine⟨_,rfl,?_⟩
  have l:=i.trans k
  refine Wn 2 rfl (Nx ?_)
  by_cases d:(polOk p)=true
  ·refine Cn rfl (congrArg not (d)) (Sn (Sr (Wa (.field0 fa79_0 rfl) rfl (Wr (.loadB (v:= .int .i64 (p.b)) na3 rfl (j.le k) rfl) rfl (Wn 1 rfl (W.cl go104 rfl rfl (nadd_ok p.b ((partC a p.p).1) s) ?_))))))
   rintro _ y ⟨rfl,t⟩
   refine Wn 4 rfl (Nx (Rt (E.retG2 rfl rfl rfl ?_)))
   exact⟨(by first|rfl|(simp[feeG,c,d];done)|(simp[feeG,c,d];omega)|(simp[feeG,c,d];split<;>first|(exfalso;omega)|(simp;done)|(simp;omega))),(l.trans t)⟩
  refine Cy rfl (congrArg not ((Bool.eq_false_iff.2 d))) (Sr (Wn 2 rfl (Nx (Rt (E.thenR (E.retG2 rfl rfl rfl ?_))))))
  exact⟨(by first|rfl|(simp[feeG,c,d];done)|(simp[feeG,c,d];omega)|(simp[feeG,c,d];split<;>first|(exfalso;omega)|(simp;done)|(simp;omega))),l⟩
 refine Wa (.dec (.move rfl) (congrArg not ((Bool.eq_false_iff.2 c)))) rfl (Wn 4 rfl (Nx (WC.condT rfl (Sr (Wn 2 rfl (Nx (Rt (E.thenR (E.retG2 rfl rfl rfl ?_)))))))))
 exact⟨(by first|rfl|(simp[feeG,c];done)|(simp[feeG,c];omega)|(simp[feeG,c];split<;>first|(exfalso;omega)|(simp;done)|(simp;omega))),i⟩

theorem edge_ok (e:Gsp.Edge)(w:World):Calls prog 160 #[.agg (edgeV e).toArray] w fun r w'=>r= .returned (.bool (edgeOk e))/\Le w w':=by
 refine enter func160 rfl rfl (Sr (W.ef rfl rfl rfl (Ef.boxA rfl fun F m O (n:Blk m F 81 (edgeV e).toArray) H=>(Wn 1 rfl (Nx (Sr (Wa (.field0 fa81_0 rfl) rfl (Wr (.loadB (v:= .int .i64 (e.f)) na3 rfl n rfl) rfl ?_))))))))
 refine W.cl go102 rfl rfl (gin_ok e.f 0 11 m) ?_
 rintro _ I ⟨rfl,o⟩
 have s:=((Le.refl w).trans H).trans o
 by_cases b:(inB e.f 0 11)=true
 ·refine Wa (.dec (.move rfl) (b)) rfl (Wg (Any.rd (.field0 fa81_1 rfl) _) rfl ?_)
  have u:=(n.le o)
  refine Wg (.loadB (v:= .int .i64 (e.t)) na3 rfl u rfl) rfl (W.efg rfl rfl rfl (rfl) rfl rfl (Ef.call go102 rfl rfl (gin_ok e.t 0 11 I) ?_))
  rintro _ J ⟨rfl,x⟩
  refine⟨_,rfl,?_⟩
  have l:=s.trans x
  refine Wn 1 rfl ?_
  by_cases d:(inB e.t 0 11)=true
  ·refine Wa (.dec (.move rfl) (d)) rfl (Wg (Any.rd (.field0 fa81_0 rfl) _) rfl ?_)
   have j:=(u.le x)
   refine Wg (.loadB (v:= .int .i64 (e.f)) na3 rfl j rfl) rfl (Wg (Any.rd (.field0 fa81_1 rfl) _) rfl (Wg (.loadB (v:= .int .i64 (e.t)) na3 rfl j rfl) rfl (Wn 2 rfl ?_)))
   by_cases h:e.f≠e.t
   ·refine Dt h rfl rfl (Wg (Any.rd (.field0 fa81_2 rfl) _) rfl (Wg (.loadB (v:= .int .i64 (e.c)) na3 rfl j rfl) rfl (W.efg rfl rfl rfl (rfl) rfl rfl (Ef.call go102 rfl rfl (gin_ok e.c 0 39 J) ?_))))
    rintro _ K ⟨rfl,y⟩
    refine⟨_,rfl,?_⟩
    have z:=l.trans y
    refine Wn 1 rfl ?_
    by_cases i:(inB e.c 0 39)=true
    ·refine Wa (.dec (.move rfl) (i)) rfl (Wg (Any.rd (.field0 fa81_3 rfl) _) rfl ?_)
     have A:=(j.le y)
     refine Wg (.loadB (v:= .int .i64 (e.r)) na3 rfl A rfl) rfl (W.efg rfl rfl rfl (rfl) rfl rfl (Ef.call go102 rfl rfl (gin_ok e.r 1 1125899906842624 K) ?_))
     rintro _ L ⟨rfl,C⟩
     refine⟨_,rfl,?_⟩
     have D:=z.trans C
     refine Wn 1 rfl ?_
     by_cases k:(inB e.r 1 1125899906842624)=true
     ·refine Wa (.dec (.move rfl) (k)) rfl (Wg (Any.rd (.field0 fa81_4 rfl) _) rfl (Wg (.bpart (polV e.pol) ag79 rfl (by decide) rfl (A.le C) rfl) rfl (W.efg rfl rfl rfl (rfl) rfl rfl (Ef.call go206 rfl rfl (hright_ok e.pol L) ?_))))
      rintro _ P ⟨rfl,N⟩
      refine⟨_,rfl,?_⟩
      refine Wn 2 rfl (Nx (Rt (E.retG1 rfl rfl ?_)))
      exact⟨rB (by simp[edgeOk,b,d,h,i,k]),(D.trans N)⟩
     refine Wa (.dec (.move rfl) ((Bool.eq_false_iff.2 k))) rfl (Wn 5 rfl (Nx (Rt (E.retG1 rfl rfl ?_))))
     exact⟨rB (by simp[edgeOk,b,d,h,i,k]),D⟩
    refine Wa (.dec (.move rfl) ((Bool.eq_false_iff.2 i))) rfl (Wn 10 rfl (Nx (Rt (E.retG1 rfl rfl ?_))))
    exact⟨rB (by simp[edgeOk,b,d,h,i]),z⟩
   refine Df h rfl rfl (Wn 15 rfl (Nx (Rt (E.retG1 rfl rfl ?_))))
   exact⟨rB (by simp[edgeOk,b,d,h]),l⟩
  refine Wa (.dec (.move rfl) ((Bool.eq_false_iff.2 d))) rfl (Wn 22 rfl (Nx (Rt (E.retG1 rfl rfl ?_))))
  exact⟨rB (by simp[edgeOk,b,d]),l⟩
 refine Wa (.dec (.move rfl) ((Bool.eq_false_iff.2 b))) rfl (Wn 27 rfl (Nx (Rt (E.retG1 rfl rfl ?_))))
 exact⟨rB (by simp[edgeOk,b]),s⟩

theorem isNaN_ok (a:Int)(w:World):Calls prog 278 #[.int .i64 (a)] w fun r w'=>r= .returned (.bool false)/\Le w w':=by
 refine enter func278 rfl rfl (WC.sr (W.run 1 rfl (W.nx (WC.sr (W.run 4 rfl (W.nx (WC.ret (E.retG1 rfl rfl ?_))))))))
 exact⟨by simp,(Le.refl w)⟩

theorem compare_ok (a b:Int)(w:World):Calls prog 212 #[.int .i64 (a),.int .i64 (b)] w fun r w'=>r= .returned (.int .i64 (cmpI a b))/\Le w w':=by
 refine enter func212 rfl rfl (Sr (Wn 1 rfl (Nx (Sr (Wn 1 rfl (W.cl go278 rfl rfl (isNaN_ok a w) ?_))))))
 rintro _ f ⟨rfl,h⟩
 refine Wn 1 rfl (Nx (Sr (Wn 1 rfl (W.cl go278 rfl rfl (isNaN_ok b f) ?_))))
 rintro _ j ⟨rfl,i⟩
 have e:=((Le.refl w).trans h).trans i
 refine Wn 1 rfl (Nx (Sq (Sr (Wn 1 rfl (Nx (WC.condF rfl (Sn (Sq (Sr (Wn 1 rfl (Nx (WC.condF rfl (Sn (Sq (Sr (Wn 3 rfl (Nx ?_)))))))))))))))))
 by_cases c:a<b
 ·refine Cy rfl (dT c) (Sr (Wn 1 rfl (Nx (Rt (E.thenR (E.retG1 rfl rfl ?_))))))
  exact⟨(by first|rfl|(simp[cmpI,c];done)|(simp[cmpI,c];omega)|(simp[cmpI,c];split<;>first|(exfalso;omega)|(simp;done)|(simp;omega))),e⟩
 refine Cn rfl (dF c) (Sn (Sq (Sr (Wn 3 rfl (Nx ?_)))))
 by_cases d:b<a
 ·refine Cy rfl (dT d) (Sr (Wn 1 rfl (Nx (Rt (E.thenR (E.retG1 rfl rfl ?_))))))
  exact⟨(by first|rfl|(simp[cmpI,c,d];done)|(simp[cmpI,c,d];omega)|(simp[cmpI,c,d];split<;>first|(exfalso;omega)|(simp;done)|(simp;omega))),e⟩
 refine Cn rfl (dF d) (Sn (Sr (Wn 1 rfl (Nx (Rt (E.retG1 rfl rfl ?_))))))
 exact⟨(by first|rfl|(simp[cmpI,c,d];done)|(simp[cmpI,c,d];omega)|(simp[cmpI,c,d];split<;>first|(exfalso;omega)|(simp;done)|(simp;omega))),e⟩

theorem or2_ok {A:Option Addr}{n c:Nat}{xs:List Int}(w:World)(hV:Vec w iv 1 A n xs)(hn:n<=1000000):Calls prog 219 #[.slice A n c] w fun r w'=>r= .returned (.int .i64 (orL xs))/\Le w w':=by
 have hl:=hV.1
 refine enter func219 rfl rfl (Sr (Wn 1 rfl (Nx (Sr (Wn 1 rfl (Nx (Sq (Sr (Wn 1 rfl (Wr (.len underlying23 rfl) rfl (Wn 1 rfl (Nx (WC.block (WC.loop (ι:=Nat) (fun k=>[(3,.int .i64 (0)),(6,.slice A n c),(7,.int .i64 (((n:Nat):Int))),(8,.int .i64 (((k:Nat):Int)))]) (fun k e=>(k<=n)/\(∀j,j<k->xs.getD j 0=0)/\Le w e/\w.heap.size<=e.heap.size) (fun k=>n-k) 0 ?_ ?_ ?_))))))))))))))
 ·exact .of rfl
 ·exact⟨Nat.zero_le _,fun j hj=>absurd hj (Nat.not_lt_zero _),(Le.refl w),Nat.le_refl _⟩
 rintro k e ⟨hk,hz,b,i⟩
 refine Sr (Wn 1 rfl (Nx (Sq ?_)))
 by_cases f:((k:Nat):Int)<((n:Nat):Int)
 ·refine Cy rfl (dT f) (Sn (Sq (WC.block (Sr (Wa (.idxS (k) underlying23 sz3 rfl rfl (hV.isSome iv_row (by omega)) (rfl) (by omega)) rfl (Wr (.vone (v:= .int .i64 ((xs.getD k 0))) na3 rfl (hV.le b) iv_row (getS xs 0 (by omega)) rfl) rfl (Wn 1 rfl (Nx (Sr (Wn 3 rfl (Nx ?_)))))))))))
  by_cases d:(xs.getD k 0)≠0
  ·refine Cy rfl (dT d) (Sr (Wn 2 rfl (Nx (Rt (E.blkR (E.thenR (E.thenR (E.blkR (E.thenR (E.retG1 rfl rfl ?_))))))))))
   exact⟨by rw[orL_skip xs k hz,List.drop_eq_getElem_cons (by omega),orL,if_pos (by simpa[List.getD,show k<xs.length by omega]using d)];simp[List.getD,show k<xs.length by omega],b⟩
  refine Cn rfl (dF d) (WC.skip (E.blkN (E.thenN (WC.region (Wa (.add rfl rfl (by omega)) rfl (Wn 1 rfl (W.nil (E.again (k+1) (.of rfl) ?_ ?_))))))))
  ·exact⟨by omega,fun j hj=>by rcases Nat.lt_or_ge j k with h|h;exact hz j h;rw[show j=k by omega];exact Decidable.not_not.1 d,b,by have:=i;omega⟩
  first|omega|(simp only[];omega)
 refine Cn rfl (dF f) (WC.exit (E.thenX (E.thenX (E.blkH (E.thenN (Sr (Wn 2 rfl (Nx (Rt (E.retG1 rfl rfl ?_))))))))))
 exact⟨by rw[orL_skip xs k hz,List.drop_of_length_le (by omega)];rfl,b⟩

theorem order_ok (a b:Gsp.Edge)(w:World):Calls prog 162 #[.agg (edgeV a).toArray,.agg (edgeV b).toArray] w fun r w'=>r= .returned (.int .i64 (ordE a b))/\Le w w':=by
 refine enter func162 rfl rfl (Sr (W.ef rfl rfl rfl (Ef.boxA rfl fun t u K (x:Blk u t 81 (edgeV a).toArray) y=>(W.ef rfl rfl rfl (Ef.boxA rfl fun z A L (C:Blk A z 81 (edgeV b).toArray) i=>(Wn 1 rfl (Nx (Sq ?_))))))))
 refine WC.draw [0,1,2,3,5,6,7,8,4,9,10,11,12] mixed (by kernel_rfl) fun D d=>(Ga rfl (.field0 fa81_2 rfl) ?_)
 have j:=(x.le (i.trans d))
 refine Gd rfl (.loadB (v:= .int .i64 (a.c)) na3 rfl j rfl) (Ga rfl (.field0 fa81_2 rfl) ?_)
 have k:=(C.le d)
 refine Gd rfl (.loadB (v:= .int .i64 (b.c)) na3 rfl k rfl) (Ga rfl (.field0 fa81_0 rfl) (Gd rfl (.loadB (v:= .int .i64 (a.f)) na3 rfl j rfl) (Ga rfl (.field0 fa81_0 rfl) (Gd rfl (.loadB (v:= .int .i64 (b.f)) na3 rfl k rfl) (G.ef rfl rfl rfl rfl rfl ?_)))))
 refine Ef.call go212 rfl rfl (compare_ok a.c b.c D) ?_
 rintro _ F ⟨rfl,l⟩
 refine⟨_,rfl,?_⟩
 refine⟨fun _=>l,?_⟩
 refine G.ef rfl rfl rfl rfl rfl (Ef.call go212 rfl rfl (compare_ok a.f b.f F) ?_)
 rintro _ H ⟨rfl,m⟩
 refine⟨_,rfl,?_⟩
 refine⟨fun _=>m,?_⟩
 refine G.ef rfl rfl rfl rfl rfl (Ef.buildSliceV (len:=2) [_,_] underlying23 el3 rfl (by simp[Value.cells]) rfl (by decide) (by decide) ?_)
 intro n e I h o
 refine⟨fun _=>o,?_⟩
 have h:Blk e n 3 (([(cmpI a.c b.c),(cmpI a.f b.f)]).map iv).flatten.toArray:=h
 have J:OVec e H.heap.size 3 iv 1 (some ⟨n,0,none⟩) 2 2 ([(cmpI a.c b.c),(cmpI a.f b.f)]):=h.ovec I iv_row rfl rfl (by decide)
 refine G.ef rfl rfl rfl rfl rfl (Ef.call go219 rfl rfl (or2_ok e J.vec (by decide)) ?_)
 rintro _ N ⟨rfl,s⟩
 refine⟨_,rfl,?_⟩
 refine⟨fun _=>s,?_⟩
 refine Gn 1 rfl (G.nil (E.thenN (Rt (E.retG1 rfl rfl ?_))))
 exact⟨by simp only[orL,ordE];split<;>first|rfl|(split<;>simp_all),((((((((Le.refl w).trans y).trans i).trans d).trans l).trans m).trans o).trans s)⟩
end Go.Proofs.YtocheaahlpiajaaGreatDoor

namespace Go.Proofs.YtocheaahlpiajaaGreatDoor
open Tryz
open Go Go.Sx Go.Hsp Go.Num Go.Osp Go.Gsp
set_option maxRecDepth 20000
theorem filter_T {pr:Gsp.Edge->Bool}(xs:List Gsp.Edge)(k:Nat)(hk:k<xs.length)(h:pr (xs.getD k noEdge)=true):(xs.take k).filter pr++[xs.getD k noEdge]=(xs.take (k+1)).filter pr:=by
  rw[List.take_add_one,getS xs noEdge hk,List.filter_append]
  simp[List.filter_cons,-List.getD_eq_getElem?_getD,h]
theorem filter_F {pr:Gsp.Edge->Bool}(xs:List Gsp.Edge)(k:Nat)(hk:k<xs.length)(h:¬pr (xs.getD k noEdge)=true):(xs.take k).filter pr=(xs.take (k+1)).filter pr:=by
  rw[List.take_add_one,getS xs noEdge hk,List.filter_append]
  simp[List.filter_cons,-List.getD_eq_getElem?_getD,h]
def idxE (pr:Gsp.Edge->Bool)(xs:List Gsp.Edge):Int:=if xs.any pr then(xs.findIdx pr:Int)else-1
theorem idxE_at {pr:Gsp.Edge->Bool}{xs:List Gsp.Edge}{k:Nat}(hk:k<xs.length)(hb:∀j,j<k->¬pr (xs.getD j noEdge)=true)(h:pr (xs.getD k noEdge)=true):(k:Int)=idxE pr xs:=by
  have hx:xs.getD k noEdge=xs[k]:=by simp[List.getD,hk]
  have:xs.findIdx pr=k:=by
    rw[List.findIdx_eq hk]
    exact⟨by rw[<-hx];exact h,fun j hj=>by have:=hb j hj;simpa[List.getD,show j<xs.length by omega]using this⟩
  rw[idxE,if_pos (by rw[List.any_eq_true];exact⟨xs[k],List.getElem_mem hk,by rw[<-hx];exact h⟩),this]
theorem idxE_no {pr:Gsp.Edge->Bool}{xs:List Gsp.Edge}{k:Nat}(hk:xs.length<=k)(hb:∀j,j<k->j<xs.length->¬pr (xs.getD j noEdge)=true): -1=idxE pr xs:=by
  rw[idxE,if_neg]
  rw[List.any_eq_true]
  rintro⟨y,hy,hp⟩
  obtain⟨j,hj,rfl⟩:=List.mem_iff_getElem.1 hy
  exact hb j (by omega) hj (by simpa[List.getD,hj]using hp)
def Been (bs:List Bool)(xs:List Gsp.Edge)(k:Nat):Prop:=∀v:Nat,v<12->(bs.getD v false=true↔∃j,j<k/\((xs.getD j noEdge).f=(v:Int)\/(xs.getD j noEdge).t=(v:Int)))
theorem been_first (xs:List Gsp.Edge):Been (List.replicate 12 false) xs 0:=fun v hv=>⟨fun h=>absurd h (by rw[show(List.replicate 12 false).getD v false=false from(show∀v,v<12->(List.replicate 12 false).getD v false=false by decide) v hv];decide),fun⟨j,hj,_⟩=>absurd hj (Nat.not_lt_zero _)⟩
theorem been_next {bs:List Bool}{xs:List Gsp.Edge}{k:Nat}(hb:bs.length=12)(h1:edgeOk (xs.getD k noEdge)=true)(hd:Been bs xs k):Been ((bs.set (xs.getD k noEdge).f.toNat true).set (xs.getD k noEdge).t.toNat true) xs (k+1):=by
  have hok:=edgeOk_T h1
  intro v hv
  have e:((bs.set (xs.getD k noEdge).f.toNat true).set (xs.getD k noEdge).t.toNat true).getD v false=true↔((xs.getD k noEdge).t.toNat=v\/(xs.getD k noEdge).f.toNat=v\/bs.getD v false=true):=by
    simp only[List.getD,List.getElem?_set,List.length_set,hb]
    by_cases b:(xs.getD k noEdge).t.toNat=v
    · simp only[List.getD]at b;simp[b,hv]
    · by_cases c:(xs.getD k noEdge).f.toNat=v
      · simp only[List.getD]at b c;simp[b,c,hv]
      · simp only[List.getD]at b c;simp[b,c]
  rw[e,hd v hv]
  constructor
  · rintro(h|h|⟨j,hj,h⟩)
    · exact⟨k,by omega,.inr (by omega)⟩
    · exact⟨k,by omega,.inl (by omega)⟩
    · exact⟨j,by omega,h⟩
  · rintro⟨j,hj,h⟩
    by_cases hjk:j=k
    · subst hjk;rcases h with h|h<;>omega
    · exact .inr (.inr ⟨j,by omega,h⟩)
theorem way_next {bs:List Bool}{xs:List Gsp.Edge}{k:Nat}(hz:∀j,j<k->WayAt xs j)(h1:edgeOk (xs.getD k noEdge)=true)(hl:0<k->(xs.getD (k-1) noEdge).t=(xs.getD k noEdge).f)(hd:Been bs xs k)(hn:¬bs.getD (xs.getD k noEdge).t.toNat false=true):∀j,j<k+1->WayAt xs j:=by
  intro j hj
  by_cases hjk:j=k
  · subst hjk
    have hok:=edgeOk_T h1
    refine⟨h1,hl,fun q hq he=>?_⟩
    by_cases hqj:q=j
    · subst hqj;exact hok.2.2.1 he
    · exact hn ((hd _ (by omega)).2 ⟨q,by omega,.inl (by omega)⟩)
  · exact hz j (by omega)
theorem way_fail {bs:List Bool}{xs:List Gsp.Edge}{k:Nat}(hz:∀j,j<k->WayAt xs j)(hd:Been bs xs k)(hn:bs.getD (xs.getD k noEdge).t.toNat false=true):¬WayAt xs k:=fun⟨b,hl,hw⟩=>by
  have hok:=edgeOk_T b
  obtain⟨j,hj,h|h⟩:=(hd _ (by omega)).1 hn
  · exact hw j (by omega) (by omega)
  · have c:(xs.getD (j+1) noEdge).f=(xs.getD j noEdge).t:=by
      by_cases hjk:j+1=k
      · have:=hl (by omega);rw[show k-1=j by omega]at this;rw[hjk];exact this.symm
      · have:=(hz (j+1) (by omega)).2.1 (by omega);rw[show j+1-1=j by omega]at this;exact this.symm
    exact hw (j+1) (by omega) (by rw[c];omega)
theorem those_ok {A:Option Addr}{n c:Nat}{xs:List Gsp.Edge}{F:Nat}{caps:Array Value}(pr:Gsp.Edge->Bool)(hgo:IsGo prog F)(w:World)(hV:Vec w edgeV 9 A n xs)(hn:n<=1000000)(hf:∀(e:Gsp.Edge) (w1:World),Le w w1->Calls prog F (#[.agg (edgeV e).toArray]++caps) w1 fun r w2=>r= .returned (.bool (pr e))/\Le w1 w2):Calls prog 159 #[.slice A n c,.func (.func F) #[] caps] w fun r w'=>∃A' c',r= .returned (.slice A' (xs.filter pr).length c')/\OVec w' w.heap.size 81 edgeV 9 A' (xs.filter pr).length c' (xs.filter pr)/\Le w w':=by
 have hl:=hV.1
 refine enter func159 rfl rfl ?_
 have u:=Le.refl w
 refine Sr (Wn 1 rfl (Nx (Sr (Wn 1 rfl (Nx (Sq (Sr (Wn 1 rfl (Wr (.len underlying32 rfl) rfl (Wn 1 rfl (Nx (WC.block (WC.loop (ι:=Nat×(Option Addr)×Nat) (fun⟨k,Aa,ca⟩=>[(1,.func (.func F) #[] caps),(5,.slice Aa (((xs.take k).filter pr).length) ca),(8,.slice A n c),(9,.int .i64 (((n:Nat):Int))),(10,.int .i64 (((k:Nat):Int)))]) (fun⟨k,Aa,ca⟩ i=>(k<=n)/\Le w i/\w.heap.size<=i.heap.size/\OVec i w.heap.size 81 edgeV 9 Aa (((xs.take k).filter pr).length) ca ((xs.take k).filter pr)) (fun⟨k,Aa,ca⟩=>n-k) (0,none,0) ?_ ?_ ?_)))))))))))))
 ·exact .of rfl
 ·exact⟨by omega,u,Nat.le_refl _,(OVec.nil w w.heap.size 81 edgeV 9 none)⟩
 rintro⟨k,Aa,ca⟩ i ⟨hk,l,v,j⟩
 have K:w.heap.size<=i.heap.size:=by omega
 refine Sr (Wn 1 rfl (Nx (Sq ?_)))
 by_cases x:((k:Nat):Int)<((n:Nat):Int)
 ·refine Cy rfl (dT x) (Sn (Sq (WC.block (Sr (Wa (.idxS (k) underlying32 sz81 rfl rfl (hV.isSome edgeV_row (by omega)) (rfl) (by omega)) rfl (Wr (.vload ag81 rfl (hV.le l) edgeV_row (getS xs noEdge (by omega))) rfl (W.ef rfl rfl rfl (Ef.allocA z81 ?_))))))))
  intro y L N t f
  have t:Blk L y 81 (edgeV noEdge).toArray:=t
  refine W.ef0 rfl rfl (Ef.storeAll sz81 (by rfl) rfl rfl t (by simp only[List.size_toArray,edgeV_row.len]) (edgeV_row.one (xs.getD k noEdge)) ?_)
  intro O m h
  have m:Blk O y 81 (edgeV (xs.getD k noEdge)).toArray:=m
  have z:=(l.trans f).tb h l N
  refine Nx (Sr (Wn 1 rfl (Wr (.loadAll ag81 (by rfl) rfl m) rfl ?_)))
  refine W.ef rfl rfl rfl (Ef.callC hgo rfl rfl rfl (hf _ _ z) ?_)
  rintro _ P ⟨rfl,d⟩
  refine⟨_,rfl,?_⟩
  have C:=z.trans d
  refine Nx ?_
  by_cases b:(pr (xs.getD k noEdge))=true
  ·refine Cy rfl (b) (WC.region (Wn 1 rfl (Wr (.loadAll ag81 (by rfl) rfl (m.le d)) rfl ?_)))
   refine W.ef rfl rfl rfl (Ef.buildSliceV (len:=1) [_] underlying32 el81 rfl (by simp[Value.cells,edgeV_row.len]) rfl (by decide) (by decide) ?_)
   intro D H Q o s
   have o:Blk H D 81 (([xs.getD k noEdge]).map edgeV).flatten.toArray:=o
   have V:OVec H P.heap.size 81 edgeV 9 (some ⟨D,0,none⟩) 1 1 ([xs.getD k noEdge]):=o.ovec Q edgeV_row rfl rfl (by decide)
   have I:=(((j.le f).cb h (j.rn (by omega))).le (d.trans s))
   refine W.ef rfl rfl rfl (Ef.vpush (a:=(xs.getD k noEdge)) underlying32 el81 underlying32 edgeV_row rfl I rfl o (by have:=List.length_filter_le pr (xs.take k);simp at this;omega) (by have:=List.length_filter_le pr (xs.take k);simp at this;unfold maxLen;omega) (by have:=K;have:=f.size;have:=h.size;have:=d.size;have:=s.size;omega) ?_)
   intro R S X T J Y
   refine Wn 1 rfl (W.nil (E.blkN (E.thenN (WC.region (Wa (.add rfl rfl (by omega)) rfl (Wn 1 rfl (W.nil (E.again (k+1,R,S) (.cons rfl (.cons' rfl (slice_eq (by rw[<-filter_T xs k (by omega) b];simp)) (.of rfl))) ?_ ?_))))))))
   ·exact⟨by omega,((C.trans s).then_ J (fun q hq=>Nat.le_trans u.size (I.row hq).1)),by have:=v;have:=f.size;have:=h.size;have:=d.size;have:=s.size;have:=J.size;omega,(T).cast (by rw[<-filter_T xs k (by omega) b];simp) (filter_T xs k (by omega) b)⟩
   first|omega|(simp only[];omega)
  refine Cn rfl ((Bool.eq_false_iff.2 b)) (WC.skip (E.blkN (E.thenN (WC.region (Wa (.add rfl rfl (by omega)) rfl (Wn 1 rfl (W.nil ?_)))))))
  have U:=(((j.le f).cb h (j.rn (by omega))).le d)
  refine E.again (k+1,Aa,ca) (.cons rfl (.cons' rfl (slice_eq (by rw[<-filter_F xs k (by omega) b])) (.of rfl))) ?_ ?_
  ·exact⟨by omega,C,by have:=v;have:=f.size;have:=h.size;have:=d.size;omega,(U).cast (by rw[<-filter_F xs k (by omega) b]) (filter_F xs k (by omega) b)⟩
  first|omega|(simp only[];omega)
 refine Cn rfl (dF x) (WC.exit (E.thenX (E.thenX (E.blkH (E.thenN (Sr (Wn 2 rfl (Nx (Rt (E.retG1 rfl rfl ?_))))))))))
 exact⟨_,_,by rw[List.take_of_length_le (by omega)],j.cast (by rw[List.take_of_length_le (by omega)]) (by rw[List.take_of_length_le (by omega)]),l⟩





theorem in1_ok (e:Gsp.Edge)(p:Int){g:Nat}(w:World)(hg:Blk w g 3 #[.int .i64 p]):Calls prog 220 #[.agg (edgeV e).toArray,.pointer (some ⟨g,0,none⟩)] w fun r w'=>r= .returned (.bool (decide (e.t=p)))/\Le w w':=by
 refine enter func220 rfl rfl (Sr (W.ef rfl rfl rfl (Ef.boxA rfl fun c d i (f:Blk d c 81 (edgeV e).toArray) h=>?_)))
 have b:=(Le.refl w).trans h
 refine Wn 1 rfl (Nx (Sr (Wa (.field0 fa81_1 rfl) rfl (Wr (.loadB (v:= .int .i64 (e.t)) na3 rfl f rfl) rfl (Wr (.loadB (v:= .int .i64 (p)) na3 rfl (hg.le b) rfl) rfl (Wn 2 rfl (Nx (Rt (E.retG1 rfl rfl ?_)))))))))
 exact⟨rfl,b⟩

theorem in_ok (p:Int){A:Option Addr}{n c:Nat}{xs:List Gsp.Edge}(w:World)(hV:Vec w edgeV 9 A n xs)(hn:n<=1000000):Calls prog 118 #[.slice A n c,.int .i64 (p)] w fun r w'=>∃A' c',r= .returned (.slice A' (xs.filter (fun e=>decide (e.t=p))).length c')/\OVec w' w.heap.size 81 edgeV 9 A' (xs.filter (fun e=>decide (e.t=p))).length c' (xs.filter (fun e=>decide (e.t=p)))/\Le w w':=by
 refine enter func118 rfl rfl (Sr (W.ef rfl rfl rfl (Ef.box rfl fun h b m (i:Blk b h 3 #[.int .i64 (p)]) d=>?_)))
 have f:=(Le.refl w).trans d
 refine Wn 1 rfl (Nx (Sr (Wn 1 rfl (Wa (.makeFunc rfl) rfl (W.cl go159 rfl rfl (those_ok (fun e=>decide (e.t=p)) go220 b (hV.le f) (by omega) (fun e j hl=>in1_ok e p j (i.le hl))) ?_)))))
 rintro _ o ⟨s,u,rfl,k,l⟩
 refine Wn 1 rfl (Nx (Rt (E.retG1 rfl rfl ?_)))
 exact⟨_,_,rfl,k.mono d.size,(f.trans l)⟩

theorem index_ok {A:Option Addr}{n c:Nat}{xs:List Gsp.Edge}{F:Nat}{caps:Array Value}(pr:Gsp.Edge->Bool)(hgo:IsGo prog F)(w:World)(hV:Vec w edgeV 9 A n xs)(hn:n<=1000000)(hf:∀(e:Gsp.Edge) (w1:World),Le w w1->Calls prog F (#[.agg (edgeV e).toArray]++caps) w1 fun r w2=>r= .returned (.bool (pr e))/\Le w1 w2):Calls prog 221 #[.slice A n c,.func (.func F) #[] caps] w fun r w'=>r= .returned (.int .i64 (idxE pr xs))/\Le w w':=by
 have hl:=hV.1
 refine enter func221 rfl rfl (Sr (Wn 1 rfl (Nx (Sq (Sr (Wn 1 rfl (Wr (.len underlying32 rfl) rfl (Wn 1 rfl (Nx (WC.block (WC.loop (ι:=Nat) (fun k=>[(0,.slice A n c),(1,.func (.func F) #[] caps),(7,.int .i64 (((n:Nat):Int))),(8,.int .i64 (((k:Nat):Int)))]) (fun k f=>(k<=n)/\(∀j,j<k->¬pr (xs.getD j noEdge)=true)/\Le w f/\w.heap.size<=f.heap.size) (fun k=>n-k) 0 ?_ ?_ ?_)))))))))))
 ·exact .of rfl
 ·exact⟨Nat.zero_le _,fun j hj=>absurd hj (Nat.not_lt_zero _),(Le.refl w),Nat.le_refl _⟩
 rintro k f ⟨hk,hz,b,o⟩
 refine Sr (Wn 1 rfl (Nx (Sq ?_)))
 by_cases i:((k:Nat):Int)<((n:Nat):Int)
 ·refine Cy rfl (dT i) (Sn (Sq (WC.block (Sr (Wn 2 rfl (Nx (Sr (Wn 3 rfl (Wa (.idxS (k) underlying32 sz81 rfl rfl (hV.isSome edgeV_row (by omega)) (rfl) (by omega)) rfl (Wr (.vload ag81 rfl (hV.le b) edgeV_row (getS xs noEdge (by omega))) rfl (W.ef rfl rfl rfl (Ef.callC hgo rfl rfl rfl (hf _ _ b) ?_))))))))))))
  rintro _ t ⟨rfl,l⟩
  refine⟨_,rfl,?_⟩
  have m:=b.trans l
  refine Nx ?_
  by_cases d:(pr (xs.getD k noEdge))=true
  ·refine Cy rfl (d) (Sr (Wn 2 rfl (Nx (Rt (E.blkR (E.thenR (E.thenR (E.blkR (E.thenR (E.retG1 rfl rfl ?_))))))))))
   exact⟨by rw[idxE_at (by omega) hz d],m⟩
  refine Cn rfl ((Bool.eq_false_iff.2 d)) (WC.skip (E.blkN (E.thenN (WC.region (Wa (.add rfl rfl (by omega)) rfl (Wn 1 rfl (W.nil (E.again (k+1) (.of rfl) ?_ ?_))))))))
  ·exact⟨by omega,fun j hj=>by rcases Nat.lt_or_ge j k with h|h;exact hz j h;rw[show j=k by omega];exact d,m,by have:=o;have:=l.size;omega⟩
  first|omega|(simp only[];omega)
 refine Cn rfl (dF i) (WC.exit (E.thenX (E.thenX (E.blkH (E.thenN (Sr (Wn 1 rfl (Nx (Rt (E.retG1 rfl rfl ?_))))))))))
 exact⟨by rw[idxE_no (k:=k) (by omega) (fun j s _=>hz j s)],b⟩





theorem gright_ok {A:Option Addr}{n c:Nat}{xs:List Gsp.Edge}(w:World)(hV:Vec w edgeV 9 A n xs)(hn:n<=1000000):Calls prog 68 #[.slice A n c] w fun r w'=>r= .returned (.bool (rightG xs))/\Le w w':=by
 have hl:=hV.1
 refine enter func68 rfl rfl (Sr (Wn 1 rfl (Nx (Sq (Sr (Wn 1 rfl (Wr (.len underlying32 rfl) rfl (Wn 1 rfl (Nx (WC.block (WC.loop (ι:=Nat) (fun k=>[(0,.slice A n c),(6,.slice A n c),(7,.int .i64 (((n:Nat):Int))),(8,.int .i64 (((k:Nat):Int)))]) (fun k ab=>(k<=n)/\(∀j,j<k->RightAt xs j)/\Le w ab/\w.heap.size<=ab.heap.size) (fun k=>n-k) 0 ?_ ?_ ?_)))))))))))
 ·exact .of rfl
 ·exact⟨Nat.zero_le _,fun j hj=>absurd hj (Nat.not_lt_zero _),(Le.refl w),Nat.le_refl _⟩
 rintro k ab ⟨hk,hz,U,D⟩
 refine Sr (Wn 1 rfl (Nx (Sq ?_)))
 by_cases c0:((k:Nat):Int)<((n:Nat):Int)
 ·refine Cy rfl (dT c0) (Sn (Sq (WC.block (Sr (Wn 1 rfl (Wa (.idxS (k) underlying32 sz81 rfl rfl (hV.isSome edgeV_row (by omega)) (rfl) (by omega)) rfl (Wr (.vload ag81 rfl (hV.le U) edgeV_row (getS xs noEdge (by omega))) rfl (W.ef rfl rfl rfl (Ef.allocA z81 ?_)))))))))
  intro al aq ar ac z
  have ac:Blk aq al 81 (edgeV noEdge).toArray:=ac
  refine Wn 1 rfl (W.ef0 rfl rfl (Ef.storeAll sz81 (by rfl) rfl rfl ac (by simp only[List.size_toArray,edgeV_row.len]) (edgeV_row.one (xs.getD k noEdge)) ?_))
  intro au ad C
  have ad:Blk au al 81 (edgeV (xs.getD k noEdge)).toArray:=ad
  refine Nx (Sq (Sq (WC.draw [0,1,2,3,4,5,6,7,8,9,10,11,12,13,14,15,16] mixed (by kernel_rfl) fun w4 u=>?_)))
  have f4:=(ad.le u)
  refine Gd rfl (.loadAll ag81 (by rfl) rfl f4) ?_
  refine G.ef rfl rfl rfl rfl rfl (Ef.call go160 rfl rfl (edge_ok (xs.getD k noEdge) w4) ?_)
  rintro _ av ⟨rfl,i⟩
  refine⟨_,rfl,?_⟩
  refine⟨fun _=>i,?_⟩
  have V:=(((U.trans z).tb C U ar).trans u).trans i
  refine Gn 1 rfl ?_
  by_cases am:(edgeOk (xs.getD k noEdge))=true
  ·refine Ga rfl (.dec (.move rfl) (congrArg not (am))) (Gn 2 rfl ?_)
   by_cases an:0<((k:Nat):Int)
   ·refine Gag rfl (.dec (.move rfl) (dT an)) (Gn 2 rfl (Gag rfl (.sub rfl rfl (by omega)) (Gag rfl (.idxS ((k-1)) underlying32 sz81 rfl rfl (hV.isSome edgeV_row (by omega)) (by omega) (by omega)) (Gdg rfl (.vload ag81 rfl (hV.le V) edgeV_row (getS xs noEdge (by omega))) ?_))))
    have f6:=(f4.le i)
    refine Gdg rfl (.loadAll ag81 (by rfl) rfl f6) ?_
    refine G.efg rfl rfl rfl rfl rfl (rfl) rfl rfl (Ef.call go162 rfl rfl (order_ok (xs.getD (k-1) noEdge) (xs.getD k noEdge) av) ?_)
    rintro _ aF ⟨rfl,F⟩
    refine⟨_,rfl,?_⟩
    refine⟨fun _=>F,?_⟩
    have L7:=V.trans F
    refine Gn 1 rfl (Gag rfl (.pickT rfl rfl rfl) (Gn 1 rfl (G.nil (E.thenN ?_))))
    by_cases c1:0<=(ordE (xs.getD (k-1) noEdge) (xs.getD k noEdge))
    ·refine Cy rfl (dT c1) (Sr (Wn 1 rfl (Nx (Rt (E.thenR (E.blkR (E.thenR (E.thenR (E.blkR (E.thenR (E.retG1 rfl rfl ?_)))))))))))
     exact⟨rB (dF (fun hr=>by have hr:=hr k (by omega);unfold RightAt at hr;first|exact absurd hr.1 (by assumption)|(have b:=hr.2;clear hr;omega))).symm,L7⟩
    refine Cn rfl (dF c1) (Sn (Sq (Sq (WC.draw [0,1,2,3,4,5,6,7,8,9,10,11,12] mixed (by kernel_rfl) fun w6 e=>?_))))
    have H:=L7.trans e
    refine Gn 2 rfl ?_
    by_cases J:((k:Nat):Int)=0
    ·refine Ga rfl (.dec (.move rfl) (dT J)) (Gn 10 rfl (G.nil (E.thenN (WC.condT rfl (WC.exit (E.thenX (E.blkH (E.thenN (WC.region (Wa (.add rfl rfl (by omega)) rfl (Wn 1 rfl (W.nil (E.again (k+1) (.of rfl) ?_ ?_)))))))))))))
     ·exact⟨by omega,fun j hj=>by rcases Nat.lt_or_ge j k with h|h;exact hz j h;rw[show j=k by omega];refine⟨by assumption,fun _=>?_,fun⟨_,_⟩=>⟨?_,?_,?_,?_⟩⟩<;>first|omega|(exfalso;omega)|(exact fun⟨_,_⟩=>by omega),H,by have:=D;have:=z.size;have:=C.size;have:=u.size;have:=i.size;have:=F.size;have:=e.size;omega⟩
     first|omega|(simp only[];omega)
    refine Ga rfl (.dec (.move rfl) (dF J)) (Gn 2 rfl (Gag rfl (.sub rfl rfl (by omega)) (Gag rfl (.idxS ((k-1)) underlying32 sz81 rfl rfl (hV.isSome edgeV_row (by omega)) (by omega) (by omega)) (Gag rfl (.vfield fa81_2 (hV.isSome edgeV_row (by omega)) rfl) (Gdg rfl (.vcell (j:=(k-1)) (o:=2) (v:= .int .i64 ((xs.getD (k-1) noEdge).c)) na3 rfl (hV.le H) edgeV_row (getS xs noEdge (by omega)) rfl) ?_)))))
    refine Gag rfl (.field0 fa81_2 rfl) ?_
    have K:=(f6.le (F.trans e))
    refine Gdg rfl (.loadB (v:= .int .i64 ((xs.getD k noEdge).c)) na3 rfl K rfl) (Gn 2 rfl (G.nil (E.thenN ?_)))
    by_cases L:((xs.getD (k-1) noEdge).c)≠((xs.getD k noEdge).c)
    ·refine Cy rfl (dT L) (WC.exit (E.thenX (E.blkH (E.thenN (WC.region (Wa (.add rfl rfl (by omega)) rfl (Wn 1 rfl (W.nil (E.again (k+1) (.of rfl) ?_ ?_)))))))))
     ·exact⟨by omega,fun j hj=>by rcases Nat.lt_or_ge j k with h|h;exact hz j h;rw[show j=k by omega];refine⟨by assumption,fun _=>?_,fun⟨_,_⟩=>⟨?_,?_,?_,?_⟩⟩<;>first|omega|(exfalso;omega)|(exact fun⟨_,_⟩=>by omega),H,by have:=D;have:=z.size;have:=C.size;have:=u.size;have:=i.size;have:=F.size;have:=e.size;omega⟩
     first|omega|(simp only[];omega)
    refine Cn rfl (dF L) (Sn (Sr (Wn 2 rfl (Wa (.sub rfl rfl (by omega)) rfl (Wa (.idxS ((k-1)) underlying32 sz81 rfl rfl (hV.isSome edgeV_row (by omega)) (by omega) (by omega)) rfl (Wr (.vload ag81 rfl (hV.le H) edgeV_row (getS xs noEdge (by omega))) rfl (W.ef rfl rfl rfl ?_)))))))
    refine Ef.allocA z81 fun ao aw ax (ay:Blk aw ao 81 (edgeV noEdge).toArray) N=>(W.ef0 rfl rfl (Ef.storeAll sz81 (by rfl) rfl rfl ay (by simp only[List.size_toArray,edgeV_row.len]) (edgeV_row.one (xs.getD (k-1) noEdge)) ?_))
    intro az X O
    have X:Blk az ao 81 (edgeV (xs.getD (k-1) noEdge)).toArray:=X
    refine Nx (Sq (WC.draw [0,1,2,3,4,5,6,7,8,9,10,11,12,13,14,15,16,17,18,19,20,21,22,23,24,25,26,27,28,29,30,31,32,33] mixed (by kernel_rfl) fun w8 d=>?_))
    have x:=((H.trans N).tb O H ax).trans d
    refine Gn 2 rfl ?_
    by_cases P:1<((k:Nat):Int)
    ·refine Ga rfl (.dec (.move rfl) (dT P)) (Gn 2 rfl (Gag rfl (.sub rfl rfl (by omega)) (Gag rfl (.idxS ((k-2)) underlying32 sz81 rfl rfl (hV.isSome edgeV_row (by omega)) (by omega) (by omega)) (Gag rfl (.vfield fa81_2 (hV.isSome edgeV_row (by omega)) rfl) (Gdg rfl (.vcell (j:=(k-2)) (o:=2) (v:= .int .i64 ((xs.getD (k-2) noEdge).c)) na3 rfl (hV.le x) edgeV_row (getS xs noEdge (by omega)) rfl) ?_)))))
     refine Gag rfl (.field0 fa81_2 rfl) ?_
     have Y:=(((K.le N).cn O (by have:=K.lt;omega)).le d)
     refine Gdg rfl (.loadB (v:= .int .i64 ((xs.getD k noEdge).c)) na3 rfl Y rfl) (Gn 2 rfl ?_)
     by_cases Q:((xs.getD (k-2) noEdge).c)=((xs.getD k noEdge).c)
     ·refine Ga rfl (.dec (.move rfl) (dT Q)) (Gn 20 rfl (G.nil (E.thenN (WC.condT rfl (Sr (Wn 1 rfl (Nx (Rt (E.blkR (E.thenR (E.thenR (E.blkR (E.thenR (E.retG1 rfl rfl ?_))))))))))))))
      exact⟨rB (dF (fun hr=>by have hr:=hr k (by omega);unfold RightAt at hr;first|exact absurd hr.1 (by assumption)|(have b:=hr.2;clear hr;omega))).symm,x⟩
     refine Ga rfl (.dec (.move rfl) (dF Q)) (Gag rfl (.field0 fa81_0 rfl) ?_)
     have ae:=(X.le d)
     refine Gdg rfl (.loadB (v:= .int .i64 ((xs.getD (k-1) noEdge).f)) na3 rfl ae rfl) (Gag rfl (.field0 fa81_1 rfl) (Gdg rfl (.loadB (v:= .int .i64 ((xs.getD k noEdge).t)) na3 rfl Y rfl) (Gn 2 rfl ?_)))
     by_cases l:((xs.getD (k-1) noEdge).f)≠((xs.getD k noEdge).t)
     ·refine Ga rfl (.dec (.move rfl) (dT l)) (Gn 13 rfl (G.nil (E.thenN (WC.condT rfl (Sr (Wn 1 rfl (Nx (Rt (E.blkR (E.thenR (E.thenR (E.blkR (E.thenR (E.retG1 rfl rfl ?_))))))))))))))
      exact⟨rB (dF (fun hr=>by have hr:=hr k (by omega);unfold RightAt at hr;first|exact absurd hr.1 (by assumption)|(have b:=hr.2;clear hr;omega))).symm,x⟩
     refine Ga rfl (.dec (.move rfl) (dF l)) (Gag rfl (.field0 fa81_1 rfl) (Gdg rfl (.loadB (v:= .int .i64 ((xs.getD (k-1) noEdge).t)) na3 rfl ae rfl) (Gag rfl (.field0 fa81_0 rfl) (Gdg rfl (.loadB (v:= .int .i64 ((xs.getD k noEdge).f)) na3 rfl Y rfl) (Gn 2 rfl ?_)))))
     by_cases m:((xs.getD (k-1) noEdge).t)≠((xs.getD k noEdge).f)
     ·refine Ga rfl (.dec (.move rfl) (dT m)) (Gn 6 rfl (G.nil (E.thenN (WC.condT rfl (Sr (Wn 1 rfl (Nx (Rt (E.blkR (E.thenR (E.thenR (E.blkR (E.thenR (E.retG1 rfl rfl ?_))))))))))))))
      exact⟨rB (dF (fun hr=>by have hr:=hr k (by omega);unfold RightAt at hr;first|exact absurd hr.1 (by assumption)|(have b:=hr.2;clear hr;omega))).symm,x⟩
     refine Ga rfl (.dec (.move rfl) (dF m)) (Gag rfl (.field0 fa81_3 rfl) (Gdg rfl (.loadB (v:= .int .i64 ((xs.getD (k-1) noEdge).r)) na3 rfl ae rfl) (Gag rfl (.field0 fa81_3 rfl) (Gdg rfl (.loadB (v:= .int .i64 ((xs.getD k noEdge).r)) na3 rfl Y rfl) (Gn 2 rfl (G.nil (E.thenN ?_)))))))
     by_cases s:((xs.getD (k-1) noEdge).r)≠((xs.getD k noEdge).r)
     ·refine Cy rfl (dT s) (Sr (Wn 1 rfl (Nx (Rt (E.blkR (E.thenR (E.thenR (E.blkR (E.thenR (E.retG1 rfl rfl ?_))))))))))
      exact⟨rB (dF (fun hr=>by have hr:=hr k (by omega);unfold RightAt at hr;first|exact absurd hr.1 (by assumption)|(have b:=hr.2;clear hr;omega))).symm,x⟩
     refine Cn rfl (dF s) (WC.skip (E.blkN (E.thenN (WC.region (Wa (.add rfl rfl (by omega)) rfl (Wn 1 rfl (W.nil (E.again (k+1) (.of rfl) ?_ ?_))))))))
     ·exact⟨by omega,fun j hj=>by rcases Nat.lt_or_ge j k with h|h;exact hz j h;rw[show j=k by omega];refine⟨by assumption,fun _=>?_,fun⟨_,_⟩=>⟨?_,?_,?_,?_⟩⟩<;>first|omega|(exfalso;omega)|(exact fun⟨_,_⟩=>by omega),x,by have:=D;have:=z.size;have:=C.size;have:=u.size;have:=i.size;have:=F.size;have:=e.size;have:=N.size;have:=O.size;have:=d.size;omega⟩
     first|omega|(simp only[];omega)
    refine Ga rfl (.dec (.move rfl) (dF P)) (Gn 11 rfl (Gag rfl (.field0 fa81_0 rfl) ?_))
    have af:=(X.le d)
    refine Gdg rfl (.loadB (v:= .int .i64 ((xs.getD (k-1) noEdge).f)) na3 rfl af rfl) (Gag rfl (.field0 fa81_1 rfl) ?_)
    have ah:=(((K.le N).cn O (by have:=K.lt;omega)).le d)
    refine Gdg rfl (.loadB (v:= .int .i64 ((xs.getD k noEdge).t)) na3 rfl ah rfl) (Gn 2 rfl ?_)
    by_cases l:((xs.getD (k-1) noEdge).f)≠((xs.getD k noEdge).t)
    ·refine Ga rfl (.dec (.move rfl) (dT l)) (Gn 13 rfl (G.nil (E.thenN (WC.condT rfl (Sr (Wn 1 rfl (Nx (Rt (E.blkR (E.thenR (E.thenR (E.blkR (E.thenR (E.retG1 rfl rfl ?_))))))))))))))
     exact⟨rB (dF (fun hr=>by have hr:=hr k (by omega);unfold RightAt at hr;first|exact absurd hr.1 (by assumption)|(have b:=hr.2;clear hr;omega))).symm,x⟩
    refine Ga rfl (.dec (.move rfl) (dF l)) (Gag rfl (.field0 fa81_1 rfl) (Gdg rfl (.loadB (v:= .int .i64 ((xs.getD (k-1) noEdge).t)) na3 rfl af rfl) (Gag rfl (.field0 fa81_0 rfl) (Gdg rfl (.loadB (v:= .int .i64 ((xs.getD k noEdge).f)) na3 rfl ah rfl) (Gn 2 rfl ?_)))))
    by_cases m:((xs.getD (k-1) noEdge).t)≠((xs.getD k noEdge).f)
    ·refine Ga rfl (.dec (.move rfl) (dT m)) (Gn 6 rfl (G.nil (E.thenN (WC.condT rfl (Sr (Wn 1 rfl (Nx (Rt (E.blkR (E.thenR (E.thenR (E.blkR (E.thenR (E.retG1 rfl rfl ?_))))))))))))))
     exact⟨rB (dF (fun hr=>by have hr:=hr k (by omega);unfold RightAt at hr;first|exact absurd hr.1 (by assumption)|(have b:=hr.2;clear hr;omega))).symm,x⟩
    refine Ga rfl (.dec (.move rfl) (dF m)) (Gag rfl (.field0 fa81_3 rfl) (Gdg rfl (.loadB (v:= .int .i64 ((xs.getD (k-1) noEdge).r)) na3 rfl af rfl) (Gag rfl (.field0 fa81_3 rfl) (Gdg rfl (.loadB (v:= .int .i64 ((xs.getD k noEdge).r)) na3 rfl ah rfl) (Gn 2 rfl (G.nil (E.thenN ?_)))))))
    by_cases s:((xs.getD (k-1) noEdge).r)≠((xs.getD k noEdge).r)
    ·refine Cy rfl (dT s) (Sr (Wn 1 rfl (Nx (Rt (E.blkR (E.thenR (E.thenR (E.blkR (E.thenR (E.retG1 rfl rfl ?_))))))))))
     exact⟨rB (dF (fun hr=>by have hr:=hr k (by omega);unfold RightAt at hr;first|exact absurd hr.1 (by assumption)|(have b:=hr.2;clear hr;omega))).symm,x⟩
    refine Cn rfl (dF s) (WC.skip (E.blkN (E.thenN (WC.region (Wa (.add rfl rfl (by omega)) rfl (Wn 1 rfl (W.nil (E.again (k+1) (.of rfl) ?_ ?_))))))))
    ·exact⟨by omega,fun j hj=>by rcases Nat.lt_or_ge j k with h|h;exact hz j h;rw[show j=k by omega];refine⟨by assumption,fun _=>?_,fun⟨_,_⟩=>⟨?_,?_,?_,?_⟩⟩<;>first|omega|(exfalso;omega)|(exact fun⟨_,_⟩=>by omega),x,by have:=D;have:=z.size;have:=C.size;have:=u.size;have:=i.size;have:=F.size;have:=e.size;have:=N.size;have:=O.size;have:=d.size;omega⟩
    first|omega|(simp only[];omega)
   refine Gag rfl (.dec (.move rfl) (dF an)) (Gn 8 rfl (Gag rfl (.pickF rfl rfl rfl) (Gn 1 rfl (G.nil (E.thenN (WC.condF rfl (Sn (Sq (Sq (WC.draw [0,1,2,3,4,5,6,7,8,9,10,11,12] mixed (by kernel_rfl) fun w6 e=>?_))))))))))
   have I:=V.trans e
   refine Gn 2 rfl ?_
   by_cases J:((k:Nat):Int)=0
   ·refine Ga rfl (.dec (.move rfl) (dT J)) (Gn 10 rfl (G.nil (E.thenN (WC.condT rfl (WC.exit (E.thenX (E.blkH (E.thenN (WC.region (Wa (.add rfl rfl (by omega)) rfl (Wn 1 rfl (W.nil (E.again (k+1) (.of rfl) ?_ ?_)))))))))))))
    ·exact⟨by omega,fun j hj=>by rcases Nat.lt_or_ge j k with h|h;exact hz j h;rw[show j=k by omega];refine⟨by assumption,fun _=>?_,fun⟨_,_⟩=>⟨?_,?_,?_,?_⟩⟩<;>first|omega|(exfalso;omega)|(exact fun⟨_,_⟩=>by omega),I,by have:=D;have:=z.size;have:=C.size;have:=u.size;have:=i.size;have:=e.size;omega⟩
    first|omega|(simp only[];omega)
   refine Ga rfl (.dec (.move rfl) (dF J)) (Gn 2 rfl (Gag rfl (.sub rfl rfl (by omega)) (Gag rfl (.idxS ((k-1)) underlying32 sz81 rfl rfl (hV.isSome edgeV_row (by omega)) (by omega) (by omega)) (Gag rfl (.vfield fa81_2 (hV.isSome edgeV_row (by omega)) rfl) (Gdg rfl (.vcell (j:=(k-1)) (o:=2) (v:= .int .i64 ((xs.getD (k-1) noEdge).c)) na3 rfl (hV.le I) edgeV_row (getS xs noEdge (by omega)) rfl) ?_)))))
   refine Gag rfl (.field0 fa81_2 rfl) ?_
   have R:=(f4.le (i.trans e))
   refine Gdg rfl (.loadB (v:= .int .i64 ((xs.getD k noEdge).c)) na3 rfl R rfl) (Gn 2 rfl (G.nil (E.thenN ?_)))
   by_cases L:((xs.getD (k-1) noEdge).c)≠((xs.getD k noEdge).c)
   ·refine Cy rfl (dT L) (WC.exit (E.thenX (E.blkH (E.thenN (WC.region (Wa (.add rfl rfl (by omega)) rfl (Wn 1 rfl (W.nil (E.again (k+1) (.of rfl) ?_ ?_)))))))))
    ·exact⟨by omega,fun j hj=>by rcases Nat.lt_or_ge j k with h|h;exact hz j h;rw[show j=k by omega];refine⟨by assumption,fun _=>?_,fun⟨_,_⟩=>⟨?_,?_,?_,?_⟩⟩<;>first|omega|(exfalso;omega)|(exact fun⟨_,_⟩=>by omega),I,by have:=D;have:=z.size;have:=C.size;have:=u.size;have:=i.size;have:=e.size;omega⟩
    first|omega|(simp only[];omega)
   refine Cn rfl (dF L) (Sn (Sr (Wn 2 rfl (Wa (.sub rfl rfl (by omega)) rfl (Wa (.idxS ((k-1)) underlying32 sz81 rfl rfl (hV.isSome edgeV_row (by omega)) (by omega) (by omega)) rfl (Wr (.vload ag81 rfl (hV.le I) edgeV_row (getS xs noEdge (by omega))) rfl (W.ef rfl rfl rfl ?_)))))))
   refine Ef.allocA z81 fun ap aA aB (aC:Blk aA ap 81 (edgeV noEdge).toArray) S=>(W.ef0 rfl rfl (Ef.storeAll sz81 (by rfl) rfl rfl aC (by simp only[List.size_toArray,edgeV_row.len]) (edgeV_row.one (xs.getD (k-1) noEdge)) ?_))
   intro aE Z T
   have Z:Blk aE ap 81 (edgeV (xs.getD (k-1) noEdge)).toArray:=Z
   refine Nx (Sq (WC.draw [0,1,2,3,4,5,6,7,8,9,10,11,12,13,14,15,16,17,18,19,20,21,22,23,24,25,26,27,28,29,30,31,32,33] mixed (by kernel_rfl) fun w8 d=>?_))
   have y:=((I.trans S).tb T I aB).trans d
   refine Gn 2 rfl ?_
   by_cases P:1<((k:Nat):Int)
   ·refine Ga rfl (.dec (.move rfl) (dT P)) (Gn 2 rfl (Gag rfl (.sub rfl rfl (by omega)) (Gag rfl (.idxS ((k-2)) underlying32 sz81 rfl rfl (hV.isSome edgeV_row (by omega)) (by omega) (by omega)) (Gag rfl (.vfield fa81_2 (hV.isSome edgeV_row (by omega)) rfl) (Gdg rfl (.vcell (j:=(k-2)) (o:=2) (v:= .int .i64 ((xs.getD (k-2) noEdge).c)) na3 rfl (hV.le y) edgeV_row (getS xs noEdge (by omega)) rfl) ?_)))))
    refine Gag rfl (.field0 fa81_2 rfl) ?_
    have aa:=(((R.le S).cn T (by have:=R.lt;omega)).le d)
    refine Gdg rfl (.loadB (v:= .int .i64 ((xs.getD k noEdge).c)) na3 rfl aa rfl) (Gn 2 rfl ?_)
    by_cases Q:((xs.getD (k-2) noEdge).c)=((xs.getD k noEdge).c)
    ·refine Ga rfl (.dec (.move rfl) (dT Q)) (Gn 20 rfl (G.nil (E.thenN (WC.condT rfl (Sr (Wn 1 rfl (Nx (Rt (E.blkR (E.thenR (E.thenR (E.blkR (E.thenR (E.retG1 rfl rfl ?_))))))))))))))
     exact⟨rB (dF (fun hr=>by have hr:=hr k (by omega);unfold RightAt at hr;first|exact absurd hr.1 (by assumption)|(have b:=hr.2;clear hr;omega))).symm,y⟩
    refine Ga rfl (.dec (.move rfl) (dF Q)) (Gag rfl (.field0 fa81_0 rfl) ?_)
    have ai:=(Z.le d)
    refine Gdg rfl (.loadB (v:= .int .i64 ((xs.getD (k-1) noEdge).f)) na3 rfl ai rfl) (Gag rfl (.field0 fa81_1 rfl) (Gdg rfl (.loadB (v:= .int .i64 ((xs.getD k noEdge).t)) na3 rfl aa rfl) (Gn 2 rfl ?_)))
    by_cases l:((xs.getD (k-1) noEdge).f)≠((xs.getD k noEdge).t)
    ·refine Ga rfl (.dec (.move rfl) (dT l)) (Gn 13 rfl (G.nil (E.thenN (WC.condT rfl (Sr (Wn 1 rfl (Nx (Rt (E.blkR (E.thenR (E.thenR (E.blkR (E.thenR (E.retG1 rfl rfl ?_))))))))))))))
     exact⟨rB (dF (fun hr=>by have hr:=hr k (by omega);unfold RightAt at hr;first|exact absurd hr.1 (by assumption)|(have b:=hr.2;clear hr;omega))).symm,y⟩
    refine Ga rfl (.dec (.move rfl) (dF l)) (Gag rfl (.field0 fa81_1 rfl) (Gdg rfl (.loadB (v:= .int .i64 ((xs.getD (k-1) noEdge).t)) na3 rfl ai rfl) (Gag rfl (.field0 fa81_0 rfl) (Gdg rfl (.loadB (v:= .int .i64 ((xs.getD k noEdge).f)) na3 rfl aa rfl) (Gn 2 rfl ?_)))))
    by_cases m:((xs.getD (k-1) noEdge).t)≠((xs.getD k noEdge).f)
    ·refine Ga rfl (.dec (.move rfl) (dT m)) (Gn 6 rfl (G.nil (E.thenN (WC.condT rfl (Sr (Wn 1 rfl (Nx (Rt (E.blkR (E.thenR (E.thenR (E.blkR (E.thenR (E.retG1 rfl rfl ?_))))))))))))))
     exact⟨rB (dF (fun hr=>by have hr:=hr k (by omega);unfold RightAt at hr;first|exact absurd hr.1 (by assumption)|(have b:=hr.2;clear hr;omega))).symm,y⟩
    refine Ga rfl (.dec (.move rfl) (dF m)) (Gag rfl (.field0 fa81_3 rfl) (Gdg rfl (.loadB (v:= .int .i64 ((xs.getD (k-1) noEdge).r)) na3 rfl ai rfl) (Gag rfl (.field0 fa81_3 rfl) (Gdg rfl (.loadB (v:= .int .i64 ((xs.getD k noEdge).r)) na3 rfl aa rfl) (Gn 2 rfl (G.nil (E.thenN ?_)))))))
    by_cases s:((xs.getD (k-1) noEdge).r)≠((xs.getD k noEdge).r)
    ·refine Cy rfl (dT s) (Sr (Wn 1 rfl (Nx (Rt (E.blkR (E.thenR (E.thenR (E.blkR (E.thenR (E.retG1 rfl rfl ?_))))))))))
     exact⟨rB (dF (fun hr=>by have hr:=hr k (by omega);unfold RightAt at hr;first|exact absurd hr.1 (by assumption)|(have b:=hr.2;clear hr;omega))).symm,y⟩
    refine Cn rfl (dF s) (WC.skip (E.blkN (E.thenN (WC.region (Wa (.add rfl rfl (by omega)) rfl (Wn 1 rfl (W.nil (E.again (k+1) (.of rfl) ?_ ?_))))))))
    ·exact⟨by omega,fun j hj=>by rcases Nat.lt_or_ge j k with h|h;exact hz j h;rw[show j=k by omega];refine⟨by assumption,fun _=>?_,fun⟨_,_⟩=>⟨?_,?_,?_,?_⟩⟩<;>first|omega|(exfalso;omega)|(exact fun⟨_,_⟩=>by omega),y,by have:=D;have:=z.size;have:=C.size;have:=u.size;have:=i.size;have:=e.size;have:=S.size;have:=T.size;have:=d.size;omega⟩
    first|omega|(simp only[];omega)
   refine Ga rfl (.dec (.move rfl) (dF P)) (Gn 11 rfl (Gag rfl (.field0 fa81_0 rfl) ?_))
   have aj:=(Z.le d)
   refine Gdg rfl (.loadB (v:= .int .i64 ((xs.getD (k-1) noEdge).f)) na3 rfl aj rfl) (Gag rfl (.field0 fa81_1 rfl) ?_)
   have ak:=(((R.le S).cn T (by have:=R.lt;omega)).le d)
   refine Gdg rfl (.loadB (v:= .int .i64 ((xs.getD k noEdge).t)) na3 rfl ak rfl) (Gn 2 rfl ?_)
   by_cases l:((xs.getD (k-1) noEdge).f)≠((xs.getD k noEdge).t)
   ·refine Ga rfl (.dec (.move rfl) (dT l)) (Gn 13 rfl (G.nil (E.thenN (WC.condT rfl (Sr (Wn 1 rfl (Nx (Rt (E.blkR (E.thenR (E.thenR (E.blkR (E.thenR (E.retG1 rfl rfl ?_))))))))))))))
    exact⟨rB (dF (fun hr=>by have hr:=hr k (by omega);unfold RightAt at hr;first|exact absurd hr.1 (by assumption)|(have b:=hr.2;clear hr;omega))).symm,y⟩
   refine Ga rfl (.dec (.move rfl) (dF l)) (Gag rfl (.field0 fa81_1 rfl) (Gdg rfl (.loadB (v:= .int .i64 ((xs.getD (k-1) noEdge).t)) na3 rfl aj rfl) (Gag rfl (.field0 fa81_0 rfl) (Gdg rfl (.loadB (v:= .int .i64 ((xs.getD k noEdge).f)) na3 rfl ak rfl) (Gn 2 rfl ?_)))))
   by_cases m:((xs.getD (k-1) noEdge).t)≠((xs.getD k noEdge).f)
   ·refine Ga rfl (.dec (.move rfl) (dT m)) (Gn 6 rfl (G.nil (E.thenN (WC.condT rfl (Sr (Wn 1 rfl (Nx (Rt (E.blkR (E.thenR (E.thenR (E.blkR (E.thenR (E.retG1 rfl rfl ?_))))))))))))))
    exact⟨rB (dF (fun hr=>by have hr:=hr k (by omega);unfold RightAt at hr;first|exact absurd hr.1 (by assumption)|(have b:=hr.2;clear hr;omega))).symm,y⟩
   refine Ga rfl (.dec (.move rfl) (dF m)) (Gag rfl (.field0 fa81_3 rfl) (Gdg rfl (.loadB (v:= .int .i64 ((xs.getD (k-1) noEdge).r)) na3 rfl aj rfl) (Gag rfl (.field0 fa81_3 rfl) (Gdg rfl (.loadB (v:= .int .i64 ((xs.getD k noEdge).r)) na3 rfl ak rfl) (Gn 2 rfl (G.nil (E.thenN ?_)))))))
   by_cases s:((xs.getD (k-1) noEdge).r)≠((xs.getD k noEdge).r)
   ·refine Cy rfl (dT s) (Sr (Wn 1 rfl (Nx (Rt (E.blkR (E.thenR (E.thenR (E.blkR (E.thenR (E.retG1 rfl rfl ?_))))))))))
    exact⟨rB (dF (fun hr=>by have hr:=hr k (by omega);unfold RightAt at hr;first|exact absurd hr.1 (by assumption)|(have b:=hr.2;clear hr;omega))).symm,y⟩
   refine Cn rfl (dF s) (WC.skip (E.blkN (E.thenN (WC.region (Wa (.add rfl rfl (by omega)) rfl (Wn 1 rfl (W.nil (E.again (k+1) (.of rfl) ?_ ?_))))))))
   ·exact⟨by omega,fun j hj=>by rcases Nat.lt_or_ge j k with h|h;exact hz j h;rw[show j=k by omega];refine⟨by assumption,fun _=>?_,fun⟨_,_⟩=>⟨?_,?_,?_,?_⟩⟩<;>first|omega|(exfalso;omega)|(exact fun⟨_,_⟩=>by omega),y,by have:=D;have:=z.size;have:=C.size;have:=u.size;have:=i.size;have:=e.size;have:=S.size;have:=T.size;have:=d.size;omega⟩
   first|omega|(simp only[];omega)
  refine Ga rfl (.dec (.move rfl) (congrArg not ((Bool.eq_false_iff.2 am)))) (Gn 3 rfl (G.skipu rfl rfl rfl rfl rfl rfl (G.skipu rfl rfl rfl rfl rfl rfl (G.skipu rfl rfl rfl rfl rfl rfl (G.skipu rfl rfl rfl rfl rfl rfl ?_)))))
  refine G.skipu rfl rfl rfl rfl rfl rfl (G.skipu rfl rfl rfl rfl rfl rfl (G.skipu rfl rfl rfl rfl rfl rfl (G.skipu rfl rfl rfl rfl rfl rfl (Gn 2 rfl (G.nil (E.thenN (WC.condT rfl (Sr (Wn 1 rfl (Nx (Rt (E.thenR (E.blkR (E.thenR (E.thenR (E.blkR (E.thenR (E.retG1 rfl rfl ?_))))))))))))))))))
  exact⟨rB (dF (fun hr=>by have hr:=hr k (by omega);unfold RightAt at hr;first|exact absurd hr.1 (by assumption)|(have b:=hr.2;clear hr;omega))).symm,V⟩
 refine Cn rfl (dF c0) (WC.exit (E.thenX (E.thenX (E.blkH (E.thenN (Sr (Wn 1 rfl (Nx (Rt (E.retG1 rfl rfl ?_))))))))))
 exact⟨rB (dT (fun j hj=>hz j (by omega))).symm,U⟩

theorem gway_ok {A:Option Addr}{n c:Nat}{xs:List Gsp.Edge}(w:World)(hV:Vec w edgeV 9 A n xs)(hn:n<=1000000):Calls prog 101 #[.slice A n c] w fun r w'=>r= .returned (.bool (wayG xs))/\Le w w':=by
 have hl:=hV.1
 refine enter func101 rfl rfl (Sr (Wn 1 rfl (Nx (Sq (Sr (Wn 1 rfl (Wr (.len underlying32 rfl) rfl (W.cl go102 rfl rfl (gin_ok ((n:Nat):Int) 1 8 w) ?_))))))))
 rintro _ aB ⟨rfl,aq⟩
 have l:=(Le.refl w).trans aq
 refine Wn 1 rfl (Nx ?_)
 by_cases V:(inB ((n:Nat):Int) 1 8)=true
 ·refine Cn rfl (congrArg not (V)) (Sn (Sr (W.ef rfl rfl rfl (Ef.allocA z288 fun h X y F ar=>?_))))
  have F:Blk X h 288 (((List.replicate 12 false)).map Value.bool).toArray:=F.cast (rfl)
  refine Nx (Sq (Sr (Wn 1 rfl (Wr (.len underlying32 rfl) rfl (Wn 1 rfl (Nx (WC.block (WC.loop (ι:=Nat×(List Bool)) (fun⟨k,bs⟩=>[(0,.slice A n c),(3,.pointer (some ⟨h,0,none⟩)),(10,.slice A n c),(11,.int .i64 (((n:Nat):Int))),(12,.int .i64 (((k:Nat):Int)))]) (fun⟨k,bs⟩ z=>(k<=n)/\(bs.length=12)/\(∀j,j<k->WayAt xs j)/\(Been bs xs k)/\Le w z/\X.heap.size<=z.heap.size/\Blk z h 288 (bs.map Value.bool).toArray) (fun⟨k,bs⟩=>n-k) (0,(List.replicate 12 false)) ?_ ?_ ?_))))))))
  ·exact .of rfl
  ·exact⟨Nat.zero_le _,rfl,fun j hj=>absurd hj (Nat.not_lt_zero _),been_first xs,(l.trans ar),Nat.le_refl _,F⟩
  rintro⟨k,bs⟩ z ⟨hk,hb,hz,hd,C,Y,d⟩
  refine Sr (Wn 1 rfl (Nx (Sq ?_)))
  by_cases Z:((k:Nat):Int)<((n:Nat):Int)
  ·refine Cy rfl (dT Z) (Sn (Sq (WC.block (Sr (Wn 1 rfl (Wa (.idxS (k) underlying32 sz81 rfl rfl (hV.isSome edgeV_row (by omega)) (rfl) (by omega)) rfl (Wr (.vload ag81 rfl (hV.le C) edgeV_row (getS xs noEdge (by omega))) rfl (W.ef rfl rfl rfl (Ef.allocA z81 ?_)))))))))
   intro D au av H s
   have H:Blk au D 81 (edgeV noEdge).toArray:=H
   refine Wn 1 rfl (W.ef0 rfl rfl (Ef.storeAll sz81 (by rfl) rfl rfl H (by simp only[List.size_toArray,edgeV_row.len]) (edgeV_row.one (xs.getD k noEdge)) ?_))
   intro aw I u
   have I:Blk aw D 81 (edgeV (xs.getD k noEdge)).toArray:=I
   refine Nx (Sq (Sq (WC.draw [0,1,2,3,4,5,6,7,8,9,10,11,12,13,14,15,16,17,18,19,20,21,22,23] mixed (by kernel_rfl) fun w7 m=>?_)))
   have J:=(I.le m)
   refine Gd rfl (.loadAll ag81 (by rfl) rfl J) ?_
   refine G.ef rfl rfl rfl rfl rfl (Ef.call go160 rfl rfl (edge_ok (xs.getD k noEdge) w7) ?_)
   rintro _ aC ⟨rfl,e⟩
   refine⟨_,rfl,?_⟩
   refine⟨fun _=>e,?_⟩
   have i:=(((C.trans s).tb u C av).trans m).trans e
   refine Gn 1 rfl ?_
   by_cases aa:(edgeOk (xs.getD k noEdge))=true
   ·refine Ga rfl (.dec (.move rfl) (congrArg not (aa))) (Gn 2 rfl ?_)
    by_cases ab:0<((k:Nat):Int)
    ·refine Gag rfl (.dec (.move rfl) (dT ab)) (Gn 2 rfl (Gag rfl (.sub rfl rfl (by omega)) (Gag rfl (.idxS ((k-1)) underlying32 sz81 rfl rfl (hV.isSome edgeV_row (by omega)) (by omega) (by omega)) (Gag rfl (.vfield fa81_1 (hV.isSome edgeV_row (by omega)) rfl) (Gdg rfl (.vcell (j:=(k-1)) (o:=1) (v:= .int .i64 ((xs.getD (k-1) noEdge).t)) na3 rfl (hV.le i) edgeV_row (getS xs noEdge (by omega)) rfl) ?_)))))
     refine Gag rfl (.field0 fa81_0 rfl) ?_
     have K:=(J.le e)
     refine Gdg rfl (.loadB (v:= .int .i64 ((xs.getD k noEdge).f)) na3 rfl K rfl) (Gn 1 rfl (Gag rfl (.pickT rfl rfl rfl) (Gn 1 rfl ?_)))
     by_cases ac:((xs.getD (k-1) noEdge).t)≠((xs.getD k noEdge).f)
     ·refine Ga rfl (.dec (.move rfl) (dT ac)) (Gn 5 rfl (G.nil (E.thenN (WC.condT rfl (Sr (Wn 1 rfl (Nx (Rt (E.thenR (E.blkR (E.thenR (E.thenR (E.blkR (E.thenR (E.retG1 rfl rfl ?_)))))))))))))))
      exact⟨rB (dF (fun hr=>by have hr:=hr.2 k (by omega);first|exact absurd hr.1 (by assumption)|exact way_fail hz hd (by assumption) hr|(have:=hr.2.1;omega))).symm,i⟩
     refine Ga rfl (.dec (.move rfl) (dF ac)) (Gag rfl (.field0 fa81_1 rfl) (Gdg rfl (.loadB (v:= .int .i64 ((xs.getD k noEdge).t)) na3 rfl K rfl) ?_))
     have hok:=edgeOk_T (show edgeOk (xs.getD k noEdge)=true by assumption)
     refine Gag rfl (.idxA1 (((xs.getD k noEdge).t).toNat) underlying288 sz4 rfl rfl (by omega) (by omega)) ?_
     have f9:=(((d.le s).cn u (by have:=d.lt;omega)).le (m.trans e))
     refine Gdg rfl (.loadB na4 rfl f9 (getA bs false (by omega))) (Gn 1 rfl (G.nil (E.thenN ?_)))
     by_cases x:((bs).getD (((xs.getD k noEdge).t).toNat) false)=true
     ·refine Cy rfl (x) (Sr (Wn 1 rfl (Nx (Rt (E.thenR (E.blkR (E.thenR (E.thenR (E.blkR (E.thenR (E.retG1 rfl rfl ?_)))))))))))
      exact⟨rB (dF (fun hr=>by have hr:=hr.2 k (by omega);first|exact absurd hr.1 (by assumption)|exact way_fail hz hd (by assumption) hr|(have:=hr.2.1;omega))).symm,i⟩
     refine Cn rfl ((Bool.eq_false_iff.2 x)) (Sn (WC.drawS (fun L w'=>Le w w'/\Blk w' D 81 (edgeV (xs.getD k noEdge)).toArray) [0,1,2,3,4,5,6,7] mixed (by kernel_rfl) fun L b=>?_))
     have ad:=i.trans b
     have ae:=(K.le b)
     refine⟨⟨ad,ae⟩,?_⟩
     have hok:=edgeOk_T (show edgeOk (xs.getD k noEdge)=true by assumption)
     refine GS.any rfl rfl (.field0 fa81_0 rfl) rfl rfl rfl (GS.rd rfl rfl (fun w' hs=> .loadB (v:= .int .i64 ((xs.getD k noEdge).f)) na3 rfl hs.2 rfl) rfl rfl rfl (GS.any rfl rfl (.field0 fa81_1 rfl) rfl rfl rfl (GS.rd rfl rfl (fun w' hs=> .loadB (v:= .int .i64 ((xs.getD k noEdge).t)) na3 rfl hs.2 rfl) rfl rfl rfl (GS.any rfl rfl (.idxA1 (((xs.getD k noEdge).f).toNat) underlying288 sz4 rfl rfl (by omega) (by omega)) rfl rfl rfl (GS.ef0 rfl rfl rfl rfl ?_)))))
     refine Ef.store sz4 rfl rfl (f9.le b) (by simp only[List.size_toArray,List.length_map,List.length_set];omega) rfl ?_
     intro ax N O
     have N:Blk ax h 288 ((bs.set (((xs.getD k noEdge).f).toNat) true).map Value.bool).toArray:=bset N
     have af:=ad.tb O l y
     have ah:=(ae.cn O (by have:=d.lt;omega))
     refine⟨⟨af,ah⟩,?_⟩
     refine GS.any rfl rfl (.idxA1 (((xs.getD k noEdge).t).toNat) underlying288 sz4 rfl rfl (by omega) (by omega)) rfl rfl rfl (GS.ef0 rfl rfl rfl rfl (Ef.store sz4 rfl rfl N (by simp only[List.size_toArray,List.length_map,List.length_set];omega) rfl ?_))
     intro ay P Q
     have P:Blk ay h 288 (((bs.set (((xs.getD k noEdge).f).toNat) true).set (((xs.getD k noEdge).t).toNat) true).map Value.bool).toArray:=bset P
     have ai:=af.tb Q l y
     refine⟨⟨ai,(ah.cn Q (by have:=d.lt;omega))⟩,?_⟩
     refine GS.nil (E.blkN (E.thenN (WC.region (Wa (.add rfl rfl (by omega)) rfl (Wn 1 rfl (W.nil (E.again (k+1,((bs.set (xs.getD k noEdge).f.toNat true).set (xs.getD k noEdge).t.toNat true)) (.of rfl) ?_ ?_)))))))
     ·exact⟨by omega,by simp[hb],way_next hz (by assumption) (by intro h0;omega) hd (by assumption),been_next hb (by assumption) hd,ai,by have:=Y;have:=s.size;have:=u.size;have:=m.size;have:=e.size;have:=b.size;have:=O.size;have:=Q.size;omega,P⟩
     first|omega|(simp only[];omega)
    refine Gag rfl (.dec (.move rfl) (dF ab)) (Gn 9 rfl (Gag rfl (.pickF rfl rfl rfl) (Gn 2 rfl (Gag rfl (.field0 fa81_1 rfl) ?_))))
    have aj:=(J.le e)
    refine Gdg rfl (.loadB (v:= .int .i64 ((xs.getD k noEdge).t)) na3 rfl aj rfl) ?_
    have hok:=edgeOk_T (show edgeOk (xs.getD k noEdge)=true by assumption)
    refine Gag rfl (.idxA1 (((xs.getD k noEdge).t).toNat) underlying288 sz4 rfl rfl (by omega) (by omega)) ?_
    have ak:=(((d.le s).cn u (by have:=d.lt;omega)).le (m.trans e))
    refine Gdg rfl (.loadB na4 rfl ak (getA bs false (by omega))) (Gn 1 rfl (G.nil (E.thenN ?_)))
    by_cases x:((bs).getD (((xs.getD k noEdge).t).toNat) false)=true
    ·refine Cy rfl (x) (Sr (Wn 1 rfl (Nx (Rt (E.thenR (E.blkR (E.thenR (E.thenR (E.blkR (E.thenR (E.retG1 rfl rfl ?_)))))))))))
     exact⟨rB (dF (fun hr=>by have hr:=hr.2 k (by omega);first|exact absurd hr.1 (by assumption)|exact way_fail hz hd (by assumption) hr|(have:=hr.2.1;omega))).symm,i⟩
    refine Cn rfl ((Bool.eq_false_iff.2 x)) (Sn (WC.drawS (fun L w'=>Le w w'/\Blk w' D 81 (edgeV (xs.getD k noEdge)).toArray) [0,1,2,3,4,5,6,7] mixed (by kernel_rfl) fun L b=>?_))
    have al:=i.trans b
    have am:=(aj.le b)
    refine⟨⟨al,am⟩,?_⟩
    have hok:=edgeOk_T (show edgeOk (xs.getD k noEdge)=true by assumption)
    refine GS.any rfl rfl (.field0 fa81_0 rfl) rfl rfl rfl (GS.rd rfl rfl (fun w' hs=> .loadB (v:= .int .i64 ((xs.getD k noEdge).f)) na3 rfl hs.2 rfl) rfl rfl rfl (GS.any rfl rfl (.field0 fa81_1 rfl) rfl rfl rfl (GS.rd rfl rfl (fun w' hs=> .loadB (v:= .int .i64 ((xs.getD k noEdge).t)) na3 rfl hs.2 rfl) rfl rfl rfl (GS.any rfl rfl (.idxA1 (((xs.getD k noEdge).f).toNat) underlying288 sz4 rfl rfl (by omega) (by omega)) rfl rfl rfl (GS.ef0 rfl rfl rfl rfl ?_)))))
    refine Ef.store sz4 rfl rfl (ak.le b) (by simp only[List.size_toArray,List.length_map,List.length_set];omega) rfl ?_
    intro az R S
    have R:Blk az h 288 ((bs.set (((xs.getD k noEdge).f).toNat) true).map Value.bool).toArray:=bset R
    have an:=al.tb S l y
    have ao:=(am.cn S (by have:=d.lt;omega))
    refine⟨⟨an,ao⟩,?_⟩
    refine GS.any rfl rfl (.idxA1 (((xs.getD k noEdge).t).toNat) underlying288 sz4 rfl rfl (by omega) (by omega)) rfl rfl rfl (GS.ef0 rfl rfl rfl rfl (Ef.store sz4 rfl rfl R (by simp only[List.size_toArray,List.length_map,List.length_set];omega) rfl ?_))
    intro aA T U
    have T:Blk aA h 288 (((bs.set (((xs.getD k noEdge).f).toNat) true).set (((xs.getD k noEdge).t).toNat) true).map Value.bool).toArray:=bset T
    have ap:=an.tb U l y
    refine⟨⟨ap,(ao.cn U (by have:=d.lt;omega))⟩,?_⟩
    refine GS.nil (E.blkN (E.thenN (WC.region (Wa (.add rfl rfl (by omega)) rfl (Wn 1 rfl (W.nil (E.again (k+1,((bs.set (xs.getD k noEdge).f.toNat true).set (xs.getD k noEdge).t.toNat true)) (.of rfl) ?_ ?_)))))))
    ·exact⟨by omega,by simp[hb],way_next hz (by assumption) (by intro h0;omega) hd (by assumption),been_next hb (by assumption) hd,ap,by have:=Y;have:=s.size;have:=u.size;have:=m.size;have:=e.size;have:=b.size;have:=S.size;have:=U.size;omega,T⟩
    first|omega|(simp only[];omega)
   refine Ga rfl (.dec (.move rfl) (congrArg not ((Bool.eq_false_iff.2 aa)))) (Gn 3 rfl (G.skipu rfl rfl rfl rfl rfl rfl (G.skipu rfl rfl rfl rfl rfl rfl (G.skipu rfl rfl rfl rfl rfl rfl (G.skipu rfl rfl rfl rfl rfl rfl ?_)))))
   refine G.skipu rfl rfl rfl rfl rfl rfl (G.skipu rfl rfl rfl rfl rfl rfl (G.skipu rfl rfl rfl rfl rfl rfl (G.skipu rfl rfl rfl rfl rfl rfl (G.skipu rfl rfl rfl rfl rfl rfl (Gn 8 rfl (G.nil (E.thenN (WC.condT rfl (Sr (Wn 1 rfl (Nx (Rt (E.thenR (E.blkR (E.thenR (E.thenR (E.blkR (E.thenR ?_))))))))))))))))))
   refine E.retG1 rfl rfl ?_
   exact⟨rB (dF (fun hr=>by have hr:=hr.2 k (by omega);first|exact absurd hr.1 (by assumption)|exact way_fail hz hd (by assumption) hr|(have:=hr.2.1;omega))).symm,i⟩
  refine Cn rfl (dF Z) (WC.exit (E.thenX (E.thenX (E.blkH (E.thenN (Sr (Wn 1 rfl (Nx (Rt (E.retG1 rfl rfl ?_))))))))))
  exact⟨rB (dT ⟨by have:=inB_T (by assumption:inB (n:Int) 1 8=true);omega,fun j hj=>hz j (by omega)⟩).symm,C⟩
 refine Cy rfl (congrArg not ((Bool.eq_false_iff.2 V))) (Sr (Wn 1 rfl (Nx (Rt (E.thenR (E.retG1 rfl rfl ?_))))))
 exact⟨rB (dF (fun hr=>by have:=inB_F (Bool.eq_false_iff.2 (by assumption:¬inB (n:Int) 1 8=true));have:=hr.1;omega)).symm,l⟩
end Go.Proofs.YtocheaahlpiajaaGreatDoor

namespace Go.Proofs.YtocheaahlpiajaaGreatDoor
open Tryz
open Go Go.Sx Go.Hsp Go.Num Go.Osp Go.Gsp
set_option maxRecDepth 20000
theorem cost_ok (a x:Int){A:Option Addr}{n c:Nat}{xs:List Gsp.Edge}(w:World)(hV:Vec w edgeV 9 A n xs)(hn:n<=1000000):Calls prog 38 #[.slice A n c,.int .i64 (a),.int .i64 (x)] w fun r w'=>∃A1 c1 A2 c2,r= .returned (.tuple #[.slice A1 (costG xs a x).1.length c1,.slice A2 (costG xs a x).2.1.length c2,.int .i64 (costG xs a x).2.2])/\OVec w' w.heap.size 3 iv 1 A1 (costG xs a x).1.length c1 (costG xs a x).1/\OVec w' w.heap.size 3 iv 1 A2 (costG xs a x).2.1.length c2 (costG xs a x).2.1/\Le w w':=by
 have hl:=hV.1
 refine enter func38 rfl rfl ?_
 have Z:=Le.refl w
 refine Sr (Wn 3 rfl (Nx (Sq (Sr (Wn 1 rfl (W.cl go101 rfl rfl (gway_ok w (hV.le Z) (by omega)) ?_))))))
 rintro _ aw ⟨rfl,ax⟩
 have L1:=Z.trans ax
 refine Wn 1 rfl (Nx ?_)
 by_cases c0:(wayG xs)=true
 ·refine Cn rfl (congrArg not (c0)) (Sn (Sq (Sr (Wn 1 rfl (W.cl go102 rfl rfl (gin_ok a 1 1125899906842624 aw) ?_)))))
  rintro _ ay ⟨rfl,az⟩
  have L2:=L1.trans az
  refine Wn 1 rfl ?_
  by_cases aa:(inB a 1 1125899906842624)=true
  ·refine Wa (.dec (.move rfl) (congrArg not (aa))) rfl (Wn 1 rfl (W.efg rfl rfl rfl (rfl) rfl rfl (Ef.call go102 rfl rfl (gin_ok x 1 1048576 ay) ?_)))
   rintro _ e ⟨rfl,aA⟩
   refine⟨_,rfl,?_⟩
   have z:=L2.trans aA
   refine Wn 2 rfl (Nx ?_)
   by_cases c1:(inB x 1 1048576)=true
   ·refine Cn rfl (congrArg not (c1)) ?_
    have hwl:=wayG_len (by assumption:wayG xs=true)
    have aV:=inB_T (by assumption:inB a 1 1125899906842624=true)
    have aW:=inB_T (by assumption:inB x 1 1048576=true)
    refine Sn (WC.cut (ι:=Nat×Nat) (fun⟨k,s⟩=>[(0,.slice A n c),(1,.int .i64 (a)),(2,.int .i64 (x)),(9,.slice (some ⟨k,0,none⟩) n n),(10,.slice (some ⟨s,0,none⟩) n n)]) (fun⟨k,s⟩ t=>Le w t/\e.heap.size<=t.heap.size/\OVec t e.heap.size 3 iv 1 (some ⟨k,0,none⟩) n n (List.replicate n 0)/\OVec t e.heap.size 3 iv 1 (some ⟨s,0,none⟩) n n (List.replicate n 0)/\Apart (some ⟨k,0,none⟩) n (some ⟨s,0,none⟩) n) ?_ ?_)
    ·refine WC.drawT (fun o=>(app o [0,1,3,4] (.br (app o [2,6,5,7] .nil) (app o [5,2,6,7] .nil)))) mixed (by kernel_rfl) fun w5 u=>?_
     have L4:=z.trans u
     refine GT.app (Gn 1 rfl (Gd rfl (.len underlying32 rfl) (Gn 1 rfl (Gd rfl (.len underlying32 rfl) (G.nil ?_)))))
     refine GT.br ?_ ?_
     ·refine GT.last (G.ef rfl rfl rfl rfl rfl (Ef.vmake 0 n underlying23 el3 iv_row rfl rfl (rfl) rfl (rfl) (by omega) (by unfold maxLen;omega) ?_))
      intro aB aX aY ab K
      refine⟨fun _=>K,?_⟩
      refine Gn 1 rfl (G.ef rfl rfl rfl rfl rfl (Ef.vmake 0 n underlying23 el3 iv_row rfl rfl (rfl) rfl (rfl) (by omega) (by unfold maxLen;omega) ?_))
      intro aC aZ a0 ac L
      refine⟨fun _=>L,?_⟩
      refine Gn 1 rfl (G.nil (E.meet (aB,aC) (.of rfl) ?_))
      exact⟨((L4.trans K).trans L),by have:=u.size;have:=K.size;have:=L.size;omega,((ab.le L).mono (by have:=u.size;omega)),(ac.mono (by have:=u.size;have:=K.size;omega)),(fun q T U=>by have:=(ab.row T).2;have:=(ac.row U).1;omega)⟩
     refine GT.last (G.ef rfl rfl rfl rfl rfl (Ef.vmake 0 n underlying23 el3 iv_row rfl rfl (rfl) rfl (rfl) (by omega) (by unfold maxLen;omega) ?_))
     intro aE a1 a2 ad N
     refine⟨fun _=>N,?_⟩
     refine G.ef rfl rfl rfl rfl rfl (Ef.vmake 0 n underlying23 el3 iv_row rfl rfl (rfl) rfl (rfl) (by omega) (by unfold maxLen;omega) ?_)
     intro aF a3 a4 ae O
     refine⟨fun _=>O,?_⟩
     refine Gn 2 rfl (G.nil (E.meet (aF,aE) (.of rfl) ?_))
     exact⟨((L4.trans N).trans O),by have:=u.size;have:=N.size;have:=O.size;omega,(ae.mono (by have:=u.size;have:=N.size;omega)),((ad.le O).mono (by have:=u.size;omega)),(Apart.symm (fun q T U=>by have:=(ad.row T).2;have:=(ae.row U).1;omega))⟩
    rintro⟨k,s⟩ t ⟨aG,af,ah,ai,V⟩
    have a5:e.heap.size<=t.heap.size:=by have:=af;omega
    have aj:e.heap.size<=t.heap.size:=by have:=af;omega
    refine Sq (Sr (Wn 1 rfl (Wr (.len underlying32 rfl) rfl (Wa (.sub rfl rfl (by omega)) rfl (Wn 1 rfl (Nx (WC.block ?_)))))))
    refine WC.loop (ι:=Nat×Int×Int×(Option (Int×Int))×(List (Int×Int))) (fun⟨j,am,ex,nx,l⟩=>[(0,.slice A n c),(1,.int .i64 (am)),(2,.int .i64 (ex)),(9,.slice (some ⟨k,0,none⟩) n n),(10,.slice (some ⟨s,0,none⟩) n n),(11,.int .i64 (((j:Nat):Int)-1))]) (fun⟨j,am,ex,nx,l⟩ y=>(j<=n)/\(l.length=n-j)/\(costF a x (xs.drop j)= .ok (nx,l))/\(0<j->nx=some (am,ex)/\0<=am/\am<=1125899906842624/\0<=ex/\ex<=2097152)/\Le w y/\t.heap.size<=y.heap.size/\OVec y e.heap.size 3 iv 1 (some ⟨k,0,none⟩) n n (List.replicate j 0++l.map Prod.fst)/\OVec y e.heap.size 3 iv 1 (some ⟨s,0,none⟩) n n (List.replicate j 0++l.map Prod.snd)) (fun⟨j,am,ex,nx,l⟩=>j) (n,a,x,some (a,x),[]) ?_ ?_ ?_
    ·exact .of rfl
    ·exact⟨Nat.le_refl _,by simp,by rw[List.drop_of_length_le (by omega)];rfl,fun _=>⟨rfl,by omega,by omega,by omega,by omega⟩,aG,Nat.le_refl _,(ah).cast rfl (by simp),(ai).cast rfl (by simp)⟩
    rintro⟨j,am,ex,nx,l⟩ y ⟨hj,hll,hF,hnx,P,ak,Q,R⟩
    have a6:e.heap.size<=y.heap.size:=Nat.le_trans aj (by omega)
    have a7:e.heap.size<=y.heap.size:=Nat.le_trans aj (by omega)
    refine Sq (Sr (Wn 2 rfl (Nx ?_)))
    by_cases c2:0<=(((j:Nat):Int)-1)
    ·refine Cy rfl (dT c2) ?_
     obtain⟨rfl,a8,a9,ba,bb⟩:=hnx (by omega)
     have hok:=edgeOk_T (wayG_at (by assumption:wayG xs=true) (i:=j-1) (by omega)).1
     have hpk:=polOk_T hok.2.2.2.2.2
     have hpI:=polI_ok hok.2.2.2.2.2
     refine Sn (Sq (WC.block (Sr (Wn 2 rfl (Wa (.idxS ((j-1)) underlying32 sz81 rfl rfl (hV.isSome edgeV_row (by omega)) (by omega) (by omega)) rfl (Wr (.vload ag81 rfl (hV.le P) edgeV_row (getS xs noEdge (by omega))) rfl (W.ef rfl rfl rfl (Ef.allocA z81 fun al aH aI (aJ:Blk aH al 81 (edgeV noEdge).toArray) H=>(W.ef0 rfl rfl ?_)))))))))
     refine Ef.storeAll sz81 (by rfl) rfl rfl aJ (by simp only[List.size_toArray,edgeV_row.len]) (edgeV_row.one (xs.getD (j-1) noEdge)) ?_
     intro an C I
     have C:Blk an al 81 (edgeV (xs.getD (j-1) noEdge)).toArray:=C
     refine Nx (Sq (WC.block (Sr (Wn 1 rfl (Wa (.field0 fa81_4 rfl) rfl (Wa (.field2 fa79_3 rfl) rfl (Wr (.loadB (v:= .int .i64 ((xs.getD (j-1) noEdge).pol.l)) na3 rfl C rfl) rfl (Wa (.field0 fa81_4 rfl) rfl (Wa (.field2 fa79_4 rfl) rfl ?_)))))))))
     refine Wr (.loadB (v:= .int .i64 ((xs.getD (j-1) noEdge).pol.m)) na3 rfl C rfl) rfl (Wa (.field0 fa81_3 rfl) rfl (Wr (.loadB (v:= .int .i64 ((xs.getD (j-1) noEdge).r)) na3 rfl C rfl) rfl (Wr (.min2 rfl rfl) rfl (W.cl go102 rfl rfl (gin_ok am ((xs.getD (j-1) noEdge).pol.l) (min ((xs.getD (j-1) noEdge).pol.m) ((xs.getD (j-1) noEdge).r)) an) ?_))))
     rintro _ bc ⟨rfl,D⟩
     have X:=((P.trans H).tb I P aI).trans D
     refine Wn 2 rfl (Nx ?_)
     by_cases c3:(inB am ((xs.getD (j-1) noEdge).pol.l) (min ((xs.getD (j-1) noEdge).pol.m) ((xs.getD (j-1) noEdge).r)))=true
     ·refine Cn rfl (congrArg not (c3)) (Sr (Wn 3 rfl (Nx ?_)))
      by_cases c4:1048576<ex
      ·refine Cy rfl (dT c4) (Sr (Wn 3 rfl (Nx (Rt (E.blkR (E.thenR (E.blkR (E.thenR (E.thenR (E.blkR (E.thenR (E.retG3 rfl rfl rfl rfl ?_))))))))))))
       have hc:costG xs a x=([],[],16):=costG_er (by assumption) (by assumption) (by assumption) (costF_late (by omega) (by omega) hF (by assumption) (by omega))
       exact⟨none,0,none,0,by rw[hc];rfl,by rw[hc];exact OVec.nil _ _ _ _ _ _,by rw[hc];exact OVec.nil _ _ _ _ _ _,X⟩
      refine Cn rfl (dF c4) (WC.skip (E.blkN (E.thenN (Sr (Wn 6 rfl (Wa (.idxS ((j-1)) underlying23 sz3 rfl rfl (ah.vec.isSome iv_row (by omega)) (by omega) (by omega)) rfl ?_))))))
      have ao:=(((Q.le H).cb I (Q.rn (by omega))).le D)
      refine W.ef0 rfl rfl (Ef.vset (j:=(j-1)) (o:=0) am sz3 rfl (by omega) rfl ao iv_row (getS (List.replicate j 0++l.map Prod.fst) 0 (by simp;omega)) (by decide) rfl rfl ?_)
      intro bd aK J
      have ap:=aK.cast (m':=n) (ys:=(List.replicate (j-1) 0++am::l.map Prod.fst)) (rfl) (rep_set _ _ _ (by omega))
      refine Wa (.idxS ((j-1)) underlying23 sz3 rfl rfl (ai.vec.isSome iv_row (by omega)) (by omega) (by omega)) rfl ?_
      have aq:=((((R.le H).cb I (R.rn (by omega))).le D).ch J (V))
      refine W.ef0 rfl rfl (Ef.vset (j:=(j-1)) (o:=0) ex sz3 rfl (by omega) rfl aq iv_row (getS (List.replicate j 0++l.map Prod.snd) 0 (by simp;omega)) (by decide) rfl rfl ?_)
      intro aL aM F
      have ar:=aM.cast (m':=n) (ys:=(List.replicate (j-1) 0++ex::l.map Prod.snd)) (rfl) (rep_set _ _ _ (by omega))
      refine Nx (Sr (Wa (.field0 fa81_4 rfl) rfl ?_))
      have Y:=(((C.le D).ch J (Q.rn (by omega))).ch F (R.rn (by omega)))
      refine Wr (.bpart (polV ((xs.getD (j-1) noEdge).pol)) ag79 rfl (by decide) rfl Y rfl) rfl (Wn 1 rfl (W.cl go103 rfl rfl (hfee_ok ((xs.getD (j-1) noEdge).pol) am hpI aL) ?_))
      rintro _ aO ⟨rfl,f⟩
      refine Wn 5 rfl (Nx (Sr (Wn 2 rfl (W.cl go104 rfl rfl (nadd_ok am ((feeG ((xs.getD (j-1) noEdge).pol) am).1) aO) ?_))))
      rintro _ be ⟨rfl,h⟩
      have S:=(((X.then_ J (fun q hq=>Nat.le_trans z.size (ao.row hq).1)).then_ F (fun q hq=>Nat.le_trans z.size (aq.row hq).1)).trans f).trans h
      refine Wn 5 rfl (Nx (Sq (Sr (Wn 2 rfl ?_))))
      by_cases au:0<(((j:Nat):Int)-1)
      ·refine Dt au rfl rfl (Wn 2 rfl ?_)
       by_cases av:((feeG ((xs.getD (j-1) noEdge).pol) am).2)=true
       ·refine Wg (Any.rd (.dec (.move rfl) (congrArg not (av))) _) rfl (Wn 2 rfl (Wg (Any.rd (.pickF rfl rfl rfl) _) rfl (Wn 1 rfl (Nx ?_))))
        by_cases c5:((addC am ((feeG ((xs.getD (j-1) noEdge).pol) am).1)).2)=true
        ·refine Cn rfl (congrArg not (c5)) (Sn (WC.draw [0,1,2,3,4,5,6,7] mixed (by kernel_rfl) fun aP b=>(Gn 2 rfl (Ga rfl (.field0 fa81_4 rfl) (Ga rfl (.field2 fa79_2 rfl) ?_)))))
         refine Gd rfl (.loadB (v:= .int .i64 ((xs.getD (j-1) noEdge).pol.d)) na3 rfl (Y.le (f.trans (h.trans b))) rfl) (Ga rfl (.add rfl rfl (by omega)) (Gn 2 rfl (G.nil (E.blkN (E.thenN (WC.region (Wn 1 rfl (Wa (.sub rfl rfl (by omega)) rfl (Wn 1 rfl (W.nil ?_))))))))))
         have aQ:=((ap.ch F ((Apart.symm V))).le (f.trans (h.trans b)))
         have aR:=(ar.le (f.trans (h.trans b)))
         refine E.again (j-1,(addC am (feeG (xs.getD (j-1) noEdge).pol am).1).1,ex+(xs.getD (j-1) noEdge).pol.d,nextC (xs.getD (j-1) noEdge) am ex,(am,ex)::l) (.cons rfl (.cons rfl (.cons rfl (.cons rfl (.cons rfl (.cons' rfl (int_eq (by omega)) (.nil _))))))) ?_ ?_
         ·exact⟨by omega,by simp;omega,costF_step (by omega) (by omega) hF (by assumption) (by omega),fun h0=>by first|(exfalso;omega)|(have hv:=addC_val (by assumption:(addC am (feeG (xs.getD (j-1) noEdge).pol am).1).2=true);rw[hv.1];exact⟨by rw[nextC_some (by assumption) (by assumption),hv.1],by omega,by omega,by omega,by omega⟩),(S.trans b),by have:=ak;have:=H.size;have:=I.size;have:=D.size;have:=J.size;have:=F.size;have:=f.size;have:=h.size;have:=b.size;omega,aQ,aR⟩
         first|omega|(simp only[];omega)
        refine Cy rfl (congrArg not ((Bool.eq_false_iff.2 c5))) (Sr (Wn 3 rfl (Nx (Rt (E.thenR (E.blkR (E.thenR (E.thenR (E.blkR (E.thenR (E.retG3 rfl rfl rfl rfl ?_)))))))))))
        have hc:costG xs a x=([],[],6):=costG_er (by assumption) (by assumption) (by assumption) (by first|exact costF_six (by omega) (by omega) hF (by assumption)|exact costF_none (j:=j-1) (by omega) (by omega) (by rw[costF_step (by omega) (by omega) hF (by assumption) (by omega),nextC_none (by first|exact .inl (by assumption)|exact .inr (by assumption))]))
        exact⟨none,0,none,0,by rw[hc];rfl,by rw[hc];exact OVec.nil _ _ _ _ _ _,by rw[hc];exact OVec.nil _ _ _ _ _ _,S⟩
       refine Wg (Any.rd (.dec (.move rfl) (congrArg not ((Bool.eq_false_iff.2 av)))) _) rfl (Wn 2 rfl (Wg (Any.rd (.pickT rfl rfl rfl) _) rfl (Wn 1 rfl (Nx (WC.condT rfl (Sr (Wn 3 rfl (Nx (Rt (E.thenR (E.blkR (E.thenR (E.thenR (E.blkR (E.thenR (E.retG3 rfl rfl rfl rfl ?_))))))))))))))))
       have hc:costG xs a x=([],[],6):=costG_er (by assumption) (by assumption) (by assumption) (by first|exact costF_six (by omega) (by omega) hF (by assumption)|exact costF_none (j:=j-1) (by omega) (by omega) (by rw[costF_step (by omega) (by omega) hF (by assumption) (by omega),nextC_none (by first|exact .inl (by assumption)|exact .inr (by assumption))]))
       exact⟨none,0,none,0,by rw[hc];rfl,by rw[hc];exact OVec.nil _ _ _ _ _ _,by rw[hc];exact OVec.nil _ _ _ _ _ _,S⟩
      refine Df au rfl rfl (Wn 3 rfl (W.skipu rfl rfl rfl rfl rfl (W.skipu rfl rfl rfl rfl rfl (Wn 2 rfl (Nx (WC.condF rfl (Sn (WC.draw [0,1,2,3,4,5,6,7] mixed (by kernel_rfl) fun aP b=>(Gn 2 rfl ?_)))))))))
      refine Ga rfl (.field0 fa81_4 rfl) (Ga rfl (.field2 fa79_2 rfl) (Gd rfl (.loadB (v:= .int .i64 ((xs.getD (j-1) noEdge).pol.d)) na3 rfl (Y.le (f.trans (h.trans b))) rfl) (Ga rfl (.add rfl rfl (by omega)) (Gn 2 rfl (G.nil (E.blkN (E.thenN (WC.region (Wn 1 rfl (Wa (.sub rfl rfl (by omega)) rfl ?_))))))))))
      refine Wn 1 rfl (W.nil ?_)
      have aS:=((ap.ch F ((Apart.symm V))).le (f.trans (h.trans b)))
      have aT:=(ar.le (f.trans (h.trans b)))
      refine E.again (j-1,(addC am (feeG (xs.getD (j-1) noEdge).pol am).1).1,ex+(xs.getD (j-1) noEdge).pol.d,nextC (xs.getD (j-1) noEdge) am ex,(am,ex)::l) (.cons rfl (.cons rfl (.cons rfl (.cons rfl (.cons rfl (.cons' rfl (int_eq (by omega)) (.nil _))))))) ?_ ?_
      ·exact⟨by omega,by simp;omega,costF_step (by omega) (by omega) hF (by assumption) (by omega),fun h0=>by first|(exfalso;omega)|(have hv:=addC_val (by assumption:(addC am (feeG (xs.getD (j-1) noEdge).pol am).1).2=true);rw[hv.1];exact⟨by rw[nextC_some (by assumption) (by assumption),hv.1],by omega,by omega,by omega,by omega⟩),(S.trans b),by have:=ak;have:=H.size;have:=I.size;have:=D.size;have:=J.size;have:=F.size;have:=f.size;have:=h.size;have:=b.size;omega,aS,aT⟩
      first|omega|(simp only[];omega)
     refine Cy rfl (congrArg not ((Bool.eq_false_iff.2 c3))) (Sr (Wn 3 rfl (Nx (Rt (E.blkR (E.thenR (E.blkR (E.thenR (E.thenR (E.blkR (E.thenR (E.retG3 rfl rfl rfl rfl ?_))))))))))))
     have hc:costG xs a x=([],[],6):=costG_er (by assumption) (by assumption) (by assumption) (by first|exact costF_six (by omega) (by omega) hF (by assumption)|exact costF_none (j:=j-1) (by omega) (by omega) (by rw[costF_step (by omega) (by omega) hF (by assumption) (by omega),nextC_none (by first|exact .inl (by assumption)|exact .inr (by assumption))]))
     exact⟨none,0,none,0,by rw[hc];rfl,by rw[hc];exact OVec.nil _ _ _ _ _ _,by rw[hc];exact OVec.nil _ _ _ _ _ _,X⟩
    refine Cn rfl (dF c2) ?_
    have aU:j=0:=by omega
    refine WC.exit (E.thenX (E.thenX (E.blkH (E.thenN (Sr (Wn 5 rfl (Nx (Rt (E.retG3 rfl rfl rfl rfl ?_)))))))))
    have hc:=costG_ok (by assumption) (by assumption) (by assumption) (show costF a x xs= .ok (nx,l) by rw[show j=0 by omega]at hF;exact hF)
    subst aU
    exact⟨some ⟨k,0,none⟩,n,some ⟨s,0,none⟩,n,by rw[hc];simp[show l.length=n by omega],by rw[hc];exact((Q.mono z.size)).cast (by simp;omega) (by simp),by rw[hc];exact((R.mono z.size)).cast (by simp;omega) (by simp),P⟩
   refine Cy rfl (congrArg not ((Bool.eq_false_iff.2 c1))) (Sr (Wn 3 rfl (Nx (Rt (E.thenR (E.retG3 rfl rfl rfl rfl ?_))))))
   have hc:costG xs a x=([],[],1):=costG_arg (by assumption) (by first|exact .inl (by assumption)|exact .inr (by assumption))
   exact⟨none,0,none,0,by rw[hc];rfl,by rw[hc];exact OVec.nil _ _ _ _ _ _,by rw[hc];exact OVec.nil _ _ _ _ _ _,z⟩
  refine Wa (.dec (.move rfl) (congrArg not ((Bool.eq_false_iff.2 aa)))) rfl (Wn 4 rfl (Nx (WC.condT rfl (Sr (Wn 3 rfl (Nx (Rt (E.thenR (E.retG3 rfl rfl rfl rfl ?_)))))))))
  have hc:costG xs a x=([],[],1):=costG_arg (by assumption) (by first|exact .inl (by assumption)|exact .inr (by assumption))
  exact⟨none,0,none,0,by rw[hc];rfl,by rw[hc];exact OVec.nil _ _ _ _ _ _,by rw[hc];exact OVec.nil _ _ _ _ _ _,L2⟩
 refine Cy rfl (congrArg not ((Bool.eq_false_iff.2 c0))) (Sr (Wn 3 rfl (Nx (Rt (E.thenR (E.retG3 rfl rfl rfl rfl ?_))))))
 have hc:costG xs a x=([],[],19):=costG_way (by assumption)
 exact⟨none,0,none,0,by rw[hc];rfl,by rw[hc];exact OVec.nil _ _ _ _ _ _,by rw[hc];exact OVec.nil _ _ _ _ _ _,L1⟩
end Go.Proofs.YtocheaahlpiajaaGreatDoor

