/- RouteSigned: for every input the law answers true and leaves its arguments as they were. -/
import Derived.Test.YtocheaahlpiajaaGreatDoorRouteSignedL
import Derived.Lib.Mul64
set_option linter.unusedVariables false
set_option linter.unusedSimpArgs false
namespace Go.Proofs.YtocheaahlpiajaaGreatDoor
open Tryz
open Go Go.Sx
set_option maxRecDepth 20000
theorem mul64_ok (x y:Nat)(hx:x<18446744073709551616)(hy:y<18446744073709551616)(w:World):Calls prog 302 #[.int .u64 ((x:Nat):Int),.int .u64 ((y:Nat):Int)] w fun e w'=>e= .returned (.tuple #[.int .u64 ((x*y/18446744073709551616:Nat):Int),.int .u64 ((x*y%18446744073709551616:Nat):Int)])/\Le w w':=by
 obtain⟨d,f,h,c⟩:=Go.Lib.mul64_hi x y hx hy
 have i:x*y/18446744073709551616<18446744073709551616:=by
  rw[Nat.div_lt_iff_lt_mul (by decide)]
  exact Nat.mul_lt_mul'' hx hy
 have ha:=Go.Lib.half_mul_le (a:=x/4294967296) (b:=y/4294967296) (by omega) (by omega)
 have hb:=Go.Lib.half_mul_le (a:=x/4294967296) (b:=y%4294967296) (by omega) (by omega)
 have hc:=Go.Lib.half_mul_le (a:=x%4294967296) (b:=y/4294967296) (by omega) (by omega)
 refine enter func302 rfl rfl (Sr (Wn 2 rfl (Nx (Sr (Wn 1 rfl (Wa (.andE (x) (4294967295) (x%4294967296) rfl rfl rfl rfl (by omega) (by omega) (mask32 _)) rfl (Wn 1 rfl (Nx (Sr (Wn 1 rfl (Wa (.shrE (x) (32) (x/4294967296) rfl rfl rfl rfl (by decide) (rfl)) rfl (Wn 1 rfl (Nx (Sr (Wn 1 rfl ?_)))))))))))))))
 refine Wa (.andE (y) (4294967295) (y%4294967296) rfl rfl rfl rfl (by omega) (by omega) (mask32 _)) rfl (Wn 1 rfl (Nx (Sr (Wn 1 rfl (Wa (.shrE (y) (32) (y/4294967296) rfl rfl rfl rfl (by decide) (rfl)) rfl (Wn 1 rfl (Nx (Sr (Wn 2 rfl (Wa (.mulN (x%4294967296) (y%4294967296) ((x%4294967296)*(y%4294967296)) rfl rfl rfl rfl (Nat.mod_eq_of_lt d)) rfl (Wn 1 rfl (Nx (Sr (Wn 2 rfl ?_))))))))))))))
 refine Wa (.mulN (x/4294967296) (y%4294967296) ((x/4294967296)*(y%4294967296)) rfl rfl rfl rfl (Nat.mod_eq_of_lt (by omega))) rfl (Wn 1 rfl (Wa (.shrE ((x%4294967296)*(y%4294967296)) (32) ((x%4294967296)*(y%4294967296)/4294967296) rfl rfl rfl rfl (by decide) (rfl)) rfl (Wa (.addN ((x/4294967296)*(y%4294967296)) ((x%4294967296)*(y%4294967296)/4294967296) ((x/4294967296)*(y%4294967296)+(x%4294967296)*(y%4294967296)/4294967296) rfl rfl rfl rfl (Nat.mod_eq_of_lt f)) rfl (Wn 1 rfl (Nx (Sr (Wn 1 rfl ?_)))))))
 refine Wa (.andE ((x/4294967296)*(y%4294967296)+(x%4294967296)*(y%4294967296)/4294967296) (4294967295) (((x/4294967296)*(y%4294967296)+(x%4294967296)*(y%4294967296)/4294967296)%4294967296) rfl rfl rfl rfl (by omega) (by omega) (mask32 _)) rfl (Wn 1 rfl (Nx (Sr (Wn 1 rfl (Wa (.shrE ((x/4294967296)*(y%4294967296)+(x%4294967296)*(y%4294967296)/4294967296) (32) (((x/4294967296)*(y%4294967296)+(x%4294967296)*(y%4294967296)/4294967296)/4294967296) rfl rfl rfl rfl (by decide) (rfl)) rfl (Wn 1 rfl (Nx (Sr (Wn 3 rfl ?_)))))))))
 refine Wa (.mulN (x%4294967296) (y/4294967296) ((x%4294967296)*(y/4294967296)) rfl rfl rfl rfl (Nat.mod_eq_of_lt (by omega))) rfl (Wa (.addN (((x/4294967296)*(y%4294967296)+(x%4294967296)*(y%4294967296)/4294967296)%4294967296) ((x%4294967296)*(y/4294967296)) (((x/4294967296)*(y%4294967296)+(x%4294967296)*(y%4294967296)/4294967296)%4294967296+(x%4294967296)*(y/4294967296)) rfl rfl rfl rfl (Nat.mod_eq_of_lt h)) rfl (Wn 1 rfl (Nx (Sr (Wn 2 rfl (Wa (.mulN (x/4294967296) (y/4294967296) ((x/4294967296)*(y/4294967296)) rfl rfl rfl rfl (Nat.mod_eq_of_lt (by omega))) rfl (Wn 1 rfl ?_)))))))
 refine Wa (.addN ((x/4294967296)*(y/4294967296)) (((x/4294967296)*(y%4294967296)+(x%4294967296)*(y%4294967296)/4294967296)/4294967296) ((x/4294967296)*(y/4294967296)+((x/4294967296)*(y%4294967296)+(x%4294967296)*(y%4294967296)/4294967296)/4294967296) rfl rfl rfl rfl (Nat.mod_eq_of_lt (by omega))) rfl (Wn 1 rfl ?_)
 refine Wa (.shrE (((x/4294967296)*(y%4294967296)+(x%4294967296)*(y%4294967296)/4294967296)%4294967296+(x%4294967296)*(y/4294967296)) (32) ((((x/4294967296)*(y%4294967296)+(x%4294967296)*(y%4294967296)/4294967296)%4294967296+(x%4294967296)*(y/4294967296))/4294967296) rfl rfl rfl rfl (by decide) (rfl)) rfl ?_
 refine Wa (.addN ((x/4294967296)*(y/4294967296)+((x/4294967296)*(y%4294967296)+(x%4294967296)*(y%4294967296)/4294967296)/4294967296) ((((x/4294967296)*(y%4294967296)+(x%4294967296)*(y%4294967296)/4294967296)%4294967296+(x%4294967296)*(y/4294967296))/4294967296) (x*y/18446744073709551616) rfl rfl rfl rfl ((Nat.mod_eq_of_lt (by rw[c];exact i)).trans c)) rfl ?_
 refine Wn 1 rfl (Nx (Sr (Wn 2 rfl (Wa (.mulN (x) (y) (x*y%18446744073709551616) rfl rfl rfl rfl (rfl)) rfl (Wn 1 rfl (Nx (Rt (E.ret2 rfl rfl rfl ?_))))))))
 exact⟨rfl,(Le.refl w)⟩

def tab8:ByteArray:=⟨[0,1,2,2,3,3,3,3,4,4,4,4,4,4,4,4,5,5,5,5,5,5,5,5,5,5,5,5,5,5,5,5,6,6,6,6,6,6,6,6,6,6,6,6,6,6,6,6,6,6,6,6,6,6,6,6,6,6,6,6,6,6,6,6,7,7,7,7,7,7,7,7,7,7,7,7,7,7,7,7,7,7,7,7,7,7,7,7,7,7,7,7,7,7,7,7,7,7,7,7,7,7,7,7,7,7,7,7,7,7,7,7,7,7,7,7,7,7,7,7,7,7,7,7,7,7,7,7,8,8,8,8,8,8,8,8,8,8,8,8,8,8,8,8,8,8,8,8,8,8,8,8,8,8,8,8,8,8,8,8,8,8,8,8,8,8,8,8,8,8,8,8,8,8,8,8,8,8,8,8,8,8,8,8,8,8,8,8,8,8,8,8,8,8,8,8,8,8,8,8,8,8,8,8,8,8,8,8,8,8,8,8,8,8,8,8,8,8,8,8,8,8,8,8,8,8,8,8,8,8,8,8,8,8,8,8,8,8,8,8,8,8,8,8,8,8,8,8,8,8,8,8,8,8,8,8].toArray⟩

theorem len8:∀m,16<=m->m<64->tab8[m]? =some (if m<32 then 5 else 6):=by
  have h:∀m:Fin 64,16<=m.val->tab8[m.val]? =some (if m.val<32 then 5 else 6):=by decide+kernel
  exact fun m b c=>h ⟨m,c⟩ b

theorem len64_ok (y:Nat)(h1:1152921504606846976<=y)(h2:y<4611686018427387904)(w:World):Calls prog 326 #[.int .u64 ((y:Nat):Int)] w fun e w'=>e= .returned (.int .i64 (if y<2305843009213693952 then 61 else 62))/\Le w w':=by
 refine enter func326 rfl rfl (Sr (Wn 1 rfl (Nx (Sq (Sr (Wn 2 rfl (Nx (WC.condB rfl (fun _=>?_) (fun h=>absurd h (by simp;omega))))))))))
 refine Sr (Wn 1 rfl (Wa (.shrE (y) (32) (y/4294967296) rfl rfl rfl rfl (by decide) (rfl)) rfl (Wn 1 rfl (Nx (WC.region (Wn 1 rfl (Nx (Sq (Sr (Wn 2 rfl (Nx (WC.condB rfl (fun _=>?_) (fun h=>absurd h (by simp;omega))))))))))))))
 refine Sr (Wn 1 rfl (Wa (.shrE (y/4294967296) (16) (y/281474976710656) rfl rfl rfl rfl (by decide) (by omega)) rfl (Wn 1 rfl (Nx (WC.region (Wn 1 rfl (Wa (.add rfl rfl (by omega)) rfl (Wn 1 rfl (Nx (Sq (Sr (Wn 2 rfl (Nx (WC.condB rfl (fun _=>?_) (fun h=>absurd h (by simp;omega))))))))))))))))
 refine Sr (Wn 1 rfl (Wa (.shrE (y/281474976710656) (8) (y/72057594037927936) rfl rfl rfl rfl (by decide) (by omega)) rfl (Wn 1 rfl (Nx (WC.region (Wn 1 rfl (Wa (.add rfl rfl (by omega)) rfl (Wn 1 rfl (Nx (Sr (Wn 2 rfl (Wr (.toU8 (y/72057594037927936) (isS underlying27) underlying5 rfl rfl) rfl ?_))))))))))))
 refine Wa (.idxStr (y/72057594037927936) (if y/72057594037927936<32 then 5 else 6) underlying9 rfl rfl (by rw[BitVec.toNat_ofNat,Nat.mod_eq_of_lt (by omega)]) (len8 (y/72057594037927936) (by omega) (by omega))) rfl ?_
 refine Wr (.idI (isS underlying5) underlying3 rfl (IntWalk.i64_in _ (by split<;>decide))) rfl ?_
 refine Wa (.add rfl rfl (by split<;>decide)) rfl ?_
 refine Wn 1 rfl (Nx (Rt (E.ret1 rfl rfl ?_)))
 exact⟨by congr 2;split<;>split<;>simp_all<;>omega,(Le.refl w)⟩

theorem lz64_ok (y:Nat)(h1:1152921504606846976<=y)(h2:y<4611686018427387904)(w:World):Calls prog 334 #[.int .u64 ((y:Nat):Int)] w fun e w'=>e= .returned (.int .i64 (if y<2305843009213693952 then 3 else 2))/\Le w w':=by
 refine enter func334 rfl rfl ?_
 have b:=Le.refl w
 refine Sr (Wn 1 rfl (Nx (Sr (Wn 1 rfl (W.cl go326 rfl rfl (len64_ok y h1 h2 w) ?_)))))
 rintro _ f ⟨rfl,c⟩
 have d:=b.trans c
 refine Wa (.sub rfl rfl (by split<;>omega)) rfl ?_
 refine Wn 1 rfl (Nx (Rt (E.ret1 rfl rfl ?_)))
 exact⟨by congr 2;split<;>rfl,d⟩

theorem div64_ok2 (h l y:Nat)(h1:2305843009213693952<=y)(h2:y<4611686018427387904)(hh:h<y)(hl:l<18446744073709551616)(w:World):Calls prog 301 #[.int .u64 ((h:Nat):Int),.int .u64 ((l:Nat):Int),.int .u64 ((y:Nat):Int)] w fun e w'=>∃qq:Int,e= .returned (.tuple #[.int .u64 qq,.int .u64 (((h*18446744073709551616+l)%y:Nat):Int)])/\Le w w':=by
 obtain⟨Y,hYd⟩:∃Y,Y=y*4:=⟨_,rfl⟩
 obtain⟨a,ha⟩:∃a,a=Y/4294967296:=⟨_,rfl⟩
 obtain⟨b,z⟩:∃b,b=Y%4294967296:=⟨_,rfl⟩
 obtain⟨U,hUd⟩:∃U,U=h*4+l/4611686018427387904:=⟨_,rfl⟩
 obtain⟨v,hv⟩:∃v,v=l*4%18446744073709551616:=⟨_,rfl⟩
 obtain⟨f,A⟩:∃f,f=v/4294967296:=⟨_,rfl⟩
 obtain⟨c,s⟩:∃c,c=v%4294967296:=⟨_,rfl⟩
 have hY:Y=a*4294967296+b:=by omega
 have hYlo:9223372036854775808<=Y:=by omega
 have hYhi:Y<18446744073709551616:=by omega
 have Q:2147483648<=a:=by omega
 have S:a<4294967296:=by omega
 have m:b<4294967296:=by omega
 have T:v<18446744073709551616:=by omega
 have V:f<4294967296:=by omega
 have X:c<4294967296:=by omega
 have hU:U<Y:=by omega
 obtain⟨R,hR⟩:∃R,R=(U*4294967296+f)%Y:=⟨_,rfl⟩
 obtain⟨d,j⟩:∃d,d=(U*4294967296+f)/Y:=⟨_,rfl⟩
 obtain⟨i,k⟩:∃i,i=(R*4294967296+c)/Y:=⟨_,rfl⟩
 have hRY:R<Y:=by rw[hR];exact Nat.mod_lt _ (by omega)
 have hfin:(R*4294967296+c)%Y/2^2=(h*18446744073709551616+l)%y:=div_fin2 h l y Y U v f c R hYd hUd hv A s hR (by omega)
 have hlz:∀w,Calls prog 334 #[.int .u64 ((y:Nat):Int)] w (fun e w'=>e= .returned (.int .i64 2)/\Le w w'):=fun w=>by
  have:=lz64_ok y (by omega) (by omega) w
  rw[if_neg (by omega)]at this
  exact this
 refine enter func301 rfl rfl ?_
 have t:=Le.refl w
 refine Sr (Wn 2 rfl (Nx (Sq (Sr (Wn 2 rfl (Nx (WC.condB rfl (fun h=>absurd h (by simp;omega)) (fun _=>?_))))))))
 refine Sn (Sq (Sr (Wn 3 rfl (Nx (WC.condB rfl (fun h=>absurd h (by simp;omega)) (fun _=>?_))))))
 refine Sn (Sq (Sr (Wn 2 rfl (Nx (WC.cond rfl (fun C=>?_) (fun C=>?_))))))
 ·have D:h=0:=by omega
  subst D
  refine Sq (WC.draw [0,1,2,3,4,5,6,7] mixed (by kernel_rfl) fun Z F=>?_)
  have H:=t.trans F
  refine Gn 2 rfl (Ga rfl (.quoN (l) (y) (l/y) rfl rfl rfl rfl (by omega) (by omega) (rfl)) (Gn 2 rfl (Ga rfl (.remN (l) (y) (l%y) rfl rfl rfl rfl (by omega) (rfl)) (Gn 2 rfl (G.nil (E.thenN (Rt (E.thenR (E.ret2 rfl rfl rfl ?_)))))))))
  exact⟨_,by rw[Nat.zero_mul,Nat.zero_add],H⟩
 refine Sn (Sr (Wn 1 rfl (W.cl go334 rfl rfl (hlz w) ?_)))
 rintro _ aa ⟨rfl,I⟩
 have J:=t.trans I
 refine Wr (.idI (isS underlying3) underlying287 rfl (IntWalk.u64_in _ (by decide))) rfl (Wn 1 rfl (Nx (Sr (Wn 2 rfl (Wa (.shlN (y) (2) (Y) rfl rfl rfl rfl (by decide) (by omega)) rfl (Wn 1 rfl (Nx (Sr (Wn 1 rfl (Wa (.shrE (Y) (32) (a) rfl rfl rfl rfl (by decide) (by omega)) rfl (Wn 1 rfl (Nx (Sr (Wn 1 rfl ?_))))))))))))))
 refine Wa (.andE (Y) (4294967295) (b) rfl rfl rfl rfl (by omega) (by omega) ((mask32 _).trans z.symm)) rfl (Wn 1 rfl (Nx (Sr (Wn 2 rfl (Wa (.shlN (h) (2) (h*4) rfl rfl rfl rfl (by decide) (by omega)) rfl (Wn 2 rfl (Wa (.subN (64) (2) (62) rfl rfl rfl rfl (by decide) (by decide)) rfl (Wa (.shrE (l) (62) (l/4611686018427387904) rfl rfl rfl rfl (by decide) (rfl)) rfl ?_))))))))
 refine Wa (.orE (h*4) (l/4611686018427387904) (U) rfl rfl rfl rfl (by omega) (by omega) (by rw[hUd,Nat.mul_comm h,show(4:Nat)=2^2 by decide];exact(Nat.two_pow_add_eq_or_of_lt (by omega) _).symm)) rfl ?_
 refine Wn 1 rfl (Nx (Sr (Wn 2 rfl (Wa (.shlN (l) (2) (v) rfl rfl rfl rfl (by decide) (hv.symm)) rfl (Wn 1 rfl (Nx (Sr (Wn 1 rfl (Wa (.shrE (v) (32) (f) rfl rfl rfl rfl (by decide) (by omega)) rfl (Wn 1 rfl (Nx (Sr (Wn 1 rfl (Wa (.andE (v) (4294967295) (c) rfl rfl rfl rfl (by omega) (by omega) ((mask32 _).trans s.symm)) rfl ?_))))))))))))))
 refine Wn 1 rfl (Nx (Sr (Wn 2 rfl (Wa (.quoN (U) (a) (U/a) rfl rfl rfl rfl (by omega) (by omega) (rfl)) rfl (Wn 1 rfl (Nx (Sr (Wn 3 rfl (Wa (.mulN (U/a) (a) (U/a*a) rfl rfl rfl rfl (Nat.mod_eq_of_lt (Nat.lt_of_le_of_lt (Nat.div_mul_le_self _ _) (by omega)))) rfl (Wa (.subN (U) (U/a*a) (U%a) rfl rfl rfl rfl (Nat.le_trans (Nat.div_mul_le_self _ _) (by omega)) (sub_div U a (by omega))) rfl (Wn 1 rfl (Nx ?_))))))))))))
 refine WC.cut (ι:=Unit) (fun()=>[(2,.int .u64 ((Y:Nat):Int)),(8,.int .u64 (2:Int)),(9,.int .u64 ((a:Nat):Int)),(10,.int .u64 ((b:Nat):Int)),(11,.int .u64 ((U:Nat):Int)),(13,.int .u64 ((f:Nat):Int)),(14,.int .u64 ((c:Nat):Int)),(15,.int .u64 ((d:Nat):Int))]) (fun() u=>Le w u) ?_ ?_
 ·refine WC.block (WC.loop (ι:=Nat×Nat) (fun⟨qh,rh⟩=>[(2,.int .u64 ((Y:Nat):Int)),(8,.int .u64 (2:Int)),(9,.int .u64 ((a:Nat):Int)),(10,.int .u64 ((b:Nat):Int)),(11,.int .u64 ((U:Nat):Int)),(13,.int .u64 ((f:Nat):Int)),(14,.int .u64 ((c:Nat):Int)),(15,.int .u64 ((qh:Nat):Int)),(16,.int .u64 ((rh:Nat):Int))]) (fun⟨qh,rh⟩ wl=>Le w wl/\qh*a+rh=U/\d<=qh/\rh<4294967296/\qh<=4294967297) (fun⟨qh,rh⟩=>qh) (U/a,U%a) ?_ ?_ ?_)
  ·exact .of rfl
  ·exact⟨J,by rw[Nat.mul_comm];exact Nat.div_add_mod _ _,by rw[j];exact dig_start hY (by omega) hU (by omega),Nat.lt_of_lt_of_le (Nat.mod_lt _ (by omega)) (by omega),dig_first hY (by omega) (by omega) hU⟩
  rintro⟨qh,rh⟩ wl ⟨Ll,hi,hq,hr,K⟩
  refine Sq (Sr (Wn 2 rfl ?_))
  by_cases hb:4294967296<=qh
  ·refine Wn 1 rfl (W.skip rfl rfl rfl (dT (by omega)) rfl rfl (W.skip rfl rfl rfl (dT (by omega)) rfl rfl (W.skip rfl rfl rfl (dT (by omega)) rfl rfl (W.skip rfl rfl rfl (dT (by omega)) rfl rfl (W.skip rfl rfl rfl (dT (by omega)) rfl rfl ?_)))))
   refine W.skip rfl rfl rfl (dT (by omega)) rfl rfl (W.skip rfl rfl rfl (dT (by omega)) rfl rfl (W.skip rfl rfl rfl (dT (by omega)) rfl rfl (Wa (.pickT rfl (dT (by omega)) rfl) rfl ?_)))
   have hgt:d<qh:=by rw[j];exact dig_gt hY hU (by omega) hi (by omega)
   have hd:qh*a=(qh-1)*a+a:=by rw[<-Nat.succ_mul];congr 1;omega
   have hinv:(qh-1)*a+(rh+a)=U:=by omega
   refine Nx (WC.condT rfl (Sn (WC.block (Sr (Wn 1 rfl (Wa (.subN (qh) (1) (qh-1) rfl rfl rfl rfl (by omega) (by omega)) rfl (Wn 1 rfl (Nx (Sr (Wn 2 rfl (Wa (.addN (rh) (a) (rh+a) rfl rfl rfl rfl (by omega)) rfl (Wn 1 rfl (Nx (Sr (Wn 2 rfl (Nx (WC.cond rfl (fun n=>?_) (fun n=>?_))))))))))))))))))
   ·have hqe:qh-1=d:=Nat.le_antisymm (by rw[j];exact dig_brk hY (by omega) m hinv (by omega) (by omega)) (by omega)
    refine WC.exit (E.blkX rfl (E.thenX (E.blkH (E.meet () (.cons rfl (.cons rfl (.cons rfl (.cons rfl (.cons rfl (.cons rfl (.cons rfl (.cons' rfl (int_eq (by rw[hqe])) (.nil _))))))))) ?_))))
    exact Ll
   refine WC.skip (E.blkN (E.again (qh-1,rh+a) (.of rfl) ?_ ?_))
   ·exact⟨Ll,hinv,by omega,by omega,by omega⟩
   first|omega|(simp only[];omega)
  refine Wn 1 rfl (W.rdg (Any.rd (.move rfl) _) rfl rfl rfl (dF (by omega)) rfl rfl (W.rdg (Any.rd (.move rfl) _) rfl rfl rfl (dF (by omega)) rfl rfl ?_))
  have hqb:qh*b<18446744073709551616:=Nat.lt_of_le_of_lt (Nat.mul_le_mul (show qh<=4294967295 by omega) (show b<=4294967295 by omega)) (by decide)
  refine W.rdg (Any.rd (.mulN (qh) (b) (qh*b) rfl rfl rfl rfl (Nat.mod_eq_of_lt hqb)) _) rfl rfl rfl (dF (by omega)) rfl rfl (W.rdg (Any.rd (.move rfl) _) rfl rfl rfl (dF (by omega)) rfl rfl (W.rdg (Any.rd (.mulN (4294967296) (rh) (4294967296*rh) rfl rfl rfl rfl (by omega)) _) rfl rfl rfl (dF (by omega)) rfl rfl (W.rdg (Any.rd (.move rfl) _) rfl rfl rfl (dF (by omega)) rfl rfl (W.rdg (Any.rd (.addN (4294967296*rh) (f) (4294967296*rh+f) rfl rfl rfl rfl (by omega)) _) rfl rfl rfl (dF (by omega)) rfl rfl (W.rdg (Any.rd (.gtr rfl rfl) _) rfl rfl rfl (dF (by omega)) rfl rfl ?_)))))
  refine Wa (.pickF rfl (dF (by omega)) rfl) rfl (Nx (WC.cond rfl (fun L=>?_) (fun L=>?_)))
  ·have hgt:d<qh:=by rw[j];exact dig_gt hY hU (by omega) hi (by omega)
   have hd:qh*a=(qh-1)*a+a:=by rw[<-Nat.succ_mul];congr 1;omega
   have hinv:(qh-1)*a+(rh+a)=U:=by omega
   refine Sn (WC.block (Sr (Wn 1 rfl (Wa (.subN (qh) (1) (qh-1) rfl rfl rfl rfl (by omega) (by omega)) rfl (Wn 1 rfl (Nx (Sr (Wn 2 rfl (Wa (.addN (rh) (a) (rh+a) rfl rfl rfl rfl (by omega)) rfl (Wn 1 rfl (Nx (Sr (Wn 2 rfl (Nx (WC.cond rfl (fun n=>?_) (fun n=>?_))))))))))))))))
   ·have hqe:qh-1=d:=Nat.le_antisymm (by rw[j];exact dig_brk hY (by omega) m hinv (by omega) (by omega)) (by omega)
    refine WC.exit (E.blkX rfl (E.thenX (E.blkH (E.meet () (.cons rfl (.cons rfl (.cons rfl (.cons rfl (.cons rfl (.cons rfl (.cons rfl (.cons' rfl (int_eq (by rw[hqe])) (.nil _))))))))) ?_))))
    exact Ll
   refine WC.skip (E.blkN (E.again (qh-1,rh+a) (.of rfl) ?_ ?_))
   ·exact⟨Ll,hinv,by omega,by omega,by omega⟩
   first|omega|(simp only[];omega)
  have hqe:qh=d:=Nat.le_antisymm (by rw[j];exact dig_le hY (by omega) hi (by omega)) hq
  refine WC.exit (E.thenX (E.thenX (E.blkH (E.meet () (.cons rfl (.cons rfl (.cons rfl (.cons rfl (.cons rfl (.cons rfl (.cons rfl (.cons' rfl (int_eq (by rw[hqe])) (.nil _))))))))) ?_))))
  exact Ll
 rintro⟨⟩ u N
 refine Sr (Wn 1 rfl (Wa (.mulN (U) (4294967296) (U*4294967296%18446744073709551616) rfl rfl rfl rfl (rfl)) rfl (Wn 1 rfl (Wa (.addN (U*4294967296%18446744073709551616) (f) ((U*4294967296+f)%18446744073709551616) rfl rfl rfl rfl (by rw[Nat.mod_add_mod])) rfl ?_))))
 refine Wn 2 rfl (Wa (.mulN (d) (Y) (d*Y%18446744073709551616) rfl rfl rfl rfl (rfl)) rfl (Wa (.subN ((U*4294967296+f)%18446744073709551616) (d*Y%18446744073709551616) (R) rfl rfl rfl rfl (Nat.le_of_lt (Nat.mod_lt _ (by decide))) ((dig_rest Y _ _ j (by omega) (by omega)).trans hR.symm)) rfl (Wn 1 rfl (Nx (Sr (Wn 2 rfl (Wa (.quoN (R) (a) (R/a) rfl rfl rfl rfl (by omega) (by omega) (rfl)) rfl (Wn 1 rfl (Nx (Sr (Wn 3 rfl ?_)))))))))))
 refine Wa (.mulN (R/a) (a) (R/a*a) rfl rfl rfl rfl (Nat.mod_eq_of_lt (Nat.lt_of_le_of_lt (Nat.div_mul_le_self _ _) (by omega)))) rfl (Wa (.subN (R) (R/a*a) (R%a) rfl rfl rfl rfl (Nat.le_trans (Nat.div_mul_le_self _ _) (by omega)) (sub_div R a (by omega))) rfl (Wn 1 rfl (Nx (WC.cut (ι:=Unit) (fun()=>[(2,.int .u64 ((Y:Nat):Int)),(8,.int .u64 (2:Int)),(9,.int .u64 ((a:Nat):Int)),(10,.int .u64 ((b:Nat):Int)),(14,.int .u64 ((c:Nat):Int)),(17,.int .u64 ((R:Nat):Int)),(15,.int .u64 ((d:Nat):Int)),(18,.int .u64 ((i:Nat):Int))]) (fun() x=>Le w x) ?_ ?_))))
 ·refine WC.block (WC.loop (ι:=Nat×Nat) (fun⟨qh,rh⟩=>[(2,.int .u64 ((Y:Nat):Int)),(8,.int .u64 (2:Int)),(9,.int .u64 ((a:Nat):Int)),(10,.int .u64 ((b:Nat):Int)),(14,.int .u64 ((c:Nat):Int)),(17,.int .u64 ((R:Nat):Int)),(15,.int .u64 ((d:Nat):Int)),(18,.int .u64 ((qh:Nat):Int)),(16,.int .u64 ((rh:Nat):Int))]) (fun⟨qh,rh⟩ wl=>Le w wl/\qh*a+rh=R/\i<=qh/\rh<4294967296/\qh<=4294967297) (fun⟨qh,rh⟩=>qh) (R/a,R%a) ?_ ?_ ?_)
  ·exact .of rfl
  ·exact⟨N,by rw[Nat.mul_comm];exact Nat.div_add_mod _ _,by rw[k];exact dig_start hY (by omega) hRY (by omega),Nat.lt_of_lt_of_le (Nat.mod_lt _ (by omega)) (by omega),dig_first hY (by omega) (by omega) hRY⟩
  rintro⟨qh,rh⟩ wl ⟨Ll,hi,hq,hr,K⟩
  refine Sq (Sr (Wn 2 rfl ?_))
  by_cases hb:4294967296<=qh
  ·refine Wn 1 rfl (W.skip rfl rfl rfl (dT (by omega)) rfl rfl (W.skip rfl rfl rfl (dT (by omega)) rfl rfl (W.skip rfl rfl rfl (dT (by omega)) rfl rfl (W.skip rfl rfl rfl (dT (by omega)) rfl rfl (W.skip rfl rfl rfl (dT (by omega)) rfl rfl ?_)))))
   refine W.skip rfl rfl rfl (dT (by omega)) rfl rfl (W.skip rfl rfl rfl (dT (by omega)) rfl rfl (W.skip rfl rfl rfl (dT (by omega)) rfl rfl (Wa (.pickT rfl (dT (by omega)) rfl) rfl ?_)))
   have hgt:i<qh:=by rw[k];exact dig_gt hY hRY (by omega) hi (by omega)
   have hd:qh*a=(qh-1)*a+a:=by rw[<-Nat.succ_mul];congr 1;omega
   have hinv:(qh-1)*a+(rh+a)=R:=by omega
   refine Nx (WC.condT rfl (Sn (WC.block (Sr (Wn 1 rfl (Wa (.subN (qh) (1) (qh-1) rfl rfl rfl rfl (by omega) (by omega)) rfl (Wn 1 rfl (Nx (Sr (Wn 2 rfl (Wa (.addN (rh) (a) (rh+a) rfl rfl rfl rfl (by omega)) rfl (Wn 1 rfl (Nx (Sr (Wn 2 rfl (Nx (WC.cond rfl (fun o=>?_) (fun o=>?_))))))))))))))))))
   ·have hqe:qh-1=i:=Nat.le_antisymm (by rw[k];exact dig_brk hY (by omega) m hinv (by omega) (by omega)) (by omega)
    refine WC.exit (E.blkX rfl (E.thenX (E.blkH (E.meet () (.cons rfl (.cons rfl (.cons rfl (.cons rfl (.cons rfl (.cons rfl (.cons rfl (.cons' rfl (int_eq (by rw[hqe])) (.nil _))))))))) ?_))))
    exact Ll
   refine WC.skip (E.blkN (E.again (qh-1,rh+a) (.of rfl) ?_ ?_))
   ·exact⟨Ll,hinv,by omega,by omega,by omega⟩
   first|omega|(simp only[];omega)
  refine Wn 1 rfl (W.rdg (Any.rd (.move rfl) _) rfl rfl rfl (dF (by omega)) rfl rfl (W.rdg (Any.rd (.move rfl) _) rfl rfl rfl (dF (by omega)) rfl rfl ?_))
  have hqb:qh*b<18446744073709551616:=Nat.lt_of_le_of_lt (Nat.mul_le_mul (show qh<=4294967295 by omega) (show b<=4294967295 by omega)) (by decide)
  refine W.rdg (Any.rd (.mulN (qh) (b) (qh*b) rfl rfl rfl rfl (Nat.mod_eq_of_lt hqb)) _) rfl rfl rfl (dF (by omega)) rfl rfl (W.rdg (Any.rd (.move rfl) _) rfl rfl rfl (dF (by omega)) rfl rfl (W.rdg (Any.rd (.mulN (4294967296) (rh) (4294967296*rh) rfl rfl rfl rfl (by omega)) _) rfl rfl rfl (dF (by omega)) rfl rfl (W.rdg (Any.rd (.move rfl) _) rfl rfl rfl (dF (by omega)) rfl rfl (W.rdg (Any.rd (.addN (4294967296*rh) (c) (4294967296*rh+c) rfl rfl rfl rfl (by omega)) _) rfl rfl rfl (dF (by omega)) rfl rfl (W.rdg (Any.rd (.gtr rfl rfl) _) rfl rfl rfl (dF (by omega)) rfl rfl ?_)))))
  refine Wa (.pickF rfl (dF (by omega)) rfl) rfl (Nx (WC.cond rfl (fun O=>?_) (fun O=>?_)))
  ·have hgt:i<qh:=by rw[k];exact dig_gt hY hRY (by omega) hi (by omega)
   have hd:qh*a=(qh-1)*a+a:=by rw[<-Nat.succ_mul];congr 1;omega
   have hinv:(qh-1)*a+(rh+a)=R:=by omega
   refine Sn (WC.block (Sr (Wn 1 rfl (Wa (.subN (qh) (1) (qh-1) rfl rfl rfl rfl (by omega) (by omega)) rfl (Wn 1 rfl (Nx (Sr (Wn 2 rfl (Wa (.addN (rh) (a) (rh+a) rfl rfl rfl rfl (by omega)) rfl (Wn 1 rfl (Nx (Sr (Wn 2 rfl (Nx (WC.cond rfl (fun o=>?_) (fun o=>?_))))))))))))))))
   ·have hqe:qh-1=i:=Nat.le_antisymm (by rw[k];exact dig_brk hY (by omega) m hinv (by omega) (by omega)) (by omega)
    refine WC.exit (E.blkX rfl (E.thenX (E.blkH (E.meet () (.cons rfl (.cons rfl (.cons rfl (.cons rfl (.cons rfl (.cons rfl (.cons rfl (.cons' rfl (int_eq (by rw[hqe])) (.nil _))))))))) ?_))))
    exact Ll
   refine WC.skip (E.blkN (E.again (qh-1,rh+a) (.of rfl) ?_ ?_))
   ·exact⟨Ll,hinv,by omega,by omega,by omega⟩
   first|omega|(simp only[];omega)
  have hqe:qh=i:=Nat.le_antisymm (by rw[k];exact dig_le hY (by omega) hi (by omega)) hq
  refine WC.exit (E.thenX (E.thenX (E.blkH (E.meet () (.cons rfl (.cons rfl (.cons rfl (.cons rfl (.cons rfl (.cons rfl (.cons rfl (.cons' rfl (int_eq (by rw[hqe])) (.nil _))))))))) ?_))))
  exact Ll
 rintro⟨⟩ x P
 refine Sr (Wn 1 rfl (Wa (.mulN (d) (4294967296) (d*4294967296%18446744073709551616) rfl rfl rfl rfl (rfl)) rfl (Wn 1 rfl (Wa (.addN (d*4294967296%18446744073709551616) (i) ((d*4294967296%18446744073709551616+i)%18446744073709551616) rfl rfl rfl rfl (rfl)) rfl (Wn 1 rfl (Wa (.mulN (R) (4294967296) (R*4294967296%18446744073709551616) rfl rfl rfl rfl (rfl)) rfl ?_))))))
 refine Wn 1 rfl (Wa (.addN (R*4294967296%18446744073709551616) (c) ((R*4294967296+c)%18446744073709551616) rfl rfl rfl rfl (by rw[Nat.mod_add_mod])) rfl ?_)
 refine Wn 2 rfl (Wa (.mulN (i) (Y) (i*Y%18446744073709551616) rfl rfl rfl rfl (rfl)) rfl (Wa (.subN ((R*4294967296+c)%18446744073709551616) (i*Y%18446744073709551616) ((R*4294967296+c)%Y) rfl rfl rfl rfl (Nat.le_of_lt (Nat.mod_lt _ (by decide))) (dig_rest Y _ _ k (by omega) (by omega))) rfl (Wn 1 rfl (Wa (.shrE ((R*4294967296+c)%Y) (2) ((h*18446744073709551616+l)%y) rfl rfl rfl rfl (by decide) (hfin)) rfl (Wn 2 rfl (Nx (Rt ?_)))))))
 refine E.ret2 rfl rfl rfl ?_
 exact⟨_,rfl,P⟩

theorem div64_ok3 (h l y:Nat)(h1:1152921504606846976<=y)(h2:y<2305843009213693952)(hh:h<y)(hl:l<18446744073709551616)(w:World):Calls prog 301 #[.int .u64 ((h:Nat):Int),.int .u64 ((l:Nat):Int),.int .u64 ((y:Nat):Int)] w fun e w'=>∃qq:Int,e= .returned (.tuple #[.int .u64 qq,.int .u64 (((h*18446744073709551616+l)%y:Nat):Int)])/\Le w w':=by
 obtain⟨Y,hYd⟩:∃Y,Y=y*8:=⟨_,rfl⟩
 obtain⟨a,ha⟩:∃a,a=Y/4294967296:=⟨_,rfl⟩
 obtain⟨b,z⟩:∃b,b=Y%4294967296:=⟨_,rfl⟩
 obtain⟨U,hUd⟩:∃U,U=h*8+l/2305843009213693952:=⟨_,rfl⟩
 obtain⟨v,hv⟩:∃v,v=l*8%18446744073709551616:=⟨_,rfl⟩
 obtain⟨f,A⟩:∃f,f=v/4294967296:=⟨_,rfl⟩
 obtain⟨c,s⟩:∃c,c=v%4294967296:=⟨_,rfl⟩
 have hY:Y=a*4294967296+b:=by omega
 have hYlo:9223372036854775808<=Y:=by omega
 have hYhi:Y<18446744073709551616:=by omega
 have Q:2147483648<=a:=by omega
 have S:a<4294967296:=by omega
 have m:b<4294967296:=by omega
 have T:v<18446744073709551616:=by omega
 have V:f<4294967296:=by omega
 have X:c<4294967296:=by omega
 have hU:U<Y:=by omega
 obtain⟨R,hR⟩:∃R,R=(U*4294967296+f)%Y:=⟨_,rfl⟩
 obtain⟨d,j⟩:∃d,d=(U*4294967296+f)/Y:=⟨_,rfl⟩
 obtain⟨i,k⟩:∃i,i=(R*4294967296+c)/Y:=⟨_,rfl⟩
 have hRY:R<Y:=by rw[hR];exact Nat.mod_lt _ (by omega)
 have hfin:(R*4294967296+c)%Y/2^3=(h*18446744073709551616+l)%y:=div_fin3 h l y Y U v f c R hYd hUd hv A s hR (by omega)
 have hlz:∀w,Calls prog 334 #[.int .u64 ((y:Nat):Int)] w (fun e w'=>e= .returned (.int .i64 3)/\Le w w'):=fun w=>by
  have:=lz64_ok y (by omega) (by omega) w
  rw[if_pos (by omega)]at this
  exact this
 refine enter func301 rfl rfl ?_
 have t:=Le.refl w
 refine Sr (Wn 2 rfl (Nx (Sq (Sr (Wn 2 rfl (Nx (WC.condB rfl (fun h=>absurd h (by simp;omega)) (fun _=>?_))))))))
 refine Sn (Sq (Sr (Wn 3 rfl (Nx (WC.condB rfl (fun h=>absurd h (by simp;omega)) (fun _=>?_))))))
 refine Sn (Sq (Sr (Wn 2 rfl (Nx (WC.cond rfl (fun C=>?_) (fun C=>?_))))))
 ·have D:h=0:=by omega
  subst D
  refine Sq (WC.draw [0,1,2,3,4,5,6,7] mixed (by kernel_rfl) fun Z F=>?_)
  have H:=t.trans F
  refine Gn 2 rfl (Ga rfl (.quoN (l) (y) (l/y) rfl rfl rfl rfl (by omega) (by omega) (rfl)) (Gn 2 rfl (Ga rfl (.remN (l) (y) (l%y) rfl rfl rfl rfl (by omega) (rfl)) (Gn 2 rfl (G.nil (E.thenN (Rt (E.thenR (E.ret2 rfl rfl rfl ?_)))))))))
  exact⟨_,by rw[Nat.zero_mul,Nat.zero_add],H⟩
 refine Sn (Sr (Wn 1 rfl (W.cl go334 rfl rfl (hlz w) ?_)))
 rintro _ aa ⟨rfl,I⟩
 have J:=t.trans I
 refine Wr (.idI (isS underlying3) underlying287 rfl (IntWalk.u64_in _ (by decide))) rfl (Wn 1 rfl (Nx (Sr (Wn 2 rfl (Wa (.shlN (y) (3) (Y) rfl rfl rfl rfl (by decide) (by omega)) rfl (Wn 1 rfl (Nx (Sr (Wn 1 rfl (Wa (.shrE (Y) (32) (a) rfl rfl rfl rfl (by decide) (by omega)) rfl (Wn 1 rfl (Nx (Sr (Wn 1 rfl ?_))))))))))))))
 refine Wa (.andE (Y) (4294967295) (b) rfl rfl rfl rfl (by omega) (by omega) ((mask32 _).trans z.symm)) rfl (Wn 1 rfl (Nx (Sr (Wn 2 rfl (Wa (.shlN (h) (3) (h*8) rfl rfl rfl rfl (by decide) (by omega)) rfl (Wn 2 rfl (Wa (.subN (64) (3) (61) rfl rfl rfl rfl (by decide) (by decide)) rfl (Wa (.shrE (l) (61) (l/2305843009213693952) rfl rfl rfl rfl (by decide) (rfl)) rfl ?_))))))))
 refine Wa (.orE (h*8) (l/2305843009213693952) (U) rfl rfl rfl rfl (by omega) (by omega) (by rw[hUd,Nat.mul_comm h,show(8:Nat)=2^3 by decide];exact(Nat.two_pow_add_eq_or_of_lt (by omega) _).symm)) rfl ?_
 refine Wn 1 rfl (Nx (Sr (Wn 2 rfl (Wa (.shlN (l) (3) (v) rfl rfl rfl rfl (by decide) (hv.symm)) rfl (Wn 1 rfl (Nx (Sr (Wn 1 rfl (Wa (.shrE (v) (32) (f) rfl rfl rfl rfl (by decide) (by omega)) rfl (Wn 1 rfl (Nx (Sr (Wn 1 rfl (Wa (.andE (v) (4294967295) (c) rfl rfl rfl rfl (by omega) (by omega) ((mask32 _).trans s.symm)) rfl ?_))))))))))))))
 refine Wn 1 rfl (Nx (Sr (Wn 2 rfl (Wa (.quoN (U) (a) (U/a) rfl rfl rfl rfl (by omega) (by omega) (rfl)) rfl (Wn 1 rfl (Nx (Sr (Wn 3 rfl (Wa (.mulN (U/a) (a) (U/a*a) rfl rfl rfl rfl (Nat.mod_eq_of_lt (Nat.lt_of_le_of_lt (Nat.div_mul_le_self _ _) (by omega)))) rfl (Wa (.subN (U) (U/a*a) (U%a) rfl rfl rfl rfl (Nat.le_trans (Nat.div_mul_le_self _ _) (by omega)) (sub_div U a (by omega))) rfl (Wn 1 rfl (Nx ?_))))))))))))
 refine WC.cut (ι:=Unit) (fun()=>[(2,.int .u64 ((Y:Nat):Int)),(8,.int .u64 (3:Int)),(9,.int .u64 ((a:Nat):Int)),(10,.int .u64 ((b:Nat):Int)),(11,.int .u64 ((U:Nat):Int)),(13,.int .u64 ((f:Nat):Int)),(14,.int .u64 ((c:Nat):Int)),(15,.int .u64 ((d:Nat):Int))]) (fun() u=>Le w u) ?_ ?_
 ·refine WC.block (WC.loop (ι:=Nat×Nat) (fun⟨qh,rh⟩=>[(2,.int .u64 ((Y:Nat):Int)),(8,.int .u64 (3:Int)),(9,.int .u64 ((a:Nat):Int)),(10,.int .u64 ((b:Nat):Int)),(11,.int .u64 ((U:Nat):Int)),(13,.int .u64 ((f:Nat):Int)),(14,.int .u64 ((c:Nat):Int)),(15,.int .u64 ((qh:Nat):Int)),(16,.int .u64 ((rh:Nat):Int))]) (fun⟨qh,rh⟩ wl=>Le w wl/\qh*a+rh=U/\d<=qh/\rh<4294967296/\qh<=4294967297) (fun⟨qh,rh⟩=>qh) (U/a,U%a) ?_ ?_ ?_)
  ·exact .of rfl
  ·exact⟨J,by rw[Nat.mul_comm];exact Nat.div_add_mod _ _,by rw[j];exact dig_start hY (by omega) hU (by omega),Nat.lt_of_lt_of_le (Nat.mod_lt _ (by omega)) (by omega),dig_first hY (by omega) (by omega) hU⟩
  rintro⟨qh,rh⟩ wl ⟨Ll,hi,hq,hr,K⟩
  refine Sq (Sr (Wn 2 rfl ?_))
  by_cases hb:4294967296<=qh
  ·refine Wn 1 rfl (W.skip rfl rfl rfl (dT (by omega)) rfl rfl (W.skip rfl rfl rfl (dT (by omega)) rfl rfl (W.skip rfl rfl rfl (dT (by omega)) rfl rfl (W.skip rfl rfl rfl (dT (by omega)) rfl rfl (W.skip rfl rfl rfl (dT (by omega)) rfl rfl ?_)))))
   refine W.skip rfl rfl rfl (dT (by omega)) rfl rfl (W.skip rfl rfl rfl (dT (by omega)) rfl rfl (W.skip rfl rfl rfl (dT (by omega)) rfl rfl (Wa (.pickT rfl (dT (by omega)) rfl) rfl ?_)))
   have hgt:d<qh:=by rw[j];exact dig_gt hY hU (by omega) hi (by omega)
   have hd:qh*a=(qh-1)*a+a:=by rw[<-Nat.succ_mul];congr 1;omega
   have hinv:(qh-1)*a+(rh+a)=U:=by omega
   refine Nx (WC.condT rfl (Sn (WC.block (Sr (Wn 1 rfl (Wa (.subN (qh) (1) (qh-1) rfl rfl rfl rfl (by omega) (by omega)) rfl (Wn 1 rfl (Nx (Sr (Wn 2 rfl (Wa (.addN (rh) (a) (rh+a) rfl rfl rfl rfl (by omega)) rfl (Wn 1 rfl (Nx (Sr (Wn 2 rfl (Nx (WC.cond rfl (fun n=>?_) (fun n=>?_))))))))))))))))))
   ·have hqe:qh-1=d:=Nat.le_antisymm (by rw[j];exact dig_brk hY (by omega) m hinv (by omega) (by omega)) (by omega)
    refine WC.exit (E.blkX rfl (E.thenX (E.blkH (E.meet () (.cons rfl (.cons rfl (.cons rfl (.cons rfl (.cons rfl (.cons rfl (.cons rfl (.cons' rfl (int_eq (by rw[hqe])) (.nil _))))))))) ?_))))
    exact Ll
   refine WC.skip (E.blkN (E.again (qh-1,rh+a) (.of rfl) ?_ ?_))
   ·exact⟨Ll,hinv,by omega,by omega,by omega⟩
   first|omega|(simp only[];omega)
  refine Wn 1 rfl (W.rdg (Any.rd (.move rfl) _) rfl rfl rfl (dF (by omega)) rfl rfl (W.rdg (Any.rd (.move rfl) _) rfl rfl rfl (dF (by omega)) rfl rfl ?_))
  have hqb:qh*b<18446744073709551616:=Nat.lt_of_le_of_lt (Nat.mul_le_mul (show qh<=4294967295 by omega) (show b<=4294967295 by omega)) (by decide)
  refine W.rdg (Any.rd (.mulN (qh) (b) (qh*b) rfl rfl rfl rfl (Nat.mod_eq_of_lt hqb)) _) rfl rfl rfl (dF (by omega)) rfl rfl (W.rdg (Any.rd (.move rfl) _) rfl rfl rfl (dF (by omega)) rfl rfl (W.rdg (Any.rd (.mulN (4294967296) (rh) (4294967296*rh) rfl rfl rfl rfl (by omega)) _) rfl rfl rfl (dF (by omega)) rfl rfl (W.rdg (Any.rd (.move rfl) _) rfl rfl rfl (dF (by omega)) rfl rfl (W.rdg (Any.rd (.addN (4294967296*rh) (f) (4294967296*rh+f) rfl rfl rfl rfl (by omega)) _) rfl rfl rfl (dF (by omega)) rfl rfl (W.rdg (Any.rd (.gtr rfl rfl) _) rfl rfl rfl (dF (by omega)) rfl rfl ?_)))))
  refine Wa (.pickF rfl (dF (by omega)) rfl) rfl (Nx (WC.cond rfl (fun L=>?_) (fun L=>?_)))
  ·have hgt:d<qh:=by rw[j];exact dig_gt hY hU (by omega) hi (by omega)
   have hd:qh*a=(qh-1)*a+a:=by rw[<-Nat.succ_mul];congr 1;omega
   have hinv:(qh-1)*a+(rh+a)=U:=by omega
   refine Sn (WC.block (Sr (Wn 1 rfl (Wa (.subN (qh) (1) (qh-1) rfl rfl rfl rfl (by omega) (by omega)) rfl (Wn 1 rfl (Nx (Sr (Wn 2 rfl (Wa (.addN (rh) (a) (rh+a) rfl rfl rfl rfl (by omega)) rfl (Wn 1 rfl (Nx (Sr (Wn 2 rfl (Nx (WC.cond rfl (fun n=>?_) (fun n=>?_))))))))))))))))
   ·have hqe:qh-1=d:=Nat.le_antisymm (by rw[j];exact dig_brk hY (by omega) m hinv (by omega) (by omega)) (by omega)
    refine WC.exit (E.blkX rfl (E.thenX (E.blkH (E.meet () (.cons rfl (.cons rfl (.cons rfl (.cons rfl (.cons rfl (.cons rfl (.cons rfl (.cons' rfl (int_eq (by rw[hqe])) (.nil _))))))))) ?_))))
    exact Ll
   refine WC.skip (E.blkN (E.again (qh-1,rh+a) (.of rfl) ?_ ?_))
   ·exact⟨Ll,hinv,by omega,by omega,by omega⟩
   first|omega|(simp only[];omega)
  have hqe:qh=d:=Nat.le_antisymm (by rw[j];exact dig_le hY (by omega) hi (by omega)) hq
  refine WC.exit (E.thenX (E.thenX (E.blkH (E.meet () (.cons rfl (.cons rfl (.cons rfl (.cons rfl (.cons rfl (.cons rfl (.cons rfl (.cons' rfl (int_eq (by rw[hqe])) (.nil _))))))))) ?_))))
  exact Ll
 rintro⟨⟩ u N
 refine Sr (Wn 1 rfl (Wa (.mulN (U) (4294967296) (U*4294967296%18446744073709551616) rfl rfl rfl rfl (rfl)) rfl (Wn 1 rfl (Wa (.addN (U*4294967296%18446744073709551616) (f) ((U*4294967296+f)%18446744073709551616) rfl rfl rfl rfl (by rw[Nat.mod_add_mod])) rfl ?_))))
 refine Wn 2 rfl (Wa (.mulN (d) (Y) (d*Y%18446744073709551616) rfl rfl rfl rfl (rfl)) rfl (Wa (.subN ((U*4294967296+f)%18446744073709551616) (d*Y%18446744073709551616) (R) rfl rfl rfl rfl (Nat.le_of_lt (Nat.mod_lt _ (by decide))) ((dig_rest Y _ _ j (by omega) (by omega)).trans hR.symm)) rfl (Wn 1 rfl (Nx (Sr (Wn 2 rfl (Wa (.quoN (R) (a) (R/a) rfl rfl rfl rfl (by omega) (by omega) (rfl)) rfl (Wn 1 rfl (Nx (Sr (Wn 3 rfl ?_)))))))))))
 refine Wa (.mulN (R/a) (a) (R/a*a) rfl rfl rfl rfl (Nat.mod_eq_of_lt (Nat.lt_of_le_of_lt (Nat.div_mul_le_self _ _) (by omega)))) rfl (Wa (.subN (R) (R/a*a) (R%a) rfl rfl rfl rfl (Nat.le_trans (Nat.div_mul_le_self _ _) (by omega)) (sub_div R a (by omega))) rfl (Wn 1 rfl (Nx (WC.cut (ι:=Unit) (fun()=>[(2,.int .u64 ((Y:Nat):Int)),(8,.int .u64 (3:Int)),(9,.int .u64 ((a:Nat):Int)),(10,.int .u64 ((b:Nat):Int)),(14,.int .u64 ((c:Nat):Int)),(17,.int .u64 ((R:Nat):Int)),(15,.int .u64 ((d:Nat):Int)),(18,.int .u64 ((i:Nat):Int))]) (fun() x=>Le w x) ?_ ?_))))
 ·refine WC.block (WC.loop (ι:=Nat×Nat) (fun⟨qh,rh⟩=>[(2,.int .u64 ((Y:Nat):Int)),(8,.int .u64 (3:Int)),(9,.int .u64 ((a:Nat):Int)),(10,.int .u64 ((b:Nat):Int)),(14,.int .u64 ((c:Nat):Int)),(17,.int .u64 ((R:Nat):Int)),(15,.int .u64 ((d:Nat):Int)),(18,.int .u64 ((qh:Nat):Int)),(16,.int .u64 ((rh:Nat):Int))]) (fun⟨qh,rh⟩ wl=>Le w wl/\qh*a+rh=R/\i<=qh/\rh<4294967296/\qh<=4294967297) (fun⟨qh,rh⟩=>qh) (R/a,R%a) ?_ ?_ ?_)
  ·exact .of rfl
  ·exact⟨N,by rw[Nat.mul_comm];exact Nat.div_add_mod _ _,by rw[k];exact dig_start hY (by omega) hRY (by omega),Nat.lt_of_lt_of_le (Nat.mod_lt _ (by omega)) (by omega),dig_first hY (by omega) (by omega) hRY⟩
  rintro⟨qh,rh⟩ wl ⟨Ll,hi,hq,hr,K⟩
  refine Sq (Sr (Wn 2 rfl ?_))
  by_cases hb:4294967296<=qh
  ·refine Wn 1 rfl (W.skip rfl rfl rfl (dT (by omega)) rfl rfl (W.skip rfl rfl rfl (dT (by omega)) rfl rfl (W.skip rfl rfl rfl (dT (by omega)) rfl rfl (W.skip rfl rfl rfl (dT (by omega)) rfl rfl (W.skip rfl rfl rfl (dT (by omega)) rfl rfl ?_)))))
   refine W.skip rfl rfl rfl (dT (by omega)) rfl rfl (W.skip rfl rfl rfl (dT (by omega)) rfl rfl (W.skip rfl rfl rfl (dT (by omega)) rfl rfl (Wa (.pickT rfl (dT (by omega)) rfl) rfl ?_)))
   have hgt:i<qh:=by rw[k];exact dig_gt hY hRY (by omega) hi (by omega)
   have hd:qh*a=(qh-1)*a+a:=by rw[<-Nat.succ_mul];congr 1;omega
   have hinv:(qh-1)*a+(rh+a)=R:=by omega
   refine Nx (WC.condT rfl (Sn (WC.block (Sr (Wn 1 rfl (Wa (.subN (qh) (1) (qh-1) rfl rfl rfl rfl (by omega) (by omega)) rfl (Wn 1 rfl (Nx (Sr (Wn 2 rfl (Wa (.addN (rh) (a) (rh+a) rfl rfl rfl rfl (by omega)) rfl (Wn 1 rfl (Nx (Sr (Wn 2 rfl (Nx (WC.cond rfl (fun o=>?_) (fun o=>?_))))))))))))))))))
   ·have hqe:qh-1=i:=Nat.le_antisymm (by rw[k];exact dig_brk hY (by omega) m hinv (by omega) (by omega)) (by omega)
    refine WC.exit (E.blkX rfl (E.thenX (E.blkH (E.meet () (.cons rfl (.cons rfl (.cons rfl (.cons rfl (.cons rfl (.cons rfl (.cons rfl (.cons' rfl (int_eq (by rw[hqe])) (.nil _))))))))) ?_))))
    exact Ll
   refine WC.skip (E.blkN (E.again (qh-1,rh+a) (.of rfl) ?_ ?_))
   ·exact⟨Ll,hinv,by omega,by omega,by omega⟩
   first|omega|(simp only[];omega)
  refine Wn 1 rfl (W.rdg (Any.rd (.move rfl) _) rfl rfl rfl (dF (by omega)) rfl rfl (W.rdg (Any.rd (.move rfl) _) rfl rfl rfl (dF (by omega)) rfl rfl ?_))
  have hqb:qh*b<18446744073709551616:=Nat.lt_of_le_of_lt (Nat.mul_le_mul (show qh<=4294967295 by omega) (show b<=4294967295 by omega)) (by decide)
  refine W.rdg (Any.rd (.mulN (qh) (b) (qh*b) rfl rfl rfl rfl (Nat.mod_eq_of_lt hqb)) _) rfl rfl rfl (dF (by omega)) rfl rfl (W.rdg (Any.rd (.move rfl) _) rfl rfl rfl (dF (by omega)) rfl rfl (W.rdg (Any.rd (.mulN (4294967296) (rh) (4294967296*rh) rfl rfl rfl rfl (by omega)) _) rfl rfl rfl (dF (by omega)) rfl rfl (W.rdg (Any.rd (.move rfl) _) rfl rfl rfl (dF (by omega)) rfl rfl (W.rdg (Any.rd (.addN (4294967296*rh) (c) (4294967296*rh+c) rfl rfl rfl rfl (by omega)) _) rfl rfl rfl (dF (by omega)) rfl rfl (W.rdg (Any.rd (.gtr rfl rfl) _) rfl rfl rfl (dF (by omega)) rfl rfl ?_)))))
  refine Wa (.pickF rfl (dF (by omega)) rfl) rfl (Nx (WC.cond rfl (fun O=>?_) (fun O=>?_)))
  ·have hgt:i<qh:=by rw[k];exact dig_gt hY hRY (by omega) hi (by omega)
   have hd:qh*a=(qh-1)*a+a:=by rw[<-Nat.succ_mul];congr 1;omega
   have hinv:(qh-1)*a+(rh+a)=R:=by omega
   refine Sn (WC.block (Sr (Wn 1 rfl (Wa (.subN (qh) (1) (qh-1) rfl rfl rfl rfl (by omega) (by omega)) rfl (Wn 1 rfl (Nx (Sr (Wn 2 rfl (Wa (.addN (rh) (a) (rh+a) rfl rfl rfl rfl (by omega)) rfl (Wn 1 rfl (Nx (Sr (Wn 2 rfl (Nx (WC.cond rfl (fun o=>?_) (fun o=>?_))))))))))))))))
   ·have hqe:qh-1=i:=Nat.le_antisymm (by rw[k];exact dig_brk hY (by omega) m hinv (by omega) (by omega)) (by omega)
    refine WC.exit (E.blkX rfl (E.thenX (E.blkH (E.meet () (.cons rfl (.cons rfl (.cons rfl (.cons rfl (.cons rfl (.cons rfl (.cons rfl (.cons' rfl (int_eq (by rw[hqe])) (.nil _))))))))) ?_))))
    exact Ll
   refine WC.skip (E.blkN (E.again (qh-1,rh+a) (.of rfl) ?_ ?_))
   ·exact⟨Ll,hinv,by omega,by omega,by omega⟩
   first|omega|(simp only[];omega)
  have hqe:qh=i:=Nat.le_antisymm (by rw[k];exact dig_le hY (by omega) hi (by omega)) hq
  refine WC.exit (E.thenX (E.thenX (E.blkH (E.meet () (.cons rfl (.cons rfl (.cons rfl (.cons rfl (.cons rfl (.cons rfl (.cons rfl (.cons' rfl (int_eq (by rw[hqe])) (.nil _))))))))) ?_))))
  exact Ll
 rintro⟨⟩ x P
 refine Sr (Wn 1 rfl (Wa (.mulN (d) (4294967296) (d*4294967296%18446744073709551616) rfl rfl rfl rfl (rfl)) rfl (Wn 1 rfl (Wa (.addN (d*4294967296%18446744073709551616) (i) ((d*4294967296%18446744073709551616+i)%18446744073709551616) rfl rfl rfl rfl (rfl)) rfl (Wn 1 rfl (Wa (.mulN (R) (4294967296) (R*4294967296%18446744073709551616) rfl rfl rfl rfl (rfl)) rfl ?_))))))
 refine Wn 1 rfl (Wa (.addN (R*4294967296%18446744073709551616) (c) ((R*4294967296+c)%18446744073709551616) rfl rfl rfl rfl (by rw[Nat.mod_add_mod])) rfl ?_)
 refine Wn 2 rfl (Wa (.mulN (i) (Y) (i*Y%18446744073709551616) rfl rfl rfl rfl (rfl)) rfl (Wa (.subN ((R*4294967296+c)%18446744073709551616) (i*Y%18446744073709551616) ((R*4294967296+c)%Y) rfl rfl rfl rfl (Nat.le_of_lt (Nat.mod_lt _ (by decide))) (dig_rest Y _ _ k (by omega) (by omega))) rfl (Wn 1 rfl (Wa (.shrE ((R*4294967296+c)%Y) (3) ((h*18446744073709551616+l)%y) rfl rfl rfl rfl (by decide) (hfin)) rfl (Wn 2 rfl (Nx (Rt ?_)))))))
 refine E.ret2 rfl rfl rfl ?_
 exact⟨_,rfl,P⟩

theorem rem64_ok (h l y:Nat)(h1:1152921504606846976<=y)(h2:y<4611686018427387904)(hl:l<18446744073709551616)(w:World):Calls prog 243 #[.int .u64 ((h:Nat):Int),.int .u64 ((l:Nat):Int),.int .u64 ((y:Nat):Int)] w fun e w'=>e= .returned (.int .u64 (((h*18446744073709551616+l)%y:Nat):Int))/\Le w w':=by
 have hd:∀w,Calls prog 301 #[.int .u64 ((h%y:Nat):Int),.int .u64 ((l:Nat):Int),.int .u64 ((y:Nat):Int)] w fun e w'=>∃qq:Int,e= .returned (.tuple #[.int .u64 qq,.int .u64 (((h*18446744073709551616+l)%y:Nat):Int)])/\Le w w':=fun w=>by
  rw[show(h*18446744073709551616+l)%y=(h%y*18446744073709551616+l)%y by rw[Nat.add_mod (h%y*_),Nat.mul_mod (h%y),Nat.mod_mod,<-Nat.mul_mod,<-Nat.add_mod]]
  by_cases hs:y<2305843009213693952
  ·exact div64_ok3 (h%y) l y (by omega) (by omega) (Nat.mod_lt _ (by omega)) hl w
  exact div64_ok2 (h%y) l y (by omega) (by omega) (Nat.mod_lt _ (by omega)) hl w
 refine enter func243 rfl rfl ?_
 have b:=Le.refl w
 refine Sr (Wn 1 rfl (Nx (Sr (Wn 2 rfl (Wa (.remN (h) (y) (h%y) rfl rfl rfl rfl (by omega) (rfl)) rfl (Wn 2 rfl (W.cl go301 rfl rfl (hd w) ?_)))))))
 rintro _ f ⟨qq,rfl,c⟩
 have d:=b.trans c
 refine Wn 1 rfl (Wa (.extract rfl rfl) rfl (Wa (.extract rfl rfl) rfl (Wn 2 rfl (Nx (Sr (Wn 2 rfl (Nx (Rt (E.ret1 rfl rfl ?_)))))))))
 exact⟨rfl,d⟩
end Go.Proofs.YtocheaahlpiajaaGreatDoor

namespace Go.Proofs.YtocheaahlpiajaaGreatDoor
open Tryz
open Go Go.Sx
set_option maxRecDepth 20000
structure Hid (p:Prop):Prop where
  out:p
theorem divQ (c V T K h l y Y U v e1 e0 R Q1 Q2:Nat)(hc:0<c)(hcV:c*V=T)(hK:K*K=T)(hy:0<y)(hY:Y=y*c)(hU:U=h*c+l/V)(hv:v=l*c%T)(h1:e1=v/K)(h0:e0=v%K)(hR:R=(U*K+e1)%Y)(hQ1:Q1=(U*K+e1)/Y)(hQ2:Q2=(R*K+e0)/Y):
    (R*K+e0)%Y/c=(h*T+l)%y/\Q1*K+Q2=(h*T+l)/y:=by
  have j:0<Y:=by rw[hY];exact Nat.mul_pos hy hc
  have k:K*e1+e0=v:=by rw[h1,h0];exact Nat.div_add_mod v K
  have m:T*(l/V)+v=l*c:=by
    have:l*c/T=l/V:=by rw[<-hcV,Nat.mul_comm c V];exact Nat.mul_div_mul_right l V hc
    rw[<-this,hv];exact Nat.div_add_mod _ _
  have e:(U*K+e1)*K+e0=(h*T+l)*c:=by
    rw[Nat.add_mul,Nat.mul_assoc,hK,Nat.mul_comm e1,Nat.add_assoc,k,hU,Nat.add_mul,Nat.mul_comm (l/V),Nat.add_assoc,m,Nat.add_mul,Nat.mul_right_comm]
  have n:Y*Q1+R=U*K+e1:=by rw[hQ1,hR];exact Nat.div_add_mod _ _
  have d:Y*Q2+(R*K+e0)%Y=R*K+e0:=by rw[hQ2];exact Nat.div_add_mod _ _
  have b:(R*K+e0)%Y<Y:=Nat.mod_lt _ j
  obtain⟨r,hr⟩:∃r,r=(R*K+e0)%Y:=⟨_,rfl⟩
  rw[<-hr]at d b ⊢
  obtain⟨N,hN⟩:∃N,N=h*T+l:=⟨_,rfl⟩
  rw[<-hN]at e ⊢
  obtain⟨G,hG⟩:∃G,G=Q1*K+Q2:=⟨_,rfl⟩
  rw[<-hG]
  have o:y*G*c+r=N*c:=by
    rw[<-e,<-n,Nat.add_mul,Nat.add_assoc,<-d,hG,hY,Nat.mul_right_comm,Nat.mul_add,Nat.mul_assoc (y*c),Nat.add_assoc]
  have s:y*G<=N:=Nat.le_of_mul_le_mul_right (by omega) hc
  obtain⟨D,hD⟩:=Nat.le.dest s
  have f:r=D*c:=by rw[<-hD,Nat.add_mul]at o;omega
  have i:D<y:=by rw[f,hY]at b;exact Nat.lt_of_mul_lt_mul_right b
  rw[f,Nat.mul_div_cancel _ hc,<-hD,Nat.mul_add_mod,Nat.mod_eq_of_lt i,Nat.mul_add_div hy,Nat.div_eq_of_lt i]
  exact⟨rfl,rfl⟩
theorem div44 (h l y:Nat)(h1:524288<=y)(h2:y<1048576)(hh:h<y)(hl:l<18446744073709551616):
    ∃Y H G U v,Hid (y*2^44%18446744073709551616=Y)/\Hid (h*2^44%18446744073709551616=H)/\Hid (l/2^20=G)/\Hid (H|||G=U)/\Hid (l*2^44%18446744073709551616=v)/\9223372036854775808<=Y/\Y<18446744073709551616/\U<Y/\v<18446744073709551616/\H<18446744073709551616/\G<18446744073709551616/\
      ∀e1 e0 R Q1 Q2,e1=v/4294967296->e0=v%4294967296->R=(U*4294967296+e1)%Y->Q1=(U*4294967296+e1)/Y->Q2=(R*4294967296+e0)/Y->
        Hid ((R*4294967296+e0)%Y/2^44=(h*18446744073709551616+l)%y)/\Hid ((Q1*4294967296%18446744073709551616+Q2)%18446744073709551616=(h*18446744073709551616+l)/y):=by
  have m:(2:Nat)^44=17592186044416:=by decide
  have n:(2:Nat)^20=1048576:=by decide
  have hG:l/2^20<2^44:=by rw[Nat.div_lt_iff_lt_mul (by decide)];exact Nat.lt_of_lt_of_le hl (by decide)
  have hHY:h*2^44+2^44<=y*2^44:=by rw[<-Nat.succ_mul];exact Nat.mul_le_mul_right _ hh
  have b:y*2^44<18446744073709551616:=Nat.lt_of_lt_of_le (Nat.mul_lt_mul_of_pos_right h2 (by decide)) (by decide)
  have c:9223372036854775808<=y*2^44:=Nat.le_trans (by decide) (Nat.mul_le_mul_right (2^44) h1)
  have hH:h*2^44%18446744073709551616=h*2^44:=Nat.mod_eq_of_lt (Nat.lt_of_le_of_lt (Nat.le_trans (Nat.le_add_right _ _) hHY) b)
  have hor:h*2^44|||l/2^20=h*2^44+l/2^20:=by rw[Nat.mul_comm h];exact(Nat.two_pow_add_eq_or_of_lt hG h).symm
  refine⟨y*2^44,h*2^44,l/2^20,h*2^44+l/2^20,l*2^44%18446744073709551616,⟨Nat.mod_eq_of_lt b⟩,⟨hH⟩,⟨rfl⟩,⟨hor⟩,⟨rfl⟩,c,b,Nat.lt_of_lt_of_le (Nat.add_lt_add_left hG _) hHY,Nat.mod_lt _ (by decide),by rw[<-hH];exact Nat.mod_lt _ (by decide),Nat.lt_trans hG (by decide),?_⟩
  intro e1 e0 R Q1 Q2 d e hR f i
  obtain⟨j,k⟩:=divQ (2^44) (2^20) 18446744073709551616 4294967296 h l y _ _ _ e1 e0 R Q1 Q2 (by decide) (by decide) (by decide) (by omega) rfl rfl rfl d e hR f i
  refine⟨⟨j⟩,⟨?_⟩⟩
  rw[Nat.mod_add_mod,k]
  apply Nat.mod_eq_of_lt
  rw[Nat.div_lt_iff_lt_mul (by omega)]
  exact Nat.lt_of_lt_of_le (show h*18446744073709551616+l<(h+1)*18446744073709551616 from by rw[Nat.succ_mul];exact Nat.add_lt_add_left hl _) (by rw[Nat.mul_comm 18446744073709551616 y];exact Nat.mul_le_mul_right _ hh)
theorem len8b:∀m,8<=m->m<16->tab8[m]? =some 4:=by
  have h:∀m:Fin 16,8<=m.val->tab8[m.val]? =some 4:=by decide+kernel
  exact fun m b c=>h ⟨m,c⟩ b

theorem len64_20 (y:Nat)(h1:524288<=y)(h2:y<1048576)(w:World):Calls prog 326 #[.int .u64 ((y:Nat):Int)] w fun e w'=>e= .returned (.int .i64 20)/\Le w w':=by
 refine enter func326 rfl rfl (Sr (Wn 1 rfl (Nx (Sq (Sr (Wn 2 rfl (Nx (WC.condB rfl (fun h=>absurd h (by simp;omega)) (fun _=>?_)))))))))
 refine Sn (Sq (Sr (Wn 2 rfl (Nx (WC.condB rfl (fun _=>?_) (fun h=>absurd h (by simp;omega)))))))
 refine Sr (Wn 1 rfl (Wa (.shrE (y) (16) (y/65536) rfl rfl rfl rfl (by decide) (by omega)) rfl (Wn 1 rfl (Nx (WC.region (Wn 1 rfl (Wa (.add rfl rfl (by omega)) rfl (Wn 1 rfl (Nx (Sq (Sr (Wn 2 rfl (Nx (WC.condB rfl (fun h=>absurd h (by simp;omega)) (fun _=>?_)))))))))))))))
 refine Sn (Sr (Wn 2 rfl (Wr (.toU8 (y/65536) (isS underlying27) underlying5 rfl rfl) rfl (Wa (.idxStr (y/65536) 4 underlying9 rfl rfl (by rw[BitVec.toNat_ofNat,Nat.mod_eq_of_lt (by omega)]) (len8b (y/65536) (by omega) (by omega))) rfl ?_))))
 refine Wr (.idI (isS underlying5) underlying3 rfl (IntWalk.i64_in _ (by decide))) rfl (Wa (.add rfl rfl (by decide)) rfl (Wn 1 rfl (Nx (Rt (E.ret1 rfl rfl ?_)))))
 exact⟨rfl,(Le.refl w)⟩

theorem lz64_20 (y:Nat)(h1:524288<=y)(h2:y<1048576)(w:World):Calls prog 334 #[.int .u64 ((y:Nat):Int)] w fun e w'=>e= .returned (.int .i64 44)/\Le w w':=by
 refine enter func334 rfl rfl ?_
 have b:=Le.refl w
 refine Sr (Wn 1 rfl (Nx (Sr (Wn 1 rfl (W.cl go326 rfl rfl (len64_20 y h1 h2 w) ?_)))))
 rintro _ f ⟨rfl,c⟩
 have d:=b.trans c
 refine Wa (.sub rfl rfl (by decide)) rfl (Wn 1 rfl (Nx (Rt (E.ret1 rfl rfl ?_))))
 exact⟨rfl,d⟩

theorem div64_q44 (h l y:Nat)(h1:524288<=y)(h2:y<1048576)(hh:h<y)(hl:l<18446744073709551616)(w:World):Calls prog 301 #[.int .u64 ((h:Nat):Int),.int .u64 ((l:Nat):Int),.int .u64 ((y:Nat):Int)] w fun e w'=>e= .returned (.tuple #[.int .u64 (((h*18446744073709551616+l)/y:Nat):Int),.int .u64 (((h*18446744073709551616+l)%y:Nat):Int)])/\Le w w':=by
 obtain⟨Y,Hn,Gn,U,v,fY,fH,fG,fU,fv,hYlo,hYhi,hU,Q,S,T,fin⟩:=div44 h l y (by omega) (by omega) hh hl
 obtain⟨a,ha⟩:∃a,a=Y/4294967296:=⟨_,rfl⟩
 obtain⟨b,z⟩:∃b,b=Y%4294967296:=⟨_,rfl⟩
 obtain⟨i,A⟩:∃i,i=v/4294967296:=⟨_,rfl⟩
 obtain⟨d,s⟩:∃d,d=v%4294967296:=⟨_,rfl⟩
 have hY:Y=a*4294967296+b:=by omega
 have V:2147483648<=a:=by omega
 have X:a<4294967296:=by omega
 have m:b<4294967296:=by omega
 have Z:i<4294967296:=by omega
 have aa:d<4294967296:=by omega
 obtain⟨R,hR⟩:∃R,R=(U*4294967296+i)%Y:=⟨_,rfl⟩
 obtain⟨c,j⟩:∃c,c=(U*4294967296+i)/Y:=⟨_,rfl⟩
 obtain⟨f,k⟩:∃f,f=(R*4294967296+d)/Y:=⟨_,rfl⟩
 have hRY:R<Y:=by rw[hR];exact Nat.mod_lt _ (by omega)
 obtain⟨hfin,hquo⟩:=fin i d R c f A s hR j k
 have hlz:∀w,Calls prog 334 #[.int .u64 ((y:Nat):Int)] w (fun e w'=>e= .returned (.int .i64 44)/\Le w w'):=fun w=>by
  exact lz64_20 y (by omega) (by omega) w
 refine enter func301 rfl rfl ?_
 have t:=Le.refl w
 refine Sr (Wn 2 rfl (Nx (Sq (Sr (Wn 2 rfl (Nx (WC.condB rfl (fun h=>absurd h (by simp;omega)) (fun _=>?_))))))))
 refine Sn (Sq (Sr (Wn 3 rfl (Nx (WC.condB rfl (fun h=>absurd h (by simp;omega)) (fun _=>?_))))))
 refine Sn (Sq (Sr (Wn 2 rfl (Nx (WC.cond rfl (fun C=>?_) (fun C=>?_))))))
 ·have D:h=0:=by omega
  subst D
  refine Sq (WC.draw [0,1,2,3,4,5,6,7] mixed (by kernel_rfl) fun w6 F=>?_)
  have H:=t.trans F
  refine G.run 2 rfl (Ga rfl (.quoN (l) (y) (l/y) rfl rfl rfl rfl (by omega) (by omega) (rfl)) (G.run 2 rfl (Ga rfl (.remN (l) (y) (l%y) rfl rfl rfl rfl (by omega) (rfl)) (G.run 2 rfl (G.nil (E.thenN (Rt (E.thenR (E.ret2 rfl rfl rfl ?_)))))))))
  exact⟨by rw[Nat.zero_mul,Nat.zero_add],H⟩
 refine Sn (Sr (Wn 1 rfl (W.cl go334 rfl rfl (hlz w) ?_)))
 rintro _ ab ⟨rfl,I⟩
 have J:=t.trans I
 refine Wr (.idI (isS underlying3) underlying287 rfl (IntWalk.u64_in _ (by decide))) rfl (Wn 1 rfl (Nx (Sr (Wn 2 rfl (Wa (.shlN (y) (44) (Y) rfl rfl rfl rfl (by decide) (fY.out)) rfl (Wn 1 rfl (Nx (Sr (Wn 1 rfl (Wa (.shrE (Y) (32) (a) rfl rfl rfl rfl (by decide) (by omega)) rfl (Wn 1 rfl (Nx (Sr (Wn 1 rfl ?_))))))))))))))
 refine Wa (.andE (Y) (4294967295) (b) rfl rfl rfl rfl (by omega) (by omega) ((mask32 _).trans z.symm)) rfl (Wn 1 rfl (Nx (Sr (Wn 2 rfl (Wa (.shlN (h) (44) (Hn) rfl rfl rfl rfl (by decide) (fH.out)) rfl (Wn 2 rfl (Wa (.subN (64) (44) (20) rfl rfl rfl rfl (by decide) (by decide)) rfl (Wa (.shrE (l) (20) (Gn) rfl rfl rfl rfl (by decide) (fG.out)) rfl ?_))))))))
 refine Wa (.orE (Hn) (Gn) (U) rfl rfl rfl rfl (by omega) (by omega) (fU.out)) rfl (Wn 1 rfl (Nx (Sr (Wn 2 rfl (Wa (.shlN (l) (44) (v) rfl rfl rfl rfl (by decide) (fv.out)) rfl (Wn 1 rfl (Nx (Sr (Wn 1 rfl (Wa (.shrE (v) (32) (i) rfl rfl rfl rfl (by decide) (by omega)) rfl (Wn 1 rfl (Nx (Sr (Wn 1 rfl ?_))))))))))))))
 refine Wa (.andE (v) (4294967295) (d) rfl rfl rfl rfl (by omega) (by omega) ((mask32 _).trans s.symm)) rfl (Wn 1 rfl (Nx (Sr (Wn 2 rfl (Wa (.quoN (U) (a) (U/a) rfl rfl rfl rfl (by omega) (by omega) (rfl)) rfl (Wn 1 rfl (Nx (Sr (Wn 3 rfl (Wa (.mulN (U/a) (a) (U/a*a) rfl rfl rfl rfl (Nat.mod_eq_of_lt (Nat.lt_of_le_of_lt (Nat.div_mul_le_self _ _) (by omega)))) rfl (Wa (.subN (U) (U/a*a) (U%a) rfl rfl rfl rfl (Nat.le_trans (Nat.div_mul_le_self _ _) (by omega)) (sub_div U a (by omega))) rfl ?_)))))))))))
 refine Wn 1 rfl (Nx (WC.cut (ι:=Unit) (fun()=>[(2,.int .u64 ((Y:Nat):Int)),(8,.int .u64 (44:Int)),(9,.int .u64 ((a:Nat):Int)),(10,.int .u64 ((b:Nat):Int)),(11,.int .u64 ((U:Nat):Int)),(13,.int .u64 ((i:Nat):Int)),(14,.int .u64 ((d:Nat):Int)),(15,.int .u64 ((c:Nat):Int))]) (fun() u=>Le w u) ?_ ?_))
 ·refine WC.block (WC.loop (ι:=Nat×Nat) (fun⟨qh,rh⟩=>[(2,.int .u64 ((Y:Nat):Int)),(8,.int .u64 (44:Int)),(9,.int .u64 ((a:Nat):Int)),(10,.int .u64 ((b:Nat):Int)),(11,.int .u64 ((U:Nat):Int)),(13,.int .u64 ((i:Nat):Int)),(14,.int .u64 ((d:Nat):Int)),(15,.int .u64 ((qh:Nat):Int)),(16,.int .u64 ((rh:Nat):Int))]) (fun⟨qh,rh⟩ wl=>Le w wl/\qh*a+rh=U/\c<=qh/\rh<4294967296/\qh<=4294967297) (fun⟨qh,rh⟩=>qh) (U/a,U%a) ?_ ?_ ?_)
  ·exact .of rfl
  ·exact⟨J,by rw[Nat.mul_comm];exact Nat.div_add_mod _ _,by rw[j];exact dig_start hY (by omega) hU (by omega),Nat.lt_of_lt_of_le (Nat.mod_lt _ (by omega)) (by omega),dig_first hY (by omega) (by omega) hU⟩
  rintro⟨qh,rh⟩ wl ⟨Ll,hi,hq,hr,K⟩
  refine Sq (Sr (Wn 2 rfl ?_))
  by_cases hb:4294967296<=qh
  ·refine Wn 1 rfl (W.skip rfl rfl rfl (dT (by omega)) rfl rfl (W.skip rfl rfl rfl (dT (by omega)) rfl rfl (W.skip rfl rfl rfl (dT (by omega)) rfl rfl (W.skip rfl rfl rfl (dT (by omega)) rfl rfl (W.skip rfl rfl rfl (dT (by omega)) rfl rfl ?_)))))
   refine W.skip rfl rfl rfl (dT (by omega)) rfl rfl (W.skip rfl rfl rfl (dT (by omega)) rfl rfl (W.skip rfl rfl rfl (dT (by omega)) rfl rfl (Wa (.pickT rfl (dT (by omega)) rfl) rfl ?_)))
   have hgt:c<qh:=by rw[j];exact dig_gt hY hU (by omega) hi (by omega)
   have hd:qh*a=(qh-1)*a+a:=by rw[<-Nat.succ_mul];congr 1;omega
   have hinv:(qh-1)*a+(rh+a)=U:=by omega
   refine Nx (WC.condT rfl (Sn (WC.block (Sr (Wn 1 rfl (Wa (.subN (qh) (1) (qh-1) rfl rfl rfl rfl (by omega) (by omega)) rfl (Wn 1 rfl (Nx (Sr (Wn 2 rfl (Wa (.addN (rh) (a) (rh+a) rfl rfl rfl rfl (by omega)) rfl (Wn 1 rfl (Nx (Sr (Wn 2 rfl (Nx (WC.cond rfl (fun n=>?_) (fun n=>?_))))))))))))))))))
   ·have hqe:qh-1=c:=Nat.le_antisymm (by rw[j];exact dig_brk hY (by omega) m hinv (by omega) (by omega)) (by omega)
    refine WC.exit (E.blkX rfl (E.thenX (E.blkH (E.meet () (.cons rfl (.cons rfl (.cons rfl (.cons rfl (.cons rfl (.cons rfl (.cons rfl (.cons' rfl (int_eq (by rw[hqe])) (.nil _))))))))) ?_))))
    exact Ll
   refine WC.skip (E.blkN (E.again (qh-1,rh+a) (.of rfl) ?_ ?_))
   ·exact⟨Ll,hinv,by omega,by omega,by omega⟩
   first|omega|(simp only[];omega)
  refine Wn 1 rfl (W.rdg (Any.rd (.move rfl) _) rfl rfl rfl (dF (by omega)) rfl rfl (W.rdg (Any.rd (.move rfl) _) rfl rfl rfl (dF (by omega)) rfl rfl ?_))
  have hqb:qh*b<18446744073709551616:=Nat.lt_of_le_of_lt (Nat.mul_le_mul (show qh<=4294967295 by omega) (show b<=4294967295 by omega)) (by decide)
  refine W.rdg (Any.rd (.mulN (qh) (b) (qh*b) rfl rfl rfl rfl (Nat.mod_eq_of_lt hqb)) _) rfl rfl rfl (dF (by omega)) rfl rfl (W.rdg (Any.rd (.move rfl) _) rfl rfl rfl (dF (by omega)) rfl rfl (W.rdg (Any.rd (.mulN (4294967296) (rh) (4294967296*rh) rfl rfl rfl rfl (by omega)) _) rfl rfl rfl (dF (by omega)) rfl rfl (W.rdg (Any.rd (.move rfl) _) rfl rfl rfl (dF (by omega)) rfl rfl (W.rdg (Any.rd (.addN (4294967296*rh) (i) (4294967296*rh+i) rfl rfl rfl rfl (by omega)) _) rfl rfl rfl (dF (by omega)) rfl rfl (W.rdg (Any.rd (.gtr rfl rfl) _) rfl rfl rfl (dF (by omega)) rfl rfl ?_)))))
  refine Wa (.pickF rfl (dF (by omega)) rfl) rfl (Nx (WC.cond rfl (fun L=>?_) (fun L=>?_)))
  ·have hgt:c<qh:=by rw[j];exact dig_gt hY hU (by omega) hi (by omega)
   have hd:qh*a=(qh-1)*a+a:=by rw[<-Nat.succ_mul];congr 1;omega
   have hinv:(qh-1)*a+(rh+a)=U:=by omega
   refine Sn (WC.block (Sr (Wn 1 rfl (Wa (.subN (qh) (1) (qh-1) rfl rfl rfl rfl (by omega) (by omega)) rfl (Wn 1 rfl (Nx (Sr (Wn 2 rfl (Wa (.addN (rh) (a) (rh+a) rfl rfl rfl rfl (by omega)) rfl (Wn 1 rfl (Nx (Sr (Wn 2 rfl (Nx (WC.cond rfl (fun n=>?_) (fun n=>?_))))))))))))))))
   ·have hqe:qh-1=c:=Nat.le_antisymm (by rw[j];exact dig_brk hY (by omega) m hinv (by omega) (by omega)) (by omega)
    refine WC.exit (E.blkX rfl (E.thenX (E.blkH (E.meet () (.cons rfl (.cons rfl (.cons rfl (.cons rfl (.cons rfl (.cons rfl (.cons rfl (.cons' rfl (int_eq (by rw[hqe])) (.nil _))))))))) ?_))))
    exact Ll
   refine WC.skip (E.blkN (E.again (qh-1,rh+a) (.of rfl) ?_ ?_))
   ·exact⟨Ll,hinv,by omega,by omega,by omega⟩
   first|omega|(simp only[];omega)
  have hqe:qh=c:=Nat.le_antisymm (by rw[j];exact dig_le hY (by omega) hi (by omega)) hq
  refine WC.exit (E.thenX (E.thenX (E.blkH (E.meet () (.cons rfl (.cons rfl (.cons rfl (.cons rfl (.cons rfl (.cons rfl (.cons rfl (.cons' rfl (int_eq (by rw[hqe])) (.nil _))))))))) ?_))))
  exact Ll
 rintro⟨⟩ u N
 refine Sr (Wn 1 rfl (Wa (.mulN (U) (4294967296) (U*4294967296%18446744073709551616) rfl rfl rfl rfl (rfl)) rfl (Wn 1 rfl (Wa (.addN (U*4294967296%18446744073709551616) (i) ((U*4294967296+i)%18446744073709551616) rfl rfl rfl rfl (by rw[Nat.mod_add_mod])) rfl ?_))))
 refine Wn 2 rfl (Wa (.mulN (c) (Y) (c*Y%18446744073709551616) rfl rfl rfl rfl (rfl)) rfl (Wa (.subN ((U*4294967296+i)%18446744073709551616) (c*Y%18446744073709551616) (R) rfl rfl rfl rfl (Nat.le_of_lt (Nat.mod_lt _ (by decide))) ((dig_rest Y _ _ j (by omega) (by omega)).trans hR.symm)) rfl (Wn 1 rfl (Nx (Sr (Wn 2 rfl (Wa (.quoN (R) (a) (R/a) rfl rfl rfl rfl (by omega) (by omega) (rfl)) rfl (Wn 1 rfl (Nx (Sr (Wn 3 rfl ?_)))))))))))
 refine Wa (.mulN (R/a) (a) (R/a*a) rfl rfl rfl rfl (Nat.mod_eq_of_lt (Nat.lt_of_le_of_lt (Nat.div_mul_le_self _ _) (by omega)))) rfl (Wa (.subN (R) (R/a*a) (R%a) rfl rfl rfl rfl (Nat.le_trans (Nat.div_mul_le_self _ _) (by omega)) (sub_div R a (by omega))) rfl (Wn 1 rfl (Nx (WC.cut (ι:=Unit) (fun()=>[(2,.int .u64 ((Y:Nat):Int)),(8,.int .u64 (44:Int)),(9,.int .u64 ((a:Nat):Int)),(10,.int .u64 ((b:Nat):Int)),(14,.int .u64 ((d:Nat):Int)),(17,.int .u64 ((R:Nat):Int)),(15,.int .u64 ((c:Nat):Int)),(18,.int .u64 ((f:Nat):Int))]) (fun() x=>Le w x) ?_ ?_))))
 ·refine WC.block (WC.loop (ι:=Nat×Nat) (fun⟨qh,rh⟩=>[(2,.int .u64 ((Y:Nat):Int)),(8,.int .u64 (44:Int)),(9,.int .u64 ((a:Nat):Int)),(10,.int .u64 ((b:Nat):Int)),(14,.int .u64 ((d:Nat):Int)),(17,.int .u64 ((R:Nat):Int)),(15,.int .u64 ((c:Nat):Int)),(18,.int .u64 ((qh:Nat):Int)),(16,.int .u64 ((rh:Nat):Int))]) (fun⟨qh,rh⟩ wl=>Le w wl/\qh*a+rh=R/\f<=qh/\rh<4294967296/\qh<=4294967297) (fun⟨qh,rh⟩=>qh) (R/a,R%a) ?_ ?_ ?_)
  ·exact .of rfl
  ·exact⟨N,by rw[Nat.mul_comm];exact Nat.div_add_mod _ _,by rw[k];exact dig_start hY (by omega) hRY (by omega),Nat.lt_of_lt_of_le (Nat.mod_lt _ (by omega)) (by omega),dig_first hY (by omega) (by omega) hRY⟩
  rintro⟨qh,rh⟩ wl ⟨Ll,hi,hq,hr,K⟩
  refine Sq (Sr (Wn 2 rfl ?_))
  by_cases hb:4294967296<=qh
  ·refine Wn 1 rfl (W.skip rfl rfl rfl (dT (by omega)) rfl rfl (W.skip rfl rfl rfl (dT (by omega)) rfl rfl (W.skip rfl rfl rfl (dT (by omega)) rfl rfl (W.skip rfl rfl rfl (dT (by omega)) rfl rfl (W.skip rfl rfl rfl (dT (by omega)) rfl rfl ?_)))))
   refine W.skip rfl rfl rfl (dT (by omega)) rfl rfl (W.skip rfl rfl rfl (dT (by omega)) rfl rfl (W.skip rfl rfl rfl (dT (by omega)) rfl rfl (Wa (.pickT rfl (dT (by omega)) rfl) rfl ?_)))
   have hgt:f<qh:=by rw[k];exact dig_gt hY hRY (by omega) hi (by omega)
   have hd:qh*a=(qh-1)*a+a:=by rw[<-Nat.succ_mul];congr 1;omega
   have hinv:(qh-1)*a+(rh+a)=R:=by omega
   refine Nx (WC.condT rfl (Sn (WC.block (Sr (Wn 1 rfl (Wa (.subN (qh) (1) (qh-1) rfl rfl rfl rfl (by omega) (by omega)) rfl (Wn 1 rfl (Nx (Sr (Wn 2 rfl (Wa (.addN (rh) (a) (rh+a) rfl rfl rfl rfl (by omega)) rfl (Wn 1 rfl (Nx (Sr (Wn 2 rfl (Nx (WC.cond rfl (fun o=>?_) (fun o=>?_))))))))))))))))))
   ·have hqe:qh-1=f:=Nat.le_antisymm (by rw[k];exact dig_brk hY (by omega) m hinv (by omega) (by omega)) (by omega)
    refine WC.exit (E.blkX rfl (E.thenX (E.blkH (E.meet () (.cons rfl (.cons rfl (.cons rfl (.cons rfl (.cons rfl (.cons rfl (.cons rfl (.cons' rfl (int_eq (by rw[hqe])) (.nil _))))))))) ?_))))
    exact Ll
   refine WC.skip (E.blkN (E.again (qh-1,rh+a) (.of rfl) ?_ ?_))
   ·exact⟨Ll,hinv,by omega,by omega,by omega⟩
   first|omega|(simp only[];omega)
  refine Wn 1 rfl (W.rdg (Any.rd (.move rfl) _) rfl rfl rfl (dF (by omega)) rfl rfl (W.rdg (Any.rd (.move rfl) _) rfl rfl rfl (dF (by omega)) rfl rfl ?_))
  have hqb:qh*b<18446744073709551616:=Nat.lt_of_le_of_lt (Nat.mul_le_mul (show qh<=4294967295 by omega) (show b<=4294967295 by omega)) (by decide)
  refine W.rdg (Any.rd (.mulN (qh) (b) (qh*b) rfl rfl rfl rfl (Nat.mod_eq_of_lt hqb)) _) rfl rfl rfl (dF (by omega)) rfl rfl (W.rdg (Any.rd (.move rfl) _) rfl rfl rfl (dF (by omega)) rfl rfl (W.rdg (Any.rd (.mulN (4294967296) (rh) (4294967296*rh) rfl rfl rfl rfl (by omega)) _) rfl rfl rfl (dF (by omega)) rfl rfl (W.rdg (Any.rd (.move rfl) _) rfl rfl rfl (dF (by omega)) rfl rfl (W.rdg (Any.rd (.addN (4294967296*rh) (d) (4294967296*rh+d) rfl rfl rfl rfl (by omega)) _) rfl rfl rfl (dF (by omega)) rfl rfl (W.rdg (Any.rd (.gtr rfl rfl) _) rfl rfl rfl (dF (by omega)) rfl rfl ?_)))))
  refine Wa (.pickF rfl (dF (by omega)) rfl) rfl (Nx (WC.cond rfl (fun O=>?_) (fun O=>?_)))
  ·have hgt:f<qh:=by rw[k];exact dig_gt hY hRY (by omega) hi (by omega)
   have hd:qh*a=(qh-1)*a+a:=by rw[<-Nat.succ_mul];congr 1;omega
   have hinv:(qh-1)*a+(rh+a)=R:=by omega
   refine Sn (WC.block (Sr (Wn 1 rfl (Wa (.subN (qh) (1) (qh-1) rfl rfl rfl rfl (by omega) (by omega)) rfl (Wn 1 rfl (Nx (Sr (Wn 2 rfl (Wa (.addN (rh) (a) (rh+a) rfl rfl rfl rfl (by omega)) rfl (Wn 1 rfl (Nx (Sr (Wn 2 rfl (Nx (WC.cond rfl (fun o=>?_) (fun o=>?_))))))))))))))))
   ·have hqe:qh-1=f:=Nat.le_antisymm (by rw[k];exact dig_brk hY (by omega) m hinv (by omega) (by omega)) (by omega)
    refine WC.exit (E.blkX rfl (E.thenX (E.blkH (E.meet () (.cons rfl (.cons rfl (.cons rfl (.cons rfl (.cons rfl (.cons rfl (.cons rfl (.cons' rfl (int_eq (by rw[hqe])) (.nil _))))))))) ?_))))
    exact Ll
   refine WC.skip (E.blkN (E.again (qh-1,rh+a) (.of rfl) ?_ ?_))
   ·exact⟨Ll,hinv,by omega,by omega,by omega⟩
   first|omega|(simp only[];omega)
  have hqe:qh=f:=Nat.le_antisymm (by rw[k];exact dig_le hY (by omega) hi (by omega)) hq
  refine WC.exit (E.thenX (E.thenX (E.blkH (E.meet () (.cons rfl (.cons rfl (.cons rfl (.cons rfl (.cons rfl (.cons rfl (.cons rfl (.cons' rfl (int_eq (by rw[hqe])) (.nil _))))))))) ?_))))
  exact Ll
 rintro⟨⟩ x P
 refine Sr (Wn 1 rfl (Wa (.mulN (c) (4294967296) (c*4294967296%18446744073709551616) rfl rfl rfl rfl (rfl)) rfl (Wn 1 rfl (Wa (.addN (c*4294967296%18446744073709551616) (f) ((c*4294967296%18446744073709551616+f)%18446744073709551616) rfl rfl rfl rfl (rfl)) rfl (Wn 1 rfl (Wa (.mulN (R) (4294967296) (R*4294967296%18446744073709551616) rfl rfl rfl rfl (rfl)) rfl ?_))))))
 refine Wn 1 rfl (Wa (.addN (R*4294967296%18446744073709551616) (d) ((R*4294967296+d)%18446744073709551616) rfl rfl rfl rfl (by rw[Nat.mod_add_mod])) rfl ?_)
 refine Wn 2 rfl (Wa (.mulN (f) (Y) (f*Y%18446744073709551616) rfl rfl rfl rfl (rfl)) rfl (Wa (.subN ((R*4294967296+d)%18446744073709551616) (f*Y%18446744073709551616) ((R*4294967296+d)%Y) rfl rfl rfl rfl (Nat.le_of_lt (Nat.mod_lt _ (by decide))) (dig_rest Y _ _ k (by omega) (by omega))) rfl (Wn 1 rfl (Wa (.shrE ((R*4294967296+d)%Y) (44) ((h*18446744073709551616+l)%y) rfl rfl rfl rfl (by decide) (hfin.out)) rfl (Wn 2 rfl (Nx (Rt ?_)))))))
 refine E.ret2 rfl rfl rfl ?_
 exact⟨by rw[hquo.out],P⟩
end Go.Proofs.YtocheaahlpiajaaGreatDoor

namespace Go.Proofs.YtocheaahlpiajaaGreatDoor
open Tryz
open Go Go.Sx Go.Num
set_option maxRecDepth 20000
theorem times_ok (a b:Nat)(ha:a<18446744073709551616)(hb:b<18446744073709551616)(w:World):Calls prog 244 #[.int .u64 ((a:Nat):Int),.int .u64 ((b:Nat):Int)] w fun e w'=>e= .returned (.int .u64 ((a*b%M:Nat):Int))/\Le w w':=by
 refine enter func244 rfl rfl ?_
 have c:=Le.refl w
 refine Sr (Wn 1 rfl (Nx (Sr (Wn 2 rfl (W.cl go302 rfl rfl (mul64_ok a b ha hb w) ?_)))))
 rintro _ d ⟨rfl,f⟩
 have h:=c.trans f
 refine Wn 1 rfl (Wa (.extract rfl rfl) rfl (Wa (.extract rfl rfl) rfl (Wn 2 rfl (Nx (Sr (Wn 2 rfl (W.cl go243 rfl rfl (rem64_ok (a*b/18446744073709551616) (a*b%18446744073709551616) 4611686018427377339 (by decide) (by decide) (Nat.mod_lt _ (by decide)) d) ?_)))))))
 rintro _ k ⟨rfl,i⟩
 have j:=h.trans i
 refine Wn 1 rfl (Nx (Rt (E.ret1 rfl rfl ?_)))
 exact⟨by rw[Nat.div_add_mod'];rfl,j⟩

theorem power_ok (a n:Nat)(ha:a<18446744073709551616)(hn:n<18446744073709551616)(w:World):Calls prog 170 #[.int .u64 ((a:Nat):Int),.int .u64 ((n:Nat):Int)] w fun e w'=>e= .returned (.int .u64 ((pw a n:Nat):Int))/\Le w w':=by
 refine enter func170 rfl rfl (Sr (Wn 1 rfl (Nx (Sr (Wn 1 rfl (Nx (Sq (WC.block (WC.loop (ι:=Nat×Nat×Nat) (fun⟨b,m,out⟩=>[(0,.int .u64 ((b:Nat):Int)),(1,.int .u64 ((m:Nat):Int)),(5,.int .u64 ((out:Nat):Int))]) (fun⟨b,m,out⟩ wl=>Le w wl/\b<18446744073709551616/\m<18446744073709551616/\out<M/\out*b^m%M=pw a n) (fun⟨b,m,out⟩=>m) (a,n,1) ?_ ?_ ?_)))))))))
 ·exact .of rfl
 ·exact⟨(Le.refl w),ha,hn,M_one,pw_start a n hn⟩
 rintro⟨b,m,out⟩ wl ⟨Ll,hb,hm,ho,hi⟩
 refine Sq (Sr (Wn 2 rfl (Nx (WC.cond rfl (fun f=>?_) (fun f=>?_)))))
 ·have hbb:b*b%M<18446744073709551616:=Nat.lt_trans (Nat.mod_lt _ (by decide)) (by decide)
  have h:out<18446744073709551616:=Nat.lt_trans ho (by decide)
  refine Sn (Sq (WC.block (Sq (Sr (Wn 1 rfl (Wa (.andE (m) (1) (m%2) rfl rfl rfl rfl (by omega) (by omega) (mask1 _)) rfl (Wn 1 rfl (Nx (WC.cond rfl (fun i=>?_) (fun i=>?_))))))))))
  ·refine WC.region (Wn 2 rfl (W.cl go244 rfl rfl (times_ok out b h hb wl) ?_))
   rintro _ j ⟨rfl,k⟩
   have l:=Ll.trans k
   refine Wn 1 rfl (Nx (WC.region (Wn 2 rfl (W.cl go244 rfl rfl (times_ok b b hb hb j) ?_))))
   rintro _ o ⟨rfl,c⟩
   have d:=l.trans c
   refine Wn 1 rfl (W.nil (E.blkN (E.thenN (WC.region (Wn 1 rfl (Wa (.shrE (m) (1) (m/2) rfl rfl rfl rfl (by decide) (rfl)) rfl (Wn 1 rfl (W.nil (E.again (b*b%M,m/2,out*b%M) (.of rfl) ?_ ?_)))))))))
   ·exact⟨d,hbb,by omega,Nat.mod_lt _ (by decide),by rw[step1 b m out (by omega)];exact hi⟩
   first|omega|(simp only[];omega)
  refine Sn (WC.region (Wn 2 rfl (W.cl go244 rfl rfl (times_ok b b hb hb wl) ?_)))
  rintro _ o ⟨rfl,c⟩
  have d:=Ll.trans c
  refine Wn 1 rfl (W.nil (E.blkN (E.thenN (WC.region (Wn 1 rfl (Wa (.shrE (m) (1) (m/2) rfl rfl rfl rfl (by decide) (rfl)) rfl (Wn 1 rfl (W.nil (E.again (b*b%M,m/2,out) (.of rfl) ?_ ?_)))))))))
  ·exact⟨d,hbb,by omega,ho,by rw[step0 b m out (by omega)];exact hi⟩
  first|omega|(simp only[];omega)
 have s:m=0:=by omega
 subst s
 rw[pw_end b out ho]at hi
 refine WC.exit (E.thenX (E.thenX (E.blkH (E.thenN (Sr (Wn 2 rfl (Nx (Rt (E.ret1 rfl rfl ?_)))))))))
 exact⟨by rw[hi],Ll⟩

theorem dec1 (x:Nat):decide ((x:Int)=1)=decide (x=1):=decide_eq_decide.2 (by omega)

theorem pright_ok (p:Nat)(hp:p<18446744073709551616)(w:World):Calls prog 75 #[.int .u64 ((p:Nat):Int)] w fun e w'=>e= .returned (.bool (right p))/\Le w w':=by
 refine enter func75 rfl rfl ?_
 have b:=Le.refl w
 refine Sr (Wn 1 rfl (Nx (Sr (Wn 1 rfl ?_))))
 by_cases c:0<p
 ·refine Wa (.dec (.gtr rfl rfl) (dT (by omega))) rfl (Wn 2 rfl ?_)
  by_cases d:p<4611686018427377339
  ·refine Wg (Any.rd (.dec (.lss rfl rfl) (dT (by omega))) _) rfl (Wn 3 rfl (W.efg rfl rfl rfl (rfl) rfl rfl (Ef.call go170 rfl rfl (power_ok p 2305843009213688669 hp (by decide) w) ?_)))
   rintro _ i ⟨rfl,f⟩
   refine⟨_,rfl,?_⟩
   have h:=b.trans f
   refine Wn 3 rfl (Nx (Rt (E.ret1 rfl rfl ?_)))
   exact⟨by rw[right,dT c,dT (show p<M from d),Bool.true_and,Bool.true_and,<-dec1];rfl,h⟩
  refine Wg (Any.rd (.dec (.lss rfl rfl) (dF (by omega))) _) rfl (Wn 7 rfl (Nx (Rt (E.ret1 rfl rfl ?_))))
  exact⟨by rw[right,dF (show¬p<M from d),Bool.and_false,Bool.false_and],b⟩
 refine Wa (.dec (.gtr rfl rfl) (dF (by omega))) rfl (Wn 10 rfl (Nx (Rt (E.ret1 rfl rfl ?_))))
 exact⟨by rw[right,dF c,Bool.false_and,Bool.false_and],b⟩

theorem taken_ok (p:Nat)(hp:p<18446744073709551616)(w:World):Calls prog 172 #[.int .u64 ((p:Nat):Int)] w fun e w'=>e= .returned (.int .u64 ((taken p:Nat):Int))/\Le w w':=by
 refine enter func172 rfl rfl ?_
 have d:=Le.refl w
 refine Sr (Wn 1 rfl (Nx (Sq (Sr (Wn 1 rfl (W.cl go75 rfl rfl (pright_ok p hp w) ?_))))))
 rintro _ h ⟨rfl,f⟩
 have c:=d.trans f
 refine Nx (WC.condB rfl (fun b=>?_) (fun b=>?_))
 ·refine Sr (Wn 2 rfl (Nx (Rt (E.thenR (E.ret1 rfl rfl ?_)))))
  exact⟨by rw[taken,if_pos b],c⟩
 refine Sn (Sr (Wn 1 rfl (Nx (Rt (E.ret1 rfl rfl ?_)))))
 exact⟨by rw[taken,if_neg (by rw[b];simp)];rfl,c⟩

theorem taken_lt (p:Nat):taken p<18446744073709551616:=Nat.lt_trans ((right_iff _).1 (right_taken p)).2.1 (by decide)

theorem scale_ok (p k:Nat)(hp:p<18446744073709551616)(w:World):Calls prog 77 #[.int .u64 ((p:Nat):Int),.int .u64 ((k:Nat):Int)] w fun e w'=>e= .returned (.int .u64 ((scale p k:Nat):Int))/\Le w w':=by
 refine enter func77 rfl rfl ?_
 have b:=Le.refl w
 refine Sr (Wn 1 rfl (Nx (Sr (Wn 1 rfl (W.cl go172 rfl rfl (taken_ok p hp w) ?_)))))
 rintro _ c ⟨rfl,d⟩
 have f:=b.trans d
 refine Wn 1 rfl (Wa (.remN (k) (2305843009213688669) (k%2305843009213688669) rfl rfl rfl rfl (by decide) (rfl)) rfl (W.cl go170 rfl rfl (power_ok (taken p) (k%2305843009213688669) (taken_lt p) (by omega) c) ?_))
 rintro _ j ⟨rfl,h⟩
 have i:=f.trans h
 refine Wn 1 rfl (Nx (Rt (E.ret1 rfl rfl ?_)))
 exact⟨rfl,i⟩

theorem base_ok (k:Nat)(w:World):Calls prog 20 #[.int .u64 ((k:Nat):Int)] w fun e w'=>e= .returned (.int .u64 ((base k:Nat):Int))/\Le w w':=by
 refine enter func20 rfl rfl ?_
 have b:=Le.refl w
 refine Sr (Wn 1 rfl (Nx (Sr (Wn 1 rfl (W.cl go77 rfl rfl (scale_ok 4 k (by decide) w) ?_)))))
 rintro _ f ⟨rfl,c⟩
 have d:=b.trans c
 refine Wn 1 rfl (Nx (Rt (E.ret1 rfl rfl ?_)))
 exact⟨rfl,d⟩

theorem fright_ok (a:Nat)(w:World):Calls prog 134 #[.int .u64 ((a:Nat):Int)] w fun e w'=>e= .returned (.bool (decide (a<q)))/\Le w w':=by
 refine enter func134 rfl rfl (WC.sr (W.run 1 rfl (W.nx (WC.sr (W.run 3 rfl (W.nx (WC.ret (E.ret1 rfl rfl ?_))))))))
 exact⟨rB (decide_eq_decide.2 (by rw[q_def];omega)),(Le.refl w)⟩

theorem from_ok (h:List (BitVec 8))(hh:h.length=32)(w:World):Calls prog 169 #[.agg (h.map u8v).toArray] w fun e w'=>e= .returned (.int .u64 ((fromB h:Nat):Int))/\Le w w':=by
 refine enter func169 rfl rfl ?_
 have b:=Le.refl w
 refine Sr (W.ef rfl rfl rfl (Ef.boxA rfl fun n o s c d=>?_))
 have f:=b.trans d
 refine Wn 1 rfl (Nx (Sr (Wn 1 rfl (Nx (Sq (Sr (Wr (.loadAll ag30 (by simp[hh]) rfl (c)) rfl ?_)))))))
 refine Wn 1 rfl (Nx (WC.block (WC.loop (ι:=Nat) (fun k=>[(6,.agg (h.map u8v).toArray),(7,.int .i64 (k:Int)),(3,.int .u64 ((fromTo 0 (h.take k):Nat):Int))]) (fun k wl=>k<=32/\Le w wl) (fun k=>32-k) 0 ?_ ?_ ?_)))
 ·exact .of rfl
 ·exact⟨by omega,f⟩
 rintro k wl ⟨hk,Ll⟩
 have hlt:fromTo 0 (h.take k)<q-1:=fromTo_lt _ 0 (by decide)
 have t:fromTo 0 (h.take k)<2305843009213688668:=hlt
 refine Sr (Wn 1 rfl (Nx (Sq (WC.cond rfl (fun i=>?_) (fun i=>?_)))))
 ·have hb:h[k]? =some (h.getD k 0):=by rw[List.getElem?_eq_getElem (by omega),List.getD_eq_getElem?_getD,List.getElem?_eq_getElem (by omega)];rfl
  have hbl:=(h.getD k 0).isLt
  refine Sn (Sq (WC.block (Sr (Wa (.as (Any.idxV k underlying30 underlying5 sz5 hh rfl rfl rfl (by omega)) (show u8v (h.getD k 0)=_ from rfl)) rfl (Wn 1 rfl (Nx (WC.region (Wn 1 rfl (Wa (.shrE (fromTo 0 (h.take k)) (56) (fromTo 0 (h.take k)/72057594037927936) rfl rfl rfl rfl (by decide) (rfl)) rfl (Wn 1 rfl (Wa (.shlN (fromTo 0 (h.take k)) (8) (fromTo 0 (h.take k)*256%18446744073709551616) rfl rfl rfl rfl (by decide) (rfl)) rfl ?_)))))))))))
  refine Wn 1 rfl (Wr (.u8to64 (isS underlying5) underlying27 rfl) rfl (Wa (.orE (fromTo 0 (h.take k)*256%18446744073709551616) ((h.getD k 0).toNat) (fromTo 0 (h.take k)*256%18446744073709551616+(h.getD k 0).toNat) rfl rfl rfl rfl (by omega) (by omega) (or_byteM _ _ hbl)) rfl (W.cl go243 rfl rfl (rem64_ok (fromTo 0 (h.take k)/72057594037927936) (fromTo 0 (h.take k)*256%18446744073709551616+(h.getD k 0).toNat) 2305843009213688668 (by decide) (by decide) (by omega) wl) ?_)))
  rintro _ u ⟨rfl,j⟩
  have l:=Ll.trans j
  refine Wn 1 rfl (W.nil (E.blkN (E.thenN (WC.region (Wa (.add rfl rfl (by omega)) rfl (Wn 1 rfl (W.nil (E.again (k+1) (.cons rfl (.cons rfl (.cons' rfl (int_eq (congrArg Nat.cast (by rw[fromTo_snoc h k 0 _ hb,show q-1=2305843009213688668 from rfl];congr 1;omega))) (.nil _)))) ?_ ?_))))))))
  ·exact⟨by omega,l⟩
  first|omega|(simp only[];omega)
 have m:k=32:=by omega
 subst m
 refine WC.exit (E.thenX (E.thenX (E.blkH (E.thenN (Sr (Wn 1 rfl (Wa (.addN (fromTo 0 (h.take 32)) (1) (fromTo 0 (h.take 32)+1) rfl rfl rfl rfl (by omega)) rfl (Wn 1 rfl (Nx (Rt (E.ret1 rfl rfl ?_)))))))))))
 exact⟨by rw[fromB,List.take_of_length_le (by omega)],Ll⟩



end Go.Proofs.YtocheaahlpiajaaGreatDoor

namespace Go.Proofs.YtocheaahlpiajaaGreatDoor
open Tryz
open Go Go.Sx Go.Hsp Go.Num Go.Osp
set_option maxRecDepth 20000
theorem flatten_snoc (ps:List (List Byte))(k:Nat)(q:List Byte)(h:ps[k]? =some q):(ps.take (k+1)).flatten=(ps.take k).flatten++q:=by
  rw[List.take_add_one,h];simp
theorem flatten_take_le:∀(ps:List (List Byte)) (k:Nat),(ps.take k).flatten.length<=ps.flatten.length
  |[],k=>by simp
  |p::ps,0=>by simp
  |p::ps,k+1=>by
    have:=flatten_take_le ps k
    simp only[List.take_succ_cons,List.flatten_cons,List.length_append];omega
theorem grow_ok (m:Nat)(h0:0<m)(hm:m<=1000000)(w:World):Calls prog 226 #[.slice none 0 0,.int .i64 (m:Int)] w fun e w'=>∃A c,e= .returned (.slice A 0 c)/\Own w' w.heap.size 5 1 A 0 c []/\Le w w':=by
 refine enter func226 rfl rfl ?_
 have b:=Le.refl w
 refine Sr (Wn 1 rfl (Nx (Sq (Sr (Wn 2 rfl (Nx (WC.condB rfl (fun h=>absurd h (by simp)) (fun _=>?_))))))))
 refine Sn (Sq (Sr (Wn 2 rfl (Wr (.cap underlying26 rfl rfl) rfl (Wn 1 rfl (Wr (.len underlying26 rfl) rfl (Wa (.sub rfl rfl (by omega)) rfl (Wa (.sub rfl rfl (by omega)) rfl ?_))))))))
 refine Wn 1 rfl (Nx (Sr (Wn 2 rfl (Nx (WC.condB rfl (fun _=>?_) (fun h=>absurd h (by simp;omega)))))))
 refine WC.region (Wn 2 rfl (Wr (.cap underlying26 rfl rfl) rfl (Wa (.cutH (0) underlying26 sz5 rfl rfl (rfl) (by decide)) rfl (Wn 1 rfl (W.ef rfl rfl rfl (Ef.appendZ m underlying26 underlying3 el5 rfl rfl (Own.nil _ _ _ _ _) rfl (by omega) h0 (by omega) (by unfold maxLen;omega) (Nat.le_refl _) ?_))))))
 intro d f i j k n
 have l:Le w i:=b.then_ k (fun q hq=>by simp[rowOf_zero]at hq)
 refine Wn 1 rfl (Wr (.len underlying26 rfl) rfl (Wa (.cutH (0) underlying26 sz5 rfl rfl (rfl) (Nat.zero_le _)) rfl (Wn 1 rfl (Nx (Sr (Wn 2 rfl (Nx (Rt (E.ret1 rfl rfl ?_)))))))))
 exact⟨d,f,rfl,(j.front 0 (Nat.zero_le _)).cast rfl (by simp),l⟩

theorem concat_ok {A:Option Addr}{n c:Nat}{vs:List Value}{ps:List (List Byte)}(w:World)(hV:Sl w 1 A n vs)(hP:Parts w vs ps)(h0:0<ps.flatten.length)(hT:ps.flatten.length<=1000000)(hn:n<=1000):Calls prog 128 #[.slice A n c] w fun e w'=>∃A' c',e= .returned (.slice A' ps.flatten.length c')/\Own w' w.heap.size 5 1 A' ps.flatten.length c' (ps.flatten.map u8v)/\Le w w':=by
 have hvl:=hV.1
 rw[Nat.mul_one]at hvl
 have hpl:=hP.1
 have hgr:∀w,Calls prog 226 #[.slice none 0 0,.int .i64 (((ps.take n).flatten.length:Nat):Int)] w fun e w'=>∃A c,e= .returned (.slice A 0 c)/\Own w' w.heap.size 5 1 A 0 c []/\Le w w':=fun w=>by
  rw[List.take_of_length_le (by omega)]
  exact grow_ok _ h0 hT w
 refine enter func128 rfl rfl (Sr (Wn 1 rfl (Nx (Sr (Wn 1 rfl (Nx (Sq (Sr (Wn 1 rfl (Wr (.len underlying157 rfl) rfl (Wn 1 rfl (Nx (WC.block (WC.loop (ι:=Nat) (fun k=>[(0,.slice A n c),(3,.int .i64 (((ps.take k).flatten.length:Nat):Int)),(9,.slice A n c),(10,.int .i64 (n:Int)),(11,.int .i64 (k:Int))]) (fun k wl=>k<=n/\Le w wl) (fun k=>n-k) 0 ?_ ?_ ?_))))))))))))))
 ·exact .of rfl
 ·exact⟨Nat.zero_le _,(Le.refl w)⟩
 rintro k wl ⟨hk,Ll⟩
 have hle:=flatten_take_le ps k
 refine Sr (Wn 1 rfl (Nx (Sq (WC.cond rfl (fun m=>?_) (fun m=>?_)))))
 ·obtain⟨q,hq⟩:∃q,ps[k]? =some q:=⟨_,List.getElem?_eq_getElem (by omega)⟩
  obtain⟨v,hv⟩:∃v,vs[k]? =some v:=⟨_,List.getElem?_eq_getElem (by omega)⟩
  obtain⟨Aq,cq,rfl,l⟩:=hP.2 k v q hv hq
  have f:=flatten_take_le ps (k+1)
  rw[flatten_snoc ps k q hq,List.length_append]at f
  refine Sn (Sq (WC.block (Sr (Wa (.idxS1 (k) underlying157 sz26 rfl rfl (hV.isSome (j:=k) (by omega) (by decide)) (rfl) (by omega)) rfl (Wr (.loadS na26 rfl (hV.le Ll) (hv)) rfl (Wn 1 rfl (Nx (Sr (Wn 2 rfl (Wr (.len underlying26 rfl) rfl (Wa (.add rfl rfl (by omega)) rfl ?_)))))))))))
  refine Wn 1 rfl (Nx (Sr (Wn 2 rfl (Nx (WC.condB rfl (fun h=>absurd h (by simp;omega)) (fun _=>?_))))))
  refine WC.skip (E.blkN (E.thenN (WC.region (Wa (.add rfl rfl (by omega)) rfl (Wn 1 rfl (W.nil (E.again (k+1) (.cons rfl (.cons' rfl (int_eq (by rw[flatten_snoc ps k q hq,List.length_append,Int.natCast_add])) (.of rfl))) ?_ ?_)))))))
  ·exact⟨by omega,Ll⟩
  first|omega|(simp only[];omega)
 have hkn:n=k:=by omega
 subst hkn
 rw[List.take_of_length_le (by omega)]at hle
 refine WC.exit (E.thenX (E.thenX (E.blkH (E.thenN (Sr (Wn 1 rfl (W.cl go226 rfl rfl (hgr wl) ?_)))))))
 rintro _ I ⟨o,s,rfl,i,t⟩
 have u:=Ll.trans t
 have i:=i.mono Ll.size
 refine Wn 1 rfl (Nx (Sq (Sr (Wn 1 rfl (Wr (.len underlying157 rfl) rfl (Wn 1 rfl (Nx (WC.block (WC.loop (ι:=Nat×Option Addr×Nat) (fun⟨k,b,d⟩=>[(6,.slice b ((ps.take k).flatten.length) d),(25,.slice A n c),(26,.int .i64 (n:Int)),(27,.int .i64 (k:Int))]) (fun⟨k,b,d⟩ wm=>k<=n/\Le w wm/\Own wm w.heap.size 5 1 b ((ps.take k).flatten.length) d ((ps.take k).flatten.map u8v)) (fun⟨k,b,d⟩=>n-k) (0,o,s) ?_ ?_ ?_)))))))))
 ·exact .of rfl
 ·exact⟨Nat.zero_le _,u,i⟩
 rintro⟨k,b,d⟩ wm ⟨hk,Lm,om⟩
 refine Sr (Wn 1 rfl (Nx (Sq (WC.cond rfl (fun x=>?_) (fun x=>?_)))))
 ·obtain⟨q,hq⟩:∃q,ps[k]? =some q:=⟨_,List.getElem?_eq_getElem (by omega)⟩
  obtain⟨v,hv⟩:∃v,vs[k]? =some v:=⟨_,List.getElem?_eq_getElem (by omega)⟩
  obtain⟨Aq,cq,rfl,l⟩:=hP.2 k v q hv hq
  have f:=flatten_take_le ps (k+1)
  rw[flatten_snoc ps k q hq,List.length_append]at f
  refine Sn (Sq (WC.block (Sr (Wa (.idxS1 (k) underlying157 sz26 rfl rfl (hV.isSome (j:=k) (by omega) (by decide)) (rfl) (by omega)) rfl (Wr (.loadS na26 rfl (hV.le Lm) (hv)) rfl (Wn 1 rfl (Nx (WC.region (Wn 2 rfl (W.ef rfl rfl rfl (Ef.append underlying26 el5 rfl (om) rfl ((l.le Lm).src underlying26 _) (by omega) (by unfold maxLen;omega) (Lm.size) ?_)))))))))))
  intro y z C D F J
  have H:Le w C:=Lm.then_ F (fun q hq=>(om.row hq).1)
  refine Wn 1 rfl (W.nil (E.blkN (E.thenN (WC.region (Wa (.add rfl rfl (by omega)) rfl (Wn 1 rfl (W.nil (E.again (k+1,y,z) (.cons' rfl (slice_eq (by rw[flatten_snoc ps k q hq,List.length_append])) (.of rfl)) ?_ ?_))))))))
  ·exact⟨by omega,H,D.cast (by rw[flatten_snoc ps k q hq,List.length_append]) (by rw[flatten_snoc ps k q hq,List.map_append])⟩
  first|omega|(simp only[];omega)
 have hkn:n=k:=by omega
 subst hkn
 rw[List.take_of_length_le (by omega)]at om
 refine WC.exit (E.thenX (E.thenX (E.blkH (E.thenN (Sr (Wn 2 rfl (Nx (Rt (E.ret1 rfl rfl ?_)))))))))
 exact⟨b,d,by rw[List.take_of_length_le (by omega)],om,Lm⟩

end Go.Proofs.YtocheaahlpiajaaGreatDoor

namespace Go.Proofs.YtocheaahlpiajaaGreatDoor
open Tryz
open Go Go.Sx Go.Hsp Go.Num Go.Osp Go.Gsp
set_option maxRecDepth 20000
def polV (p:Pol):List Value:=[.int .i64 p.b,.int .i64 p.p,.int .i64 p.d,.int .i64 p.l,.int .i64 p.m]
theorem polV_row:RowF polV 5:=⟨fun _=>rfl,fun x v hv=>by simp[polV]at hv;rcases hv with rfl|rfl|rfl|rfl|rfl<;>rfl,by decide⟩
def edgeV (e:Gsp.Edge):List Value:=[.int .i64 e.f,.int .i64 e.t,.int .i64 e.c,.int .i64 e.r,.int .i64 e.pol.b,.int .i64 e.pol.p,.int .i64 e.pol.d,.int .i64 e.pol.l,.int .i64 e.pol.m]
theorem edgeV_row:RowF edgeV 9:=⟨fun _=>rfl,fun x v hv=>by simp[edgeV]at hv;rcases hv with rfl|rfl|rfl|rfl|rfl|rfl|rfl|rfl|rfl<;>rfl,by decide⟩
theorem partC_nat (an nn:Nat):partC an nn=if an<=1125899906842624/\an*nn/1000000<=1125899906842624 then(((an*nn/1000000:Nat):Int),true)else(0,false):=by
  have e:(an:Int)*(nn:Int)/1000000=((an*nn/1000000:Nat):Int):=by rw[Int.natCast_ediv,Int.natCast_mul];rfl
  unfold partC
  rw[e]
  by_cases h:an<=1125899906842624/\an*nn/1000000<=1125899906842624
  · rw[if_pos h,if_pos (by simp[coinB,inB];omega)]
  · rw[if_neg h,if_neg (by simp[coinB,inB];omega)]
def orL:List Int->Int
  |[]=>0
  |x::l=>if x≠0 then x else orL l
theorem orL_skip:∀(l:List Int) (k:Nat),(∀j,j<k->l.getD j 0=0)->orL l=orL (l.drop k)
  |_,0,_=>rfl
  |[],k+1,_=>by simp
  |x::l,k+1,h=>by
    have h0:x=0:=h 0 (by omega)
    rw[orL,if_neg (by simp[h0]),List.drop_succ_cons]
    exact orL_skip l k (fun j hj=>h (j+1) (by omega))
theorem gin_ok (n lo hi:Int)(w:World):Calls prog 102 #[.int .i64 (n),.int .i64 (lo),.int .i64 (hi)] w fun r w'=>r= .returned (.bool (inB n lo hi))/\Le w w':=by
 refine enter func102 rfl rfl ?_
 have c:=Le.refl w
 refine Sr (Wn 1 rfl (Nx (Sr (Wn 3 rfl ?_))))
 by_cases b:lo<=n
 ·refine Dt b rfl rfl (Wn 5 rfl (Nx (Rt (E.retG1 rfl rfl ?_))))
  exact⟨rB (by simp[inB,b]),c⟩
 refine Df b rfl rfl (Wn 5 rfl (Nx (Rt (E.retG1 rfl rfl ?_))))
 exact⟨rB (by simp[inB,b]),c⟩

theorem hin_ok (n lo hi:Int)(w:World):Calls prog 144 #[.int .i64 (n),.int .i64 (lo),.int .i64 (hi)] w fun r w'=>r= .returned (.bool (inB n lo hi))/\Le w w':=by
 refine enter func144 rfl rfl ?_
 have c:=Le.refl w
 refine Sr (Wn 1 rfl (Nx (Sr (Wn 3 rfl ?_))))
 by_cases b:lo<=n
 ·refine Dt b rfl rfl (Wn 5 rfl (Nx (Rt (E.retG1 rfl rfl ?_))))
  exact⟨rB (by simp[inB,b]),c⟩
 refine Df b rfl rfl (Wn 5 rfl (Nx (Rt (E.retG1 rfl rfl ?_))))
 exact⟨rB (by simp[inB,b]),c⟩

theorem coins_ok (a:Int)(w:World):Calls prog 207 #[.int .i64 (a)] w fun r w'=>r= .returned (.bool (coinB a))/\Le w w':=by
 refine enter func207 rfl rfl ?_
 have c:=Le.refl w
 refine Sr (Wn 1 rfl (Nx (Sr (Wn 2 rfl ?_))))
 by_cases b:0<=a
 ·refine Dt b rfl rfl (Wn 4 rfl (Nx (Rt (E.retG1 rfl rfl ?_))))
  exact⟨rB (by simp[coinB,inB,b]),c⟩
 refine Df b rfl rfl (Wn 4 rfl (Nx (Rt (E.retG1 rfl rfl ?_))))
 exact⟨rB (by simp[coinB,inB,b]),c⟩

theorem nadd_ok (a b:Int)(w:World):Calls prog 104 #[.int .i64 (a),.int .i64 (b)] w fun r w'=>r= .returned (.tuple #[.int .i64 (addC a b).1,.bool (addC a b).2])/\Le w w':=by
 refine enter func104 rfl rfl (Sr (Wn 2 rfl (Nx (Sq (Sr (Wn 1 rfl (W.cl go207 rfl rfl (coins_ok a w) ?_)))))))
 rintro _ i ⟨rfl,j⟩
 have h:=(Le.refl w).trans j
 refine Wn 1 rfl ?_
 by_cases c:(coinB a)=true
 ·refine Wa (.dec (.move rfl) (congrArg not (c))) rfl (Wn 1 rfl (W.efg rfl rfl rfl (rfl) rfl rfl (Ef.call go207 rfl rfl (coins_ok b i) ?_)))
  rintro _ l ⟨rfl,k⟩
  refine⟨_,rfl,?_⟩
  have f:=h.trans k
  refine Wn 2 rfl ?_
  by_cases d:(coinB b)=true
  ·refine Wa (.dec (.move rfl) (congrArg not (d))) rfl (Wn 2 rfl ?_)
   have m:=inB_T (show inB b 0 1125899906842624=true by assumption)
   refine Wg (Any.rd (.sub rfl rfl (by omega)) _) rfl (Wn 2 rfl (Nx ?_))
   by_cases e:(1125899906842624-b)<a
   ·refine Cy rfl (dT e) (Sr (Wn 2 rfl (Nx (Rt (E.thenR (E.retG2 rfl rfl rfl ?_))))))
    exact⟨(by first|rfl|(simp[addC,c,d,e];done)|(simp[addC,c,d,e];omega)|(simp[addC,c,d,e];split<;>first|(exfalso;omega)|(simp;done)|(simp;omega))),f⟩
   refine Cn rfl (dF e) (Sn (Sr (Wn 2 rfl (Wa (.add rfl rfl (by have:=inB_T (show inB a 0 1125899906842624=true by assumption);have:=inB_T (show inB b 0 1125899906842624=true by assumption);omega)) rfl ?_))))
   refine Wn 2 rfl (Nx (Rt (E.retG2 rfl rfl rfl ?_)))
   exact⟨(by first|rfl|(simp[addC,c,d,e];done)|(simp[addC,c,d,e];omega)|(simp[addC,c,d,e];split<;>first|(exfalso;omega)|(simp;done)|(simp;omega))),f⟩
  refine Wa (.dec (.move rfl) (congrArg not ((Bool.eq_false_iff.2 d)))) rfl (Wn 5 rfl (Nx (WC.condT rfl (Sr (Wn 2 rfl (Nx (Rt (E.thenR (E.retG2 rfl rfl rfl ?_)))))))))
  exact⟨(by first|rfl|(simp[addC,c,d];done)|(simp[addC,c,d];omega)|(simp[addC,c,d];split<;>first|(exfalso;omega)|(simp;done)|(simp;omega))),f⟩
 refine Wa (.dec (.move rfl) (congrArg not ((Bool.eq_false_iff.2 c)))) rfl (Wn 10 rfl (Nx (WC.condT rfl (Sr (Wn 2 rfl (Nx (Rt (E.thenR (E.retG2 rfl rfl rfl ?_)))))))))
 exact⟨(by first|rfl|(simp[addC,c];done)|(simp[addC,c];omega)|(simp[addC,c];split<;>first|(exfalso;omega)|(simp;done)|(simp;omega))),h⟩

theorem npart0_ok (a num:Int)(hn:num<=9223372036854775807)(w:World):Calls prog 273 #[.int .i64 (a),.int .i64 (num),.int .i64 (1000000)] w fun r w'=>∃b:Bool,r= .returned (.tuple #[.int .i64 (partC a num).1,.bool b,.bool (partC a num).2])/\Le w w':=by
 refine enter func273 rfl rfl (Sr (Wn 3 rfl (Nx (Sq (Sr (Wn 1 rfl (W.cl go207 rfl rfl (coins_ok a w) ?_)))))))
 rintro _ k ⟨rfl,l⟩
 have e:=(Le.refl w).trans l
 refine Wn 1 rfl ?_
 by_cases c:(coinB a)=true
 ·refine Wa (.dec (.move rfl) (congrArg not (c))) rfl (Wn 3 rfl ?_)
  by_cases d:num<0
  ·refine Dt d rfl rfl (Wn 3 rfl (Nx (WC.condT rfl (Sr (Wn 3 rfl (Nx (Rt (E.thenR (E.retG3 rfl rfl rfl rfl ?_)))))))))
   exact⟨false,(by first|rfl|(simp[partC,c,d];done)|(simp[partC,c,d];omega)|(simp[partC,c,d];split<;>first|(exfalso;omega)|(simp;done)|(simp;omega))),e⟩
  refine Df d rfl rfl (Wn 1 rfl (Wg (Any.rd (.dec (.lss rfl rfl) (show _=false from by first|decide|rfl)) _) rfl ?_))
  refine Wn 1 rfl (Nx (WC.condF rfl (Sn (Sr (Wn 1 rfl ?_)))))
  have ha:=inB_T (show inB a 0 1125899906842624=true by assumption)
  obtain⟨an,rfl⟩:=Int.eq_ofNat_of_zero_le ha.1
  obtain⟨nn,rfl⟩:=Int.eq_ofNat_of_zero_le (show 0<=num by omega)
  refine Wr (.idI (isS underlying3) underlying27 rfl (IntWalk.u64_in _ (by omega))) rfl (Wn 1 rfl (Wr (.idI (isS underlying3) underlying27 rfl (IntWalk.u64_in _ (by omega))) rfl (W.cl go302 rfl rfl (mul64_ok an nn (by omega) (by omega) k) ?_)))
  rintro _ m ⟨rfl,n⟩
  have f:=e.trans n
  have hdm:an*nn/18446744073709551616*18446744073709551616+an*nn%18446744073709551616=an*nn:=by rw[Nat.mul_comm];exact Nat.div_add_mod _ _
  have hlo:=Nat.mod_lt (an*nn) (show 0<18446744073709551616 by decide)
  generalize hH:an*nn/18446744073709551616=H at*
  generalize hLo:an*nn%18446744073709551616=Lo at*
  refine Wn 5 rfl (Nx (Sq (Sr (Wn 2 rfl (Wr (.idI (isS underlying3) underlying27 rfl (IntWalk.u64_in _ (by omega))) rfl (Wn 1 rfl (Nx ?_)))))))
  by_cases h:1000000<=((H:Nat):Int)
  ·refine Cy rfl (dT h) (Sr (Wn 3 rfl (Nx (Rt (E.thenR (E.retG3 rfl rfl rfl rfl ?_))))))
   exact⟨false,by rw[partC_nat];first|(rw[if_neg (by omega)];done)|(rw[if_pos (by omega),hQ]),f⟩
  refine Cn rfl (dF h) (Sn (Sr (Wn 3 rfl (Wr (.idI (isS underlying3) underlying27 rfl (IntWalk.u64_in _ (by omega))) rfl (W.cl go301 rfl rfl (div64_q44 H Lo 1000000 (by decide) (by decide) (by omega) hlo m) ?_)))))
  rintro _ s ⟨rfl,o⟩
  have i:=f.trans o
  rw[hdm]
  generalize hQ:an*nn/1000000=Qn at*
  generalize hRm:an*nn%1000000=Rm at*
  refine Wn 5 rfl (Nx (Sq (Sr (Wn 2 rfl (Nx ?_)))))
  by_cases j:1125899906842624<((Qn:Nat):Int)
  ·refine Cy rfl (dT j) (Sr (Wn 3 rfl (Nx (Rt (E.thenR (E.retG3 rfl rfl rfl rfl ?_))))))
   exact⟨false,by rw[partC_nat];first|(rw[if_neg (by omega)];done)|(rw[if_pos (by omega),hQ]),i⟩
  refine Cn rfl (dF j) (Sn (Sr (Wn 1 rfl (Wr (.idI (isS underlying27) underlying3 rfl (IntWalk.i64_in _ (by omega))) rfl (Wn 5 rfl (Nx (Rt (E.retG3 rfl rfl rfl rfl ?_))))))))
  exact⟨decide (0<((Rm:Nat):Int)),by rw[partC_nat];first|(rw[if_neg (by omega)];done)|(rw[if_pos (by omega),hQ]),i⟩
 refine Wa (.dec (.move rfl) (congrArg not ((Bool.eq_false_iff.2 c)))) rfl (Wn 7 rfl (Nx (WC.condT rfl (Sr (Wn 3 rfl (Nx (Rt (E.thenR (E.retG3 rfl rfl rfl rfl ?_)))))))))
 exact⟨false,by simp[partC,c],e⟩

theorem npart_ok (a num:Int)(hn:num<=9223372036854775807)(w:World):Calls prog 205 #[.int .i64 (a),.int .i64 (num),.int .i64 (1000000)] w fun r w'=>r= .returned (.tuple #[.int .i64 (partC a num).1,.bool (partC a num).2])/\Le w w':=by
 refine enter func205 rfl rfl (Sr (Wn 2 rfl (Nx (Sr (Wn 3 rfl (W.cl go273 rfl rfl (npart0_ok a num hn w) ?_))))))
 rintro _ c ⟨bb,rfl,b⟩
 refine Wn 7 rfl (Nx (Sr (Wn 4 rfl (Nx (Rt (E.retG2 rfl rfl rfl ?_))))))
 exact⟨rfl,((Le.refl w).trans b)⟩

theorem hright_ok (p:Pol)(w:World):Calls prog 206 #[.agg (polV p).toArray] w fun r w'=>r= .returned (.bool (polOk p))/\Le w w':=by
 refine enter func206 rfl rfl (Sr (W.ef rfl rfl rfl (Ef.boxA rfl fun D j N (k:Blk j D 79 (polV p).toArray) F=>(Wn 1 rfl (Nx (Sr (Wa (.field0 fa79_0 rfl) rfl (Wr (.loadB (v:= .int .i64 (p.b)) na3 rfl k rfl) rfl ?_))))))))
 refine W.cl go144 rfl rfl (hin_ok p.b 0 1125899906842624 j) ?_
 rintro _ H ⟨rfl,n⟩
 have o:=((Le.refl w).trans F).trans n
 by_cases c:(inB p.b 0 1125899906842624)=true
 ·refine Wa (.dec (.move rfl) (c)) rfl (Wg (Any.rd (.field0 fa79_3 rfl) _) rfl ?_)
  have i:=(k.le n)
  refine Wg (.loadB (v:= .int .i64 (p.l)) na3 rfl i rfl) rfl (Wg (Any.rd (.field0 fa79_4 rfl) _) rfl (Wg (.loadB (v:= .int .i64 (p.m)) na3 rfl i rfl) rfl (W.efg rfl rfl rfl (rfl) rfl rfl (Ef.call go144 rfl rfl (hin_ok p.l 0 p.m H) ?_))))
  rintro _ I ⟨rfl,s⟩
  refine⟨_,rfl,?_⟩
  have t:=o.trans s
  refine Wn 1 rfl ?_
  by_cases e:(inB p.l 0 p.m)=true
  ·refine Wa (.dec (.move rfl) (e)) rfl (Wg (Any.rd (.field0 fa79_4 rfl) _) rfl ?_)
   have u:=(i.le s)
   refine Wg (.loadB (v:= .int .i64 (p.m)) na3 rfl u rfl) rfl (W.efg rfl rfl rfl (rfl) rfl rfl (Ef.call go144 rfl rfl (hin_ok p.m 0 1125899906842624 I) ?_))
   rintro _ J ⟨rfl,x⟩
   refine⟨_,rfl,?_⟩
   have y:=t.trans x
   refine Wn 1 rfl ?_
   by_cases f:(inB p.m 0 1125899906842624)=true
   ·refine Wa (.dec (.move rfl) (f)) rfl (Wg (Any.rd (.field0 fa79_1 rfl) _) rfl ?_)
    have z:=(u.le x)
    refine Wg (.loadB (v:= .int .i64 (p.p)) na3 rfl z rfl) rfl (W.efg rfl rfl rfl (rfl) rfl rfl (Ef.call go144 rfl rfl (hin_ok p.p 0 1000000 J) ?_))
    rintro _ K ⟨rfl,A⟩
    refine⟨_,rfl,?_⟩
    have C:=y.trans A
    refine Wn 1 rfl ?_
    by_cases h:(inB p.p 0 1000000)=true
    ·refine Wa (.dec (.move rfl) (h)) rfl (Wg (Any.rd (.field0 fa79_2 rfl) _) rfl (Wg (.loadB (v:= .int .i64 (p.d)) na3 rfl (z.le A) rfl) rfl (W.efg rfl rfl rfl (rfl) rfl rfl (Ef.call go144 rfl rfl (hin_ok p.d 0 1048576 K) ?_))))
     rintro _ O ⟨rfl,L⟩
     refine⟨_,rfl,?_⟩
     refine Wn 2 rfl (Nx (Rt (E.retG1 rfl rfl ?_)))
     exact⟨rB (by simp[polOk,c,e,f,h]),(C.trans L)⟩
    refine Wa (.dec (.move rfl) ((Bool.eq_false_iff.2 h))) rfl (Wn 5 rfl (Nx (Rt (E.retG1 rfl rfl ?_))))
    exact⟨rB (by simp[polOk,c,e,f,h]),C⟩
   refine Wa (.dec (.move rfl) ((Bool.eq_false_iff.2 f))) rfl (Wn 10 rfl (Nx (Rt (E.retG1 rfl rfl ?_))))
   exact⟨rB (by simp[polOk,c,e,f]),y⟩
  refine Wa (.dec (.move rfl) ((Bool.eq_false_iff.2 e))) rfl (Wn 15 rfl (Nx (Rt (E.retG1 rfl rfl ?_))))
  exact⟨rB (by simp[polOk,c,e]),t⟩
 refine Wa (.dec (.move rfl) ((Bool.eq_false_iff.2 c))) rfl (Wn 22 rfl (Nx (Rt (E.retG1 rfl rfl ?_))))
 exact⟨rB (by simp[polOk,c]),o⟩

theorem hfee_ok (p:Pol)(a:Int)(hp:PolI p)(w:World):Calls prog 103 #[.agg (polV p).toArray,.int .i64 (a)] w fun r w'=>r= .returned (.tuple #[.int .i64 (feeG p a).1,.bool (feeG p a).2])/\Le w w':=by
 have u:=hp.2.1
 refine enter func103 rfl rfl (Sr (W.ef rfl rfl rfl (Ef.boxA rfl fun m e x (f:Blk e m 79 (polV p).toArray) n=>(Wn 2 rfl (Nx (Sr (Wn 1 rfl (Wa (.field0 fa79_1 rfl) rfl (Wr (.loadB (v:= .int .i64 (p.p)) na3 rfl f rfl) rfl ?_)))))))))
 refine W.cl go205 rfl rfl (npart_ok a p.p (by omega) e) ?_
 rintro _ o ⟨rfl,h⟩
 have i:=((Le.refl w).trans n).trans h
 refine Wn 5 rfl (Nx (Sq (Sr (Wn 2 rfl ?_))))
 by_cases c:((partC a p.p).2)=true
 ·refine Wa (.dec (.move rfl) (congrArg not (c))) rfl ?_
  have j:=(f.le h)
  refine Wg (.loadAll ag79 (by rfl) rfl j) rfl ?_
  refine W.efg rfl rfl rfl (rfl) rfl rfl (Ef.call go206 rfl rfl (hright_ok p o) ?_)
  rintro _ s ⟨rfl,k⟩
  refine⟨_,rfl,?_⟩
  have l:=i.trans k
  refine Wn 2 rfl (Nx ?_)
  by_cases d:(polOk p)=true
  ·refine Cn rfl (congrArg not (d)) (Sn (Sr (Wa (.field0 fa79_0 rfl) rfl (Wr (.loadB (v:= .int .i64 (p.b)) na3 rfl (j.le k) rfl) rfl (Wn 1 rfl (W.cl go104 rfl rfl (nadd_ok p.b ((partC a p.p).1) s) ?_))))))
   rintro _ y ⟨rfl,t⟩
   refine Wn 4 rfl (Nx (Rt (E.retG2 rfl rfl rfl ?_)))
   exact⟨(by first|rfl|(simp[feeG,c,d];done)|(simp[feeG,c,d];omega)|(simp[feeG,c,d];split<;>first|(exfalso;omega)|(simp;done)|(simp;omega))),(l.trans t)⟩
  refine Cy rfl (congrArg not ((Bool.eq_false_iff.2 d))) (Sr (Wn 2 rfl (Nx (Rt (E.thenR (E.retG2 rfl rfl rfl ?_))))))
  exact⟨(by first|rfl|(simp[feeG,c,d];done)|(simp[feeG,c,d];omega)|(simp[feeG,c,d];split<;>first|(exfalso;omega)|(simp;done)|(simp;omega))),l⟩
 refine Wa (.dec (.move rfl) (congrArg not ((Bool.eq_false_iff.2 c)))) rfl (Wn 4 rfl (Nx (WC.condT rfl (Sr (Wn 2 rfl (Nx (Rt (E.thenR (E.retG2 rfl rfl rfl ?_)))))))))
 exact⟨(by first|rfl|(simp[feeG,c];done)|(simp[feeG,c];omega)|(simp[feeG,c];split<;>first|(exfalso;omega)|(simp;done)|(simp;omega))),i⟩

theorem edge_ok (e:Gsp.Edge)(w:World):Calls prog 160 #[.agg (edgeV e).toArray] w fun r w'=>r= .returned (.bool (edgeOk e))/\Le w w':=by
 refine enter func160 rfl rfl (Sr (W.ef rfl rfl rfl (Ef.boxA rfl fun F m O (n:Blk m F 81 (edgeV e).toArray) H=>(Wn 1 rfl (Nx (Sr (Wa (.field0 fa81_0 rfl) rfl (Wr (.loadB (v:= .int .i64 (e.f)) na3 rfl n rfl) rfl ?_))))))))
 refine W.cl go102 rfl rfl (gin_ok e.f 0 11 m) ?_
 rintro _ I ⟨rfl,o⟩
 have s:=((Le.refl w).trans H).trans o
 by_cases b:(inB e.f 0 11)=true
 ·refine Wa (.dec (.move rfl) (b)) rfl (Wg (Any.rd (.field0 fa81_1 rfl) _) rfl ?_)
  have u:=(n.le o)
  refine Wg (.loadB (v:= .int .i64 (e.t)) na3 rfl u rfl) rfl (W.efg rfl rfl rfl (rfl) rfl rfl (Ef.call go102 rfl rfl (gin_ok e.t 0 11 I) ?_))
  rintro _ J ⟨rfl,x⟩
  refine⟨_,rfl,?_⟩
  have l:=s.trans x
  refine Wn 1 rfl ?_
  by_cases d:(inB e.t 0 11)=true
  ·refine Wa (.dec (.move rfl) (d)) rfl (Wg (Any.rd (.field0 fa81_0 rfl) _) rfl ?_)
   have j:=(u.le x)
   refine Wg (.loadB (v:= .int .i64 (e.f)) na3 rfl j rfl) rfl (Wg (Any.rd (.field0 fa81_1 rfl) _) rfl (Wg (.loadB (v:= .int .i64 (e.t)) na3 rfl j rfl) rfl (Wn 2 rfl ?_)))
   by_cases h:e.f≠e.t
   ·refine Dt h rfl rfl (Wg (Any.rd (.field0 fa81_2 rfl) _) rfl (Wg (.loadB (v:= .int .i64 (e.c)) na3 rfl j rfl) rfl (W.efg rfl rfl rfl (rfl) rfl rfl (Ef.call go102 rfl rfl (gin_ok e.c 0 39 J) ?_))))
    rintro _ K ⟨rfl,y⟩
    refine⟨_,rfl,?_⟩
    have z:=l.trans y
    refine Wn 1 rfl ?_
    by_cases i:(inB e.c 0 39)=true
    ·refine Wa (.dec (.move rfl) (i)) rfl (Wg (Any.rd (.field0 fa81_3 rfl) _) rfl ?_)
     have A:=(j.le y)
     refine Wg (.loadB (v:= .int .i64 (e.r)) na3 rfl A rfl) rfl (W.efg rfl rfl rfl (rfl) rfl rfl (Ef.call go102 rfl rfl (gin_ok e.r 1 1125899906842624 K) ?_))
     rintro _ L ⟨rfl,C⟩
     refine⟨_,rfl,?_⟩
     have D:=z.trans C
     refine Wn 1 rfl ?_
     by_cases k:(inB e.r 1 1125899906842624)=true
     ·refine Wa (.dec (.move rfl) (k)) rfl (Wg (Any.rd (.field0 fa81_4 rfl) _) rfl (Wg (.bpart (polV e.pol) ag79 rfl (by decide) rfl (A.le C) rfl) rfl (W.efg rfl rfl rfl (rfl) rfl rfl (Ef.call go206 rfl rfl (hright_ok e.pol L) ?_))))
      rintro _ P ⟨rfl,N⟩
      refine⟨_,rfl,?_⟩
      refine Wn 2 rfl (Nx (Rt (E.retG1 rfl rfl ?_)))
      exact⟨rB (by simp[edgeOk,b,d,h,i,k]),(D.trans N)⟩
     refine Wa (.dec (.move rfl) ((Bool.eq_false_iff.2 k))) rfl (Wn 5 rfl (Nx (Rt (E.retG1 rfl rfl ?_))))
     exact⟨rB (by simp[edgeOk,b,d,h,i,k]),D⟩
    refine Wa (.dec (.move rfl) ((Bool.eq_false_iff.2 i))) rfl (Wn 10 rfl (Nx (Rt (E.retG1 rfl rfl ?_))))
    exact⟨rB (by simp[edgeOk,b,d,h,i]),z⟩
   refine Df h rfl rfl (Wn 15 rfl (Nx (Rt (E.retG1 rfl rfl ?_))))
   exact⟨rB (by simp[edgeOk,b,d,h]),l⟩
  refine Wa (.dec (.move rfl) ((Bool.eq_false_iff.2 d))) rfl (Wn 22 rfl (Nx (Rt (E.retG1 rfl rfl ?_))))
  exact⟨rB (by simp[edgeOk,b,d]),l⟩
 refine Wa (.dec (.move rfl) ((Bool.eq_false_iff.2 b))) rfl (Wn 27 rfl (Nx (Rt (E.retG1 rfl rfl ?_))))
 exact⟨rB (by simp[edgeOk,b]),s⟩

theorem isNaN_ok (a:Int)(w:World):Calls prog 278 #[.int .i64 (a)] w fun r w'=>r= .returned (.bool false)/\Le w w':=by
 refine enter func278 rfl rfl (WC.sr (W.run 1 rfl (W.nx (WC.sr (W.run 4 rfl (W.nx (WC.ret (E.retG1 rfl rfl ?_))))))))
 exact⟨by simp,(Le.refl w)⟩

theorem compare_ok (a b:Int)(w:World):Calls prog 212 #[.int .i64 (a),.int .i64 (b)] w fun r w'=>r= .returned (.int .i64 (cmpI a b))/\Le w w':=by
 refine enter func212 rfl rfl (Sr (Wn 1 rfl (Nx (Sr (Wn 1 rfl (W.cl go278 rfl rfl (isNaN_ok a w) ?_))))))
 rintro _ f ⟨rfl,h⟩
 refine Wn 1 rfl (Nx (Sr (Wn 1 rfl (W.cl go278 rfl rfl (isNaN_ok b f) ?_))))
 rintro _ j ⟨rfl,i⟩
 have e:=((Le.refl w).trans h).trans i
 refine Wn 1 rfl (Nx (Sq (Sr (Wn 1 rfl (Nx (WC.condF rfl (Sn (Sq (Sr (Wn 1 rfl (Nx (WC.condF rfl (Sn (Sq (Sr (Wn 3 rfl (Nx ?_)))))))))))))))))
 by_cases c:a<b
 ·refine Cy rfl (dT c) (Sr (Wn 1 rfl (Nx (Rt (E.thenR (E.retG1 rfl rfl ?_))))))
  exact⟨(by first|rfl|(simp[cmpI,c];done)|(simp[cmpI,c];omega)|(simp[cmpI,c];split<;>first|(exfalso;omega)|(simp;done)|(simp;omega))),e⟩
 refine Cn rfl (dF c) (Sn (Sq (Sr (Wn 3 rfl (Nx ?_)))))
 by_cases d:b<a
 ·refine Cy rfl (dT d) (Sr (Wn 1 rfl (Nx (Rt (E.thenR (E.retG1 rfl rfl ?_))))))
  exact⟨(by first|rfl|(simp[cmpI,c,d];done)|(simp[cmpI,c,d];omega)|(simp[cmpI,c,d];split<;>first|(exfalso;omega)|(simp;done)|(simp;omega))),e⟩
 refine Cn rfl (dF d) (Sn (Sr (Wn 1 rfl (Nx (Rt (E.retG1 rfl rfl ?_))))))
 exact⟨(by first|rfl|(simp[cmpI,c,d];done)|(simp[cmpI,c,d];omega)|(simp[cmpI,c,d];split<;>first|(exfalso;omega)|(simp;done)|(simp;omega))),e⟩

theorem or2_ok {A:Option Addr}{n c:Nat}{xs:List Int}(w:World)(hV:Vec w iv 1 A n xs)(hn:n<=1000000):Calls prog 219 #[.slice A n c] w fun r w'=>r= .returned (.int .i64 (orL xs))/\Le w w':=by
 have hl:=hV.1
 refine enter func219 rfl rfl (Sr (Wn 1 rfl (Nx (Sr (Wn 1 rfl (Nx (Sq (Sr (Wn 1 rfl (Wr (.len underlying23 rfl) rfl (Wn 1 rfl (Nx (WC.block (WC.loop (ι:=Nat) (fun k=>[(3,.int .i64 (0)),(6,.slice A n c),(7,.int .i64 (((n:Nat):Int))),(8,.int .i64 (((k:Nat):Int)))]) (fun k e=>(k<=n)/\(∀j,j<k->xs.getD j 0=0)/\Le w e/\w.heap.size<=e.heap.size) (fun k=>n-k) 0 ?_ ?_ ?_))))))))))))))
 ·exact .of rfl
 ·exact⟨Nat.zero_le _,fun j hj=>absurd hj (Nat.not_lt_zero _),(Le.refl w),Nat.le_refl _⟩
 rintro k e ⟨hk,hz,b,i⟩
 refine Sr (Wn 1 rfl (Nx (Sq ?_)))
 by_cases f:((k:Nat):Int)<((n:Nat):Int)
 ·refine Cy rfl (dT f) (Sn (Sq (WC.block (Sr (Wa (.idxS (k) underlying23 sz3 rfl rfl (hV.isSome iv_row (by omega)) (rfl) (by omega)) rfl (Wr (.vone (v:= .int .i64 ((xs.getD k 0))) na3 rfl (hV.le b) iv_row (getS xs 0 (by omega)) rfl) rfl (Wn 1 rfl (Nx (Sr (Wn 3 rfl (Nx ?_)))))))))))
  by_cases d:(xs.getD k 0)≠0
  ·refine Cy rfl (dT d) (Sr (Wn 2 rfl (Nx (Rt (E.blkR (E.thenR (E.thenR (E.blkR (E.thenR (E.retG1 rfl rfl ?_))))))))))
   exact⟨by rw[orL_skip xs k hz,List.drop_eq_getElem_cons (by omega),orL,if_pos (by simpa[List.getD,show k<xs.length by omega]using d)];simp[List.getD,show k<xs.length by omega],b⟩
  refine Cn rfl (dF d) (WC.skip (E.blkN (E.thenN (WC.region (Wa (.add rfl rfl (by omega)) rfl (Wn 1 rfl (W.nil (E.again (k+1) (.of rfl) ?_ ?_))))))))
  ·exact⟨by omega,fun j hj=>by rcases Nat.lt_or_ge j k with h|h;exact hz j h;rw[show j=k by omega];exact Decidable.not_not.1 d,b,by have:=i;omega⟩
  first|omega|(simp only[];omega)
 refine Cn rfl (dF f) (WC.exit (E.thenX (E.thenX (E.blkH (E.thenN (Sr (Wn 2 rfl (Nx (Rt (E.retG1 rfl rfl ?_))))))))))
 exact⟨by rw[orL_skip xs k hz,List.drop_of_length_le (by omega)];rfl,b⟩

theorem order_ok (a b:Gsp.Edge)(w:World):Calls prog 162 #[.agg (edgeV a).toArray,.agg (edgeV b).toArray] w fun r w'=>r= .returned (.int .i64 (ordE a b))/\Le w w':=by
 refine enter func162 rfl rfl (Sr (W.ef rfl rfl rfl (Ef.boxA rfl fun t u K (x:Blk u t 81 (edgeV a).toArray) y=>(W.ef rfl rfl rfl (Ef.boxA rfl fun z A L (C:Blk A z 81 (edgeV b).toArray) i=>(Wn 1 rfl (Nx (Sq ?_))))))))
 refine WC.draw [0,1,2,3,5,6,7,8,4,9,10,11,12] mixed (by kernel_rfl) fun D d=>(Ga rfl (.field0 fa81_2 rfl) ?_)
 have j:=(x.le (i.trans d))
 refine Gd rfl (.loadB (v:= .int .i64 (a.c)) na3 rfl j rfl) (Ga rfl (.field0 fa81_2 rfl) ?_)
 have k:=(C.le d)
 refine Gd rfl (.loadB (v:= .int .i64 (b.c)) na3 rfl k rfl) (Ga rfl (.field0 fa81_0 rfl) (Gd rfl (.loadB (v:= .int .i64 (a.f)) na3 rfl j rfl) (Ga rfl (.field0 fa81_0 rfl) (Gd rfl (.loadB (v:= .int .i64 (b.f)) na3 rfl k rfl) (G.ef rfl rfl rfl rfl rfl ?_)))))
 refine Ef.call go212 rfl rfl (compare_ok a.c b.c D) ?_
 rintro _ F ⟨rfl,l⟩
 refine⟨_,rfl,?_⟩
 refine⟨fun _=>l,?_⟩
 refine G.ef rfl rfl rfl rfl rfl (Ef.call go212 rfl rfl (compare_ok a.f b.f F) ?_)
 rintro _ H ⟨rfl,m⟩
 refine⟨_,rfl,?_⟩
 refine⟨fun _=>m,?_⟩
 refine G.ef rfl rfl rfl rfl rfl (Ef.buildSliceV (len:=2) [_,_] underlying23 el3 rfl (by simp[Value.cells]) rfl (by decide) (by decide) ?_)
 intro n e I h o
 refine⟨fun _=>o,?_⟩
 have h:Blk e n 3 (([(cmpI a.c b.c),(cmpI a.f b.f)]).map iv).flatten.toArray:=h
 have J:OVec e H.heap.size 3 iv 1 (some ⟨n,0,none⟩) 2 2 ([(cmpI a.c b.c),(cmpI a.f b.f)]):=h.ovec I iv_row rfl rfl (by decide)
 refine G.ef rfl rfl rfl rfl rfl (Ef.call go219 rfl rfl (or2_ok e J.vec (by decide)) ?_)
 rintro _ N ⟨rfl,s⟩
 refine⟨_,rfl,?_⟩
 refine⟨fun _=>s,?_⟩
 refine Gn 1 rfl (G.nil (E.thenN (Rt (E.retG1 rfl rfl ?_))))
 exact⟨by simp only[orL,ordE];split<;>first|rfl|(split<;>simp_all),((((((((Le.refl w).trans y).trans i).trans d).trans l).trans m).trans o).trans s)⟩
end Go.Proofs.YtocheaahlpiajaaGreatDoor

namespace Go.Proofs.YtocheaahlpiajaaGreatDoor
open Tryz
open Go Go.Sx Go.Hsp Go.Num Go.Osp Go.Gsp
set_option maxRecDepth 20000
theorem filter_T {pr:Gsp.Edge->Bool}(xs:List Gsp.Edge)(k:Nat)(hk:k<xs.length)(h:pr (xs.getD k noEdge)=true):(xs.take k).filter pr++[xs.getD k noEdge]=(xs.take (k+1)).filter pr:=by
  rw[List.take_add_one,getS xs noEdge hk,List.filter_append]
  simp[List.filter_cons,-List.getD_eq_getElem?_getD,h]
theorem filter_F {pr:Gsp.Edge->Bool}(xs:List Gsp.Edge)(k:Nat)(hk:k<xs.length)(h:¬pr (xs.getD k noEdge)=true):(xs.take k).filter pr=(xs.take (k+1)).filter pr:=by
  rw[List.take_add_one,getS xs noEdge hk,List.filter_append]
  simp[List.filter_cons,-List.getD_eq_getElem?_getD,h]
def idxE (pr:Gsp.Edge->Bool)(xs:List Gsp.Edge):Int:=if xs.any pr then(xs.findIdx pr:Int)else-1
theorem idxE_at {pr:Gsp.Edge->Bool}{xs:List Gsp.Edge}{k:Nat}(hk:k<xs.length)(hb:∀j,j<k->¬pr (xs.getD j noEdge)=true)(h:pr (xs.getD k noEdge)=true):(k:Int)=idxE pr xs:=by
  have hx:xs.getD k noEdge=xs[k]:=by simp[List.getD,hk]
  have:xs.findIdx pr=k:=by
    rw[List.findIdx_eq hk]
    exact⟨by rw[<-hx];exact h,fun j hj=>by have:=hb j hj;simpa[List.getD,show j<xs.length by omega]using this⟩
  rw[idxE,if_pos (by rw[List.any_eq_true];exact⟨xs[k],List.getElem_mem hk,by rw[<-hx];exact h⟩),this]
theorem idxE_no {pr:Gsp.Edge->Bool}{xs:List Gsp.Edge}{k:Nat}(hk:xs.length<=k)(hb:∀j,j<k->j<xs.length->¬pr (xs.getD j noEdge)=true): -1=idxE pr xs:=by
  rw[idxE,if_neg]
  rw[List.any_eq_true]
  rintro⟨y,hy,hp⟩
  obtain⟨j,hj,rfl⟩:=List.mem_iff_getElem.1 hy
  exact hb j (by omega) hj (by simpa[List.getD,hj]using hp)
def Been (bs:List Bool)(xs:List Gsp.Edge)(k:Nat):Prop:=∀v:Nat,v<12->(bs.getD v false=true↔∃j,j<k/\((xs.getD j noEdge).f=(v:Int)\/(xs.getD j noEdge).t=(v:Int)))
theorem been_first (xs:List Gsp.Edge):Been (List.replicate 12 false) xs 0:=fun v hv=>⟨fun h=>absurd h (by rw[show(List.replicate 12 false).getD v false=false from(show∀v,v<12->(List.replicate 12 false).getD v false=false by decide) v hv];decide),fun⟨j,hj,_⟩=>absurd hj (Nat.not_lt_zero _)⟩
theorem been_next {bs:List Bool}{xs:List Gsp.Edge}{k:Nat}(hb:bs.length=12)(h1:edgeOk (xs.getD k noEdge)=true)(hd:Been bs xs k):Been ((bs.set (xs.getD k noEdge).f.toNat true).set (xs.getD k noEdge).t.toNat true) xs (k+1):=by
  have hok:=edgeOk_T h1
  intro v hv
  have e:((bs.set (xs.getD k noEdge).f.toNat true).set (xs.getD k noEdge).t.toNat true).getD v false=true↔((xs.getD k noEdge).t.toNat=v\/(xs.getD k noEdge).f.toNat=v\/bs.getD v false=true):=by
    simp only[List.getD,List.getElem?_set,List.length_set,hb]
    by_cases b:(xs.getD k noEdge).t.toNat=v
    · simp only[List.getD]at b;simp[b,hv]
    · by_cases c:(xs.getD k noEdge).f.toNat=v
      · simp only[List.getD]at b c;simp[b,c,hv]
      · simp only[List.getD]at b c;simp[b,c]
  rw[e,hd v hv]
  constructor
  · rintro(h|h|⟨j,hj,h⟩)
    · exact⟨k,by omega,.inr (by omega)⟩
    · exact⟨k,by omega,.inl (by omega)⟩
    · exact⟨j,by omega,h⟩
  · rintro⟨j,hj,h⟩
    by_cases hjk:j=k
    · subst hjk;rcases h with h|h<;>omega
    · exact .inr (.inr ⟨j,by omega,h⟩)
theorem way_next {bs:List Bool}{xs:List Gsp.Edge}{k:Nat}(hz:∀j,j<k->WayAt xs j)(h1:edgeOk (xs.getD k noEdge)=true)(hl:0<k->(xs.getD (k-1) noEdge).t=(xs.getD k noEdge).f)(hd:Been bs xs k)(hn:¬bs.getD (xs.getD k noEdge).t.toNat false=true):∀j,j<k+1->WayAt xs j:=by
  intro j hj
  by_cases hjk:j=k
  · subst hjk
    have hok:=edgeOk_T h1
    refine⟨h1,hl,fun q hq he=>?_⟩
    by_cases hqj:q=j
    · subst hqj;exact hok.2.2.1 he
    · exact hn ((hd _ (by omega)).2 ⟨q,by omega,.inl (by omega)⟩)
  · exact hz j (by omega)
theorem way_fail {bs:List Bool}{xs:List Gsp.Edge}{k:Nat}(hz:∀j,j<k->WayAt xs j)(hd:Been bs xs k)(hn:bs.getD (xs.getD k noEdge).t.toNat false=true):¬WayAt xs k:=fun⟨b,hl,hw⟩=>by
  have hok:=edgeOk_T b
  obtain⟨j,hj,h|h⟩:=(hd _ (by omega)).1 hn
  · exact hw j (by omega) (by omega)
  · have c:(xs.getD (j+1) noEdge).f=(xs.getD j noEdge).t:=by
      by_cases hjk:j+1=k
      · have:=hl (by omega);rw[show k-1=j by omega]at this;rw[hjk];exact this.symm
      · have:=(hz (j+1) (by omega)).2.1 (by omega);rw[show j+1-1=j by omega]at this;exact this.symm
    exact hw (j+1) (by omega) (by rw[c];omega)
theorem those_ok {A:Option Addr}{n c:Nat}{xs:List Gsp.Edge}{F:Nat}{caps:Array Value}(pr:Gsp.Edge->Bool)(hgo:IsGo prog F)(w:World)(hV:Vec w edgeV 9 A n xs)(hn:n<=1000000)(hf:∀(e:Gsp.Edge) (w1:World),Le w w1->Calls prog F (#[.agg (edgeV e).toArray]++caps) w1 fun r w2=>r= .returned (.bool (pr e))/\Le w1 w2):Calls prog 159 #[.slice A n c,.func (.func F) #[] caps] w fun r w'=>∃A' c',r= .returned (.slice A' (xs.filter pr).length c')/\OVec w' w.heap.size 81 edgeV 9 A' (xs.filter pr).length c' (xs.filter pr)/\Le w w':=by
 have hl:=hV.1
 refine enter func159 rfl rfl ?_
 have u:=Le.refl w
 refine Sr (Wn 1 rfl (Nx (Sr (Wn 1 rfl (Nx (Sq (Sr (Wn 1 rfl (Wr (.len underlying32 rfl) rfl (Wn 1 rfl (Nx (WC.block (WC.loop (ι:=Nat×(Option Addr)×Nat) (fun⟨k,Aa,ca⟩=>[(1,.func (.func F) #[] caps),(5,.slice Aa (((xs.take k).filter pr).length) ca),(8,.slice A n c),(9,.int .i64 (((n:Nat):Int))),(10,.int .i64 (((k:Nat):Int)))]) (fun⟨k,Aa,ca⟩ i=>(k<=n)/\Le w i/\w.heap.size<=i.heap.size/\OVec i w.heap.size 81 edgeV 9 Aa (((xs.take k).filter pr).length) ca ((xs.take k).filter pr)) (fun⟨k,Aa,ca⟩=>n-k) (0,none,0) ?_ ?_ ?_)))))))))))))
 ·exact .of rfl
 ·exact⟨by omega,u,Nat.le_refl _,(OVec.nil w w.heap.size 81 edgeV 9 none)⟩
 rintro⟨k,Aa,ca⟩ i ⟨hk,l,v,j⟩
 have K:w.heap.size<=i.heap.size:=by omega
 refine Sr (Wn 1 rfl (Nx (Sq ?_)))
 by_cases x:((k:Nat):Int)<((n:Nat):Int)
 ·refine Cy rfl (dT x) (Sn (Sq (WC.block (Sr (Wa (.idxS (k) underlying32 sz81 rfl rfl (hV.isSome edgeV_row (by omega)) (rfl) (by omega)) rfl (Wr (.vload ag81 rfl (hV.le l) edgeV_row (getS xs noEdge (by omega))) rfl (W.ef rfl rfl rfl (Ef.allocA z81 ?_))))))))
  intro y L N t f
  have t:Blk L y 81 (edgeV noEdge).toArray:=t
  refine W.ef0 rfl rfl (Ef.storeAll sz81 (by rfl) rfl rfl t (by simp only[List.size_toArray,edgeV_row.len]) (edgeV_row.one (xs.getD k noEdge)) ?_)
  intro O m h
  have m:Blk O y 81 (edgeV (xs.getD k noEdge)).toArray:=m
  have z:=(l.trans f).tb h l N
  refine Nx (Sr (Wn 1 rfl (Wr (.loadAll ag81 (by rfl) rfl m) rfl ?_)))
  refine W.ef rfl rfl rfl (Ef.callC hgo rfl rfl rfl (hf _ _ z) ?_)
  rintro _ P ⟨rfl,d⟩
  refine⟨_,rfl,?_⟩
  have C:=z.trans d
  refine Nx ?_
  by_cases b:(pr (xs.getD k noEdge))=true
  ·refine Cy rfl (b) (WC.region (Wn 1 rfl (Wr (.loadAll ag81 (by rfl) rfl (m.le d)) rfl ?_)))
   refine W.ef rfl rfl rfl (Ef.buildSliceV (len:=1) [_] underlying32 el81 rfl (by simp[Value.cells,edgeV_row.len]) rfl (by decide) (by decide) ?_)
   intro D H Q o s
   have o:Blk H D 81 (([xs.getD k noEdge]).map edgeV).flatten.toArray:=o
   have V:OVec H P.heap.size 81 edgeV 9 (some ⟨D,0,none⟩) 1 1 ([xs.getD k noEdge]):=o.ovec Q edgeV_row rfl rfl (by decide)
   have I:=(((j.le f).cb h (j.rn (by omega))).le (d.trans s))
   refine W.ef rfl rfl rfl (Ef.vpush (a:=(xs.getD k noEdge)) underlying32 el81 underlying32 edgeV_row rfl I rfl o (by have:=List.length_filter_le pr (xs.take k);simp at this;omega) (by have:=List.length_filter_le pr (xs.take k);simp at this;unfold maxLen;omega) (by have:=K;have:=f.size;have:=h.size;have:=d.size;have:=s.size;omega) ?_)
   intro R S X T J Y
   refine Wn 1 rfl (W.nil (E.blkN (E.thenN (WC.region (Wa (.add rfl rfl (by omega)) rfl (Wn 1 rfl (W.nil (E.again (k+1,R,S) (.cons rfl (.cons' rfl (slice_eq (by rw[<-filter_T xs k (by omega) b];simp)) (.of rfl))) ?_ ?_))))))))
   ·exact⟨by omega,((C.trans s).then_ J (fun q hq=>Nat.le_trans u.size (I.row hq).1)),by have:=v;have:=f.size;have:=h.size;have:=d.size;have:=s.size;have:=J.size;omega,(T).cast (by rw[<-filter_T xs k (by omega) b];simp) (filter_T xs k (by omega) b)⟩
   first|omega|(simp only[];omega)
  refine Cn rfl ((Bool.eq_false_iff.2 b)) (WC.skip (E.blkN (E.thenN (WC.region (Wa (.add rfl rfl (by omega)) rfl (Wn 1 rfl (W.nil ?_)))))))
  have U:=(((j.le f).cb h (j.rn (by omega))).le d)
  refine E.again (k+1,Aa,ca) (.cons rfl (.cons' rfl (slice_eq (by rw[<-filter_F xs k (by omega) b])) (.of rfl))) ?_ ?_
  ·exact⟨by omega,C,by have:=v;have:=f.size;have:=h.size;have:=d.size;omega,(U).cast (by rw[<-filter_F xs k (by omega) b]) (filter_F xs k (by omega) b)⟩
  first|omega|(simp only[];omega)
 refine Cn rfl (dF x) (WC.exit (E.thenX (E.thenX (E.blkH (E.thenN (Sr (Wn 2 rfl (Nx (Rt (E.retG1 rfl rfl ?_))))))))))
 exact⟨_,_,by rw[List.take_of_length_le (by omega)],j.cast (by rw[List.take_of_length_le (by omega)]) (by rw[List.take_of_length_le (by omega)]),l⟩





theorem in1_ok (e:Gsp.Edge)(p:Int){g:Nat}(w:World)(hg:Blk w g 3 #[.int .i64 p]):Calls prog 220 #[.agg (edgeV e).toArray,.pointer (some ⟨g,0,none⟩)] w fun r w'=>r= .returned (.bool (decide (e.t=p)))/\Le w w':=by
 refine enter func220 rfl rfl (Sr (W.ef rfl rfl rfl (Ef.boxA rfl fun c d i (f:Blk d c 81 (edgeV e).toArray) h=>?_)))
 have b:=(Le.refl w).trans h
 refine Wn 1 rfl (Nx (Sr (Wa (.field0 fa81_1 rfl) rfl (Wr (.loadB (v:= .int .i64 (e.t)) na3 rfl f rfl) rfl (Wr (.loadB (v:= .int .i64 (p)) na3 rfl (hg.le b) rfl) rfl (Wn 2 rfl (Nx (Rt (E.retG1 rfl rfl ?_)))))))))
 exact⟨rfl,b⟩

theorem in_ok (p:Int){A:Option Addr}{n c:Nat}{xs:List Gsp.Edge}(w:World)(hV:Vec w edgeV 9 A n xs)(hn:n<=1000000):Calls prog 118 #[.slice A n c,.int .i64 (p)] w fun r w'=>∃A' c',r= .returned (.slice A' (xs.filter (fun e=>decide (e.t=p))).length c')/\OVec w' w.heap.size 81 edgeV 9 A' (xs.filter (fun e=>decide (e.t=p))).length c' (xs.filter (fun e=>decide (e.t=p)))/\Le w w':=by
 refine enter func118 rfl rfl (Sr (W.ef rfl rfl rfl (Ef.box rfl fun h b m (i:Blk b h 3 #[.int .i64 (p)]) d=>?_)))
 have f:=(Le.refl w).trans d
 refine Wn 1 rfl (Nx (Sr (Wn 1 rfl (Wa (.makeFunc rfl) rfl (W.cl go159 rfl rfl (those_ok (fun e=>decide (e.t=p)) go220 b (hV.le f) (by omega) (fun e j hl=>in1_ok e p j (i.le hl))) ?_)))))
 rintro _ o ⟨s,u,rfl,k,l⟩
 refine Wn 1 rfl (Nx (Rt (E.retG1 rfl rfl ?_)))
 exact⟨_,_,rfl,k.mono d.size,(f.trans l)⟩

theorem index_ok {A:Option Addr}{n c:Nat}{xs:List Gsp.Edge}{F:Nat}{caps:Array Value}(pr:Gsp.Edge->Bool)(hgo:IsGo prog F)(w:World)(hV:Vec w edgeV 9 A n xs)(hn:n<=1000000)(hf:∀(e:Gsp.Edge) (w1:World),Le w w1->Calls prog F (#[.agg (edgeV e).toArray]++caps) w1 fun r w2=>r= .returned (.bool (pr e))/\Le w1 w2):Calls prog 221 #[.slice A n c,.func (.func F) #[] caps] w fun r w'=>r= .returned (.int .i64 (idxE pr xs))/\Le w w':=by
 have hl:=hV.1
 refine enter func221 rfl rfl (Sr (Wn 1 rfl (Nx (Sq (Sr (Wn 1 rfl (Wr (.len underlying32 rfl) rfl (Wn 1 rfl (Nx (WC.block (WC.loop (ι:=Nat) (fun k=>[(0,.slice A n c),(1,.func (.func F) #[] caps),(7,.int .i64 (((n:Nat):Int))),(8,.int .i64 (((k:Nat):Int)))]) (fun k f=>(k<=n)/\(∀j,j<k->¬pr (xs.getD j noEdge)=true)/\Le w f/\w.heap.size<=f.heap.size) (fun k=>n-k) 0 ?_ ?_ ?_)))))))))))
 ·exact .of rfl
 ·exact⟨Nat.zero_le _,fun j hj=>absurd hj (Nat.not_lt_zero _),(Le.refl w),Nat.le_refl _⟩
 rintro k f ⟨hk,hz,b,o⟩
 refine Sr (Wn 1 rfl (Nx (Sq ?_)))
 by_cases i:((k:Nat):Int)<((n:Nat):Int)
 ·refine Cy rfl (dT i) (Sn (Sq (WC.block (Sr (Wn 2 rfl (Nx (Sr (Wn 3 rfl (Wa (.idxS (k) underlying32 sz81 rfl rfl (hV.isSome edgeV_row (by omega)) (rfl) (by omega)) rfl (Wr (.vload ag81 rfl (hV.le b) edgeV_row (getS xs noEdge (by omega))) rfl (W.ef rfl rfl rfl (Ef.callC hgo rfl rfl rfl (hf _ _ b) ?_))))))))))))
  rintro _ t ⟨rfl,l⟩
  refine⟨_,rfl,?_⟩
  have m:=b.trans l
  refine Nx ?_
  by_cases d:(pr (xs.getD k noEdge))=true
  ·refine Cy rfl (d) (Sr (Wn 2 rfl (Nx (Rt (E.blkR (E.thenR (E.thenR (E.blkR (E.thenR (E.retG1 rfl rfl ?_))))))))))
   exact⟨by rw[idxE_at (by omega) hz d],m⟩
  refine Cn rfl ((Bool.eq_false_iff.2 d)) (WC.skip (E.blkN (E.thenN (WC.region (Wa (.add rfl rfl (by omega)) rfl (Wn 1 rfl (W.nil (E.again (k+1) (.of rfl) ?_ ?_))))))))
  ·exact⟨by omega,fun j hj=>by rcases Nat.lt_or_ge j k with h|h;exact hz j h;rw[show j=k by omega];exact d,m,by have:=o;have:=l.size;omega⟩
  first|omega|(simp only[];omega)
 refine Cn rfl (dF i) (WC.exit (E.thenX (E.thenX (E.blkH (E.thenN (Sr (Wn 1 rfl (Nx (Rt (E.retG1 rfl rfl ?_))))))))))
 exact⟨by rw[idxE_no (k:=k) (by omega) (fun j s _=>hz j s)],b⟩





theorem gright_ok {A:Option Addr}{n c:Nat}{xs:List Gsp.Edge}(w:World)(hV:Vec w edgeV 9 A n xs)(hn:n<=1000000):Calls prog 68 #[.slice A n c] w fun r w'=>r= .returned (.bool (rightG xs))/\Le w w':=by
 have hl:=hV.1
 refine enter func68 rfl rfl (Sr (Wn 1 rfl (Nx (Sq (Sr (Wn 1 rfl (Wr (.len underlying32 rfl) rfl (Wn 1 rfl (Nx (WC.block (WC.loop (ι:=Nat) (fun k=>[(0,.slice A n c),(6,.slice A n c),(7,.int .i64 (((n:Nat):Int))),(8,.int .i64 (((k:Nat):Int)))]) (fun k ab=>(k<=n)/\(∀j,j<k->RightAt xs j)/\Le w ab/\w.heap.size<=ab.heap.size) (fun k=>n-k) 0 ?_ ?_ ?_)))))))))))
 ·exact .of rfl
 ·exact⟨Nat.zero_le _,fun j hj=>absurd hj (Nat.not_lt_zero _),(Le.refl w),Nat.le_refl _⟩
 rintro k ab ⟨hk,hz,U,D⟩
 refine Sr (Wn 1 rfl (Nx (Sq ?_)))
 by_cases c0:((k:Nat):Int)<((n:Nat):Int)
 ·refine Cy rfl (dT c0) (Sn (Sq (WC.block (Sr (Wn 1 rfl (Wa (.idxS (k) underlying32 sz81 rfl rfl (hV.isSome edgeV_row (by omega)) (rfl) (by omega)) rfl (Wr (.vload ag81 rfl (hV.le U) edgeV_row (getS xs noEdge (by omega))) rfl (W.ef rfl rfl rfl (Ef.allocA z81 ?_)))))))))
  intro al aq ar ac z
  have ac:Blk aq al 81 (edgeV noEdge).toArray:=ac
  refine Wn 1 rfl (W.ef0 rfl rfl (Ef.storeAll sz81 (by rfl) rfl rfl ac (by simp only[List.size_toArray,edgeV_row.len]) (edgeV_row.one (xs.getD k noEdge)) ?_))
  intro au ad C
  have ad:Blk au al 81 (edgeV (xs.getD k noEdge)).toArray:=ad
  refine Nx (Sq (Sq (WC.draw [0,1,2,3,4,5,6,7,8,9,10,11,12,13,14,15,16] mixed (by kernel_rfl) fun w4 u=>?_)))
  have f4:=(ad.le u)
  refine Gd rfl (.loadAll ag81 (by rfl) rfl f4) ?_
  refine G.ef rfl rfl rfl rfl rfl (Ef.call go160 rfl rfl (edge_ok (xs.getD k noEdge) w4) ?_)
  rintro _ av ⟨rfl,i⟩
  refine⟨_,rfl,?_⟩
  refine⟨fun _=>i,?_⟩
  have V:=(((U.trans z).tb C U ar).trans u).trans i
  refine Gn 1 rfl ?_
  by_cases am:(edgeOk (xs.getD k noEdge))=true
  ·refine Ga rfl (.dec (.move rfl) (congrArg not (am))) (Gn 2 rfl ?_)
   by_cases an:0<((k:Nat):Int)
   ·refine Gag rfl (.dec (.move rfl) (dT an)) (Gn 2 rfl (Gag rfl (.sub rfl rfl (by omega)) (Gag rfl (.idxS ((k-1)) underlying32 sz81 rfl rfl (hV.isSome edgeV_row (by omega)) (by omega) (by omega)) (Gdg rfl (.vload ag81 rfl (hV.le V) edgeV_row (getS xs noEdge (by omega))) ?_))))
    have f6:=(f4.le i)
    refine Gdg rfl (.loadAll ag81 (by rfl) rfl f6) ?_
    refine G.efg rfl rfl rfl rfl rfl (rfl) rfl rfl (Ef.call go162 rfl rfl (order_ok (xs.getD (k-1) noEdge) (xs.getD k noEdge) av) ?_)
    rintro _ aF ⟨rfl,F⟩
    refine⟨_,rfl,?_⟩
    refine⟨fun _=>F,?_⟩
    have L7:=V.trans F
    refine Gn 1 rfl (Gag rfl (.pickT rfl rfl rfl) (Gn 1 rfl (G.nil (E.thenN ?_))))
    by_cases c1:0<=(ordE (xs.getD (k-1) noEdge) (xs.getD k noEdge))
    ·refine Cy rfl (dT c1) (Sr (Wn 1 rfl (Nx (Rt (E.thenR (E.blkR (E.thenR (E.thenR (E.blkR (E.thenR (E.retG1 rfl rfl ?_)))))))))))
     exact⟨rB (dF (fun hr=>by have hr:=hr k (by omega);unfold RightAt at hr;first|exact absurd hr.1 (by assumption)|(have b:=hr.2;clear hr;omega))).symm,L7⟩
    refine Cn rfl (dF c1) (Sn (Sq (Sq (WC.draw [0,1,2,3,4,5,6,7,8,9,10,11,12] mixed (by kernel_rfl) fun w6 e=>?_))))
    have H:=L7.trans e
    refine Gn 2 rfl ?_
    by_cases J:((k:Nat):Int)=0
    ·refine Ga rfl (.dec (.move rfl) (dT J)) (Gn 10 rfl (G.nil (E.thenN (WC.condT rfl (WC.exit (E.thenX (E.blkH (E.thenN (WC.region (Wa (.add rfl rfl (by omega)) rfl (Wn 1 rfl (W.nil (E.again (k+1) (.of rfl) ?_ ?_)))))))))))))
     ·exact⟨by omega,fun j hj=>by rcases Nat.lt_or_ge j k with h|h;exact hz j h;rw[show j=k by omega];refine⟨by assumption,fun _=>?_,fun⟨_,_⟩=>⟨?_,?_,?_,?_⟩⟩<;>first|omega|(exfalso;omega)|(exact fun⟨_,_⟩=>by omega),H,by have:=D;have:=z.size;have:=C.size;have:=u.size;have:=i.size;have:=F.size;have:=e.size;omega⟩
     first|omega|(simp only[];omega)
    refine Ga rfl (.dec (.move rfl) (dF J)) (Gn 2 rfl (Gag rfl (.sub rfl rfl (by omega)) (Gag rfl (.idxS ((k-1)) underlying32 sz81 rfl rfl (hV.isSome edgeV_row (by omega)) (by omega) (by omega)) (Gag rfl (.vfield fa81_2 (hV.isSome edgeV_row (by omega)) rfl) (Gdg rfl (.vcell (j:=(k-1)) (o:=2) (v:= .int .i64 ((xs.getD (k-1) noEdge).c)) na3 rfl (hV.le H) edgeV_row (getS xs noEdge (by omega)) rfl) ?_)))))
    refine Gag rfl (.field0 fa81_2 rfl) ?_
    have K:=(f6.le (F.trans e))
    refine Gdg rfl (.loadB (v:= .int .i64 ((xs.getD k noEdge).c)) na3 rfl K rfl) (Gn 2 rfl (G.nil (E.thenN ?_)))
    by_cases L:((xs.getD (k-1) noEdge).c)≠((xs.getD k noEdge).c)
    ·refine Cy rfl (dT L) (WC.exit (E.thenX (E.blkH (E.thenN (WC.region (Wa (.add rfl rfl (by omega)) rfl (Wn 1 rfl (W.nil (E.again (k+1) (.of rfl) ?_ ?_)))))))))
     ·exact⟨by omega,fun j hj=>by rcases Nat.lt_or_ge j k with h|h;exact hz j h;rw[show j=k by omega];refine⟨by assumption,fun _=>?_,fun⟨_,_⟩=>⟨?_,?_,?_,?_⟩⟩<;>first|omega|(exfalso;omega)|(exact fun⟨_,_⟩=>by omega),H,by have:=D;have:=z.size;have:=C.size;have:=u.size;have:=i.size;have:=F.size;have:=e.size;omega⟩
     first|omega|(simp only[];omega)
    refine Cn rfl (dF L) (Sn (Sr (Wn 2 rfl (Wa (.sub rfl rfl (by omega)) rfl (Wa (.idxS ((k-1)) underlying32 sz81 rfl rfl (hV.isSome edgeV_row (by omega)) (by omega) (by omega)) rfl (Wr (.vload ag81 rfl (hV.le H) edgeV_row (getS xs noEdge (by omega))) rfl (W.ef rfl rfl rfl ?_)))))))
    refine Ef.allocA z81 fun ao aw ax (ay:Blk aw ao 81 (edgeV noEdge).toArray) N=>(W.ef0 rfl rfl (Ef.storeAll sz81 (by rfl) rfl rfl ay (by simp only[List.size_toArray,edgeV_row.len]) (edgeV_row.one (xs.getD (k-1) noEdge)) ?_))
    intro az X O
    have X:Blk az ao 81 (edgeV (xs.getD (k-1) noEdge)).toArray:=X
    refine Nx (Sq (WC.draw [0,1,2,3,4,5,6,7,8,9,10,11,12,13,14,15,16,17,18,19,20,21,22,23,24,25,26,27,28,29,30,31,32,33] mixed (by kernel_rfl) fun w8 d=>?_))
    have x:=((H.trans N).tb O H ax).trans d
    refine Gn 2 rfl ?_
    by_cases P:1<((k:Nat):Int)
    ·refine Ga rfl (.dec (.move rfl) (dT P)) (Gn 2 rfl (Gag rfl (.sub rfl rfl (by omega)) (Gag rfl (.idxS ((k-2)) underlying32 sz81 rfl rfl (hV.isSome edgeV_row (by omega)) (by omega) (by omega)) (Gag rfl (.vfield fa81_2 (hV.isSome edgeV_row (by omega)) rfl) (Gdg rfl (.vcell (j:=(k-2)) (o:=2) (v:= .int .i64 ((xs.getD (k-2) noEdge).c)) na3 rfl (hV.le x) edgeV_row (getS xs noEdge (by omega)) rfl) ?_)))))
     refine Gag rfl (.field0 fa81_2 rfl) ?_
     have Y:=(((K.le N).cn O (by have:=K.lt;omega)).le d)
     refine Gdg rfl (.loadB (v:= .int .i64 ((xs.getD k noEdge).c)) na3 rfl Y rfl) (Gn 2 rfl ?_)
     by_cases Q:((xs.getD (k-2) noEdge).c)=((xs.getD k noEdge).c)
     ·refine Ga rfl (.dec (.move rfl) (dT Q)) (Gn 20 rfl (G.nil (E.thenN (WC.condT rfl (Sr (Wn 1 rfl (Nx (Rt (E.blkR (E.thenR (E.thenR (E.blkR (E.thenR (E.retG1 rfl rfl ?_))))))))))))))
      exact⟨rB (dF (fun hr=>by have hr:=hr k (by omega);unfold RightAt at hr;first|exact absurd hr.1 (by assumption)|(have b:=hr.2;clear hr;omega))).symm,x⟩
     refine Ga rfl (.dec (.move rfl) (dF Q)) (Gag rfl (.field0 fa81_0 rfl) ?_)
     have ae:=(X.le d)
     refine Gdg rfl (.loadB (v:= .int .i64 ((xs.getD (k-1) noEdge).f)) na3 rfl ae rfl) (Gag rfl (.field0 fa81_1 rfl) (Gdg rfl (.loadB (v:= .int .i64 ((xs.getD k noEdge).t)) na3 rfl Y rfl) (Gn 2 rfl ?_)))
     by_cases l:((xs.getD (k-1) noEdge).f)≠((xs.getD k noEdge).t)
     ·refine Ga rfl (.dec (.move rfl) (dT l)) (Gn 13 rfl (G.nil (E.thenN (WC.condT rfl (Sr (Wn 1 rfl (Nx (Rt (E.blkR (E.thenR (E.thenR (E.blkR (E.thenR (E.retG1 rfl rfl ?_))))))))))))))
      exact⟨rB (dF (fun hr=>by have hr:=hr k (by omega);unfold RightAt at hr;first|exact absurd hr.1 (by assumption)|(have b:=hr.2;clear hr;omega))).symm,x⟩
     refine Ga rfl (.dec (.move rfl) (dF l)) (Gag rfl (.field0 fa81_1 rfl) (Gdg rfl (.loadB (v:= .int .i64 ((xs.getD (k-1) noEdge).t)) na3 rfl ae rfl) (Gag rfl (.field0 fa81_0 rfl) (Gdg rfl (.loadB (v:= .int .i64 ((xs.getD k noEdge).f)) na3 rfl Y rfl) (Gn 2 rfl ?_)))))
     by_cases m:((xs.getD (k-1) noEdge).t)≠((xs.getD k noEdge).f)
     ·refine Ga rfl (.dec (.move rfl) (dT m)) (Gn 6 rfl (G.nil (E.thenN (WC.condT rfl (Sr (Wn 1 rfl (Nx (Rt (E.blkR (E.thenR (E.thenR (E.blkR (E.thenR (E.retG1 rfl rfl ?_))))))))))))))
      exact⟨rB (dF (fun hr=>by have hr:=hr k (by omega);unfold RightAt at hr;first|exact absurd hr.1 (by assumption)|(have b:=hr.2;clear hr;omega))).symm,x⟩
     refine Ga rfl (.dec (.move rfl) (dF m)) (Gag rfl (.field0 fa81_3 rfl) (Gdg rfl (.loadB (v:= .int .i64 ((xs.getD (k-1) noEdge).r)) na3 rfl ae rfl) (Gag rfl (.field0 fa81_3 rfl) (Gdg rfl (.loadB (v:= .int .i64 ((xs.getD k noEdge).r)) na3 rfl Y rfl) (Gn 2 rfl (G.nil (E.thenN ?_)))))))
     by_cases s:((xs.getD (k-1) noEdge).r)≠((xs.getD k noEdge).r)
     ·refine Cy rfl (dT s) (Sr (Wn 1 rfl (Nx (Rt (E.blkR (E.thenR (E.thenR (E.blkR (E.thenR (E.retG1 rfl rfl ?_))))))))))
      exact⟨rB (dF (fun hr=>by have hr:=hr k (by omega);unfold RightAt at hr;first|exact absurd hr.1 (by assumption)|(have b:=hr.2;clear hr;omega))).symm,x⟩
     refine Cn rfl (dF s) (WC.skip (E.blkN (E.thenN (WC.region (Wa (.add rfl rfl (by omega)) rfl (Wn 1 rfl (W.nil (E.again (k+1) (.of rfl) ?_ ?_))))))))
     ·exact⟨by omega,fun j hj=>by rcases Nat.lt_or_ge j k with h|h;exact hz j h;rw[show j=k by omega];refine⟨by assumption,fun _=>?_,fun⟨_,_⟩=>⟨?_,?_,?_,?_⟩⟩<;>first|omega|(exfalso;omega)|(exact fun⟨_,_⟩=>by omega),x,by have:=D;have:=z.size;have:=C.size;have:=u.size;have:=i.size;have:=F.size;have:=e.size;have:=N.size;have:=O.size;have:=d.size;omega⟩
     first|omega|(simp only[];omega)
    refine Ga rfl (.dec (.move rfl) (dF P)) (Gn 11 rfl (Gag rfl (.field0 fa81_0 rfl) ?_))
    have af:=(X.le d)
    refine Gdg rfl (.loadB (v:= .int .i64 ((xs.getD (k-1) noEdge).f)) na3 rfl af rfl) (Gag rfl (.field0 fa81_1 rfl) ?_)
    have ah:=(((K.le N).cn O (by have:=K.lt;omega)).le d)
    refine Gdg rfl (.loadB (v:= .int .i64 ((xs.getD k noEdge).t)) na3 rfl ah rfl) (Gn 2 rfl ?_)
    by_cases l:((xs.getD (k-1) noEdge).f)≠((xs.getD k noEdge).t)
    ·refine Ga rfl (.dec (.move rfl) (dT l)) (Gn 13 rfl (G.nil (E.thenN (WC.condT rfl (Sr (Wn 1 rfl (Nx (Rt (E.blkR (E.thenR (E.thenR (E.blkR (E.thenR (E.retG1 rfl rfl ?_))))))))))))))
     exact⟨rB (dF (fun hr=>by have hr:=hr k (by omega);unfold RightAt at hr;first|exact absurd hr.1 (by assumption)|(have b:=hr.2;clear hr;omega))).symm,x⟩
    refine Ga rfl (.dec (.move rfl) (dF l)) (Gag rfl (.field0 fa81_1 rfl) (Gdg rfl (.loadB (v:= .int .i64 ((xs.getD (k-1) noEdge).t)) na3 rfl af rfl) (Gag rfl (.field0 fa81_0 rfl) (Gdg rfl (.loadB (v:= .int .i64 ((xs.getD k noEdge).f)) na3 rfl ah rfl) (Gn 2 rfl ?_)))))
    by_cases m:((xs.getD (k-1) noEdge).t)≠((xs.getD k noEdge).f)
    ·refine Ga rfl (.dec (.move rfl) (dT m)) (Gn 6 rfl (G.nil (E.thenN (WC.condT rfl (Sr (Wn 1 rfl (Nx (Rt (E.blkR (E.thenR (E.thenR (E.blkR (E.thenR (E.retG1 rfl rfl ?_))))))))))))))
     exact⟨rB (dF (fun hr=>by have hr:=hr k (by omega);unfold RightAt at hr;first|exact absurd hr.1 (by assumption)|(have b:=hr.2;clear hr;omega))).symm,x⟩
    refine Ga rfl (.dec (.move rfl) (dF m)) (Gag rfl (.field0 fa81_3 rfl) (Gdg rfl (.loadB (v:= .int .i64 ((xs.getD (k-1) noEdge).r)) na3 rfl af rfl) (Gag rfl (.field0 fa81_3 rfl) (Gdg rfl (.loadB (v:= .int .i64 ((xs.getD k noEdge).r)) na3 rfl ah rfl) (Gn 2 rfl (G.nil (E.thenN ?_)))))))
    by_cases s:((xs.getD (k-1) noEdge).r)≠((xs.getD k noEdge).r)
    ·refine Cy rfl (dT s) (Sr (Wn 1 rfl (Nx (Rt (E.blkR (E.thenR (E.thenR (E.blkR (E.thenR (E.retG1 rfl rfl ?_))))))))))
     exact⟨rB (dF (fun hr=>by have hr:=hr k (by omega);unfold RightAt at hr;first|exact absurd hr.1 (by assumption)|(have b:=hr.2;clear hr;omega))).symm,x⟩
    refine Cn rfl (dF s) (WC.skip (E.blkN (E.thenN (WC.region (Wa (.add rfl rfl (by omega)) rfl (Wn 1 rfl (W.nil (E.again (k+1) (.of rfl) ?_ ?_))))))))
    ·exact⟨by omega,fun j hj=>by rcases Nat.lt_or_ge j k with h|h;exact hz j h;rw[show j=k by omega];refine⟨by assumption,fun _=>?_,fun⟨_,_⟩=>⟨?_,?_,?_,?_⟩⟩<;>first|omega|(exfalso;omega)|(exact fun⟨_,_⟩=>by omega),x,by have:=D;have:=z.size;have:=C.size;have:=u.size;have:=i.size;have:=F.size;have:=e.size;have:=N.size;have:=O.size;have:=d.size;omega⟩
    first|omega|(simp only[];omega)
   refine Gag rfl (.dec (.move rfl) (dF an)) (Gn 8 rfl (Gag rfl (.pickF rfl rfl rfl) (Gn 1 rfl (G.nil (E.thenN (WC.condF rfl (Sn (Sq (Sq (WC.draw [0,1,2,3,4,5,6,7,8,9,10,11,12] mixed (by kernel_rfl) fun w6 e=>?_))))))))))
   have I:=V.trans e
   refine Gn 2 rfl ?_
   by_cases J:((k:Nat):Int)=0
   ·refine Ga rfl (.dec (.move rfl) (dT J)) (Gn 10 rfl (G.nil (E.thenN (WC.condT rfl (WC.exit (E.thenX (E.blkH (E.thenN (WC.region (Wa (.add rfl rfl (by omega)) rfl (Wn 1 rfl (W.nil (E.again (k+1) (.of rfl) ?_ ?_)))))))))))))
    ·exact⟨by omega,fun j hj=>by rcases Nat.lt_or_ge j k with h|h;exact hz j h;rw[show j=k by omega];refine⟨by assumption,fun _=>?_,fun⟨_,_⟩=>⟨?_,?_,?_,?_⟩⟩<;>first|omega|(exfalso;omega)|(exact fun⟨_,_⟩=>by omega),I,by have:=D;have:=z.size;have:=C.size;have:=u.size;have:=i.size;have:=e.size;omega⟩
    first|omega|(simp only[];omega)
   refine Ga rfl (.dec (.move rfl) (dF J)) (Gn 2 rfl (Gag rfl (.sub rfl rfl (by omega)) (Gag rfl (.idxS ((k-1)) underlying32 sz81 rfl rfl (hV.isSome edgeV_row (by omega)) (by omega) (by omega)) (Gag rfl (.vfield fa81_2 (hV.isSome edgeV_row (by omega)) rfl) (Gdg rfl (.vcell (j:=(k-1)) (o:=2) (v:= .int .i64 ((xs.getD (k-1) noEdge).c)) na3 rfl (hV.le I) edgeV_row (getS xs noEdge (by omega)) rfl) ?_)))))
   refine Gag rfl (.field0 fa81_2 rfl) ?_
   have R:=(f4.le (i.trans e))
   refine Gdg rfl (.loadB (v:= .int .i64 ((xs.getD k noEdge).c)) na3 rfl R rfl) (Gn 2 rfl (G.nil (E.thenN ?_)))
   by_cases L:((xs.getD (k-1) noEdge).c)≠((xs.getD k noEdge).c)
   ·refine Cy rfl (dT L) (WC.exit (E.thenX (E.blkH (E.thenN (WC.region (Wa (.add rfl rfl (by omega)) rfl (Wn 1 rfl (W.nil (E.again (k+1) (.of rfl) ?_ ?_)))))))))
    ·exact⟨by omega,fun j hj=>by rcases Nat.lt_or_ge j k with h|h;exact hz j h;rw[show j=k by omega];refine⟨by assumption,fun _=>?_,fun⟨_,_⟩=>⟨?_,?_,?_,?_⟩⟩<;>first|omega|(exfalso;omega)|(exact fun⟨_,_⟩=>by omega),I,by have:=D;have:=z.size;have:=C.size;have:=u.size;have:=i.size;have:=e.size;omega⟩
    first|omega|(simp only[];omega)
   refine Cn rfl (dF L) (Sn (Sr (Wn 2 rfl (Wa (.sub rfl rfl (by omega)) rfl (Wa (.idxS ((k-1)) underlying32 sz81 rfl rfl (hV.isSome edgeV_row (by omega)) (by omega) (by omega)) rfl (Wr (.vload ag81 rfl (hV.le I) edgeV_row (getS xs noEdge (by omega))) rfl (W.ef rfl rfl rfl ?_)))))))
   refine Ef.allocA z81 fun ap aA aB (aC:Blk aA ap 81 (edgeV noEdge).toArray) S=>(W.ef0 rfl rfl (Ef.storeAll sz81 (by rfl) rfl rfl aC (by simp only[List.size_toArray,edgeV_row.len]) (edgeV_row.one (xs.getD (k-1) noEdge)) ?_))
   intro aE Z T
   have Z:Blk aE ap 81 (edgeV (xs.getD (k-1) noEdge)).toArray:=Z
   refine Nx (Sq (WC.draw [0,1,2,3,4,5,6,7,8,9,10,11,12,13,14,15,16,17,18,19,20,21,22,23,24,25,26,27,28,29,30,31,32,33] mixed (by kernel_rfl) fun w8 d=>?_))
   have y:=((I.trans S).tb T I aB).trans d
   refine Gn 2 rfl ?_
   by_cases P:1<((k:Nat):Int)
   ·refine Ga rfl (.dec (.move rfl) (dT P)) (Gn 2 rfl (Gag rfl (.sub rfl rfl (by omega)) (Gag rfl (.idxS ((k-2)) underlying32 sz81 rfl rfl (hV.isSome edgeV_row (by omega)) (by omega) (by omega)) (Gag rfl (.vfield fa81_2 (hV.isSome edgeV_row (by omega)) rfl) (Gdg rfl (.vcell (j:=(k-2)) (o:=2) (v:= .int .i64 ((xs.getD (k-2) noEdge).c)) na3 rfl (hV.le y) edgeV_row (getS xs noEdge (by omega)) rfl) ?_)))))
    refine Gag rfl (.field0 fa81_2 rfl) ?_
    have aa:=(((R.le S).cn T (by have:=R.lt;omega)).le d)
    refine Gdg rfl (.loadB (v:= .int .i64 ((xs.getD k noEdge).c)) na3 rfl aa rfl) (Gn 2 rfl ?_)
    by_cases Q:((xs.getD (k-2) noEdge).c)=((xs.getD k noEdge).c)
    ·refine Ga rfl (.dec (.move rfl) (dT Q)) (Gn 20 rfl (G.nil (E.thenN (WC.condT rfl (Sr (Wn 1 rfl (Nx (Rt (E.blkR (E.thenR (E.thenR (E.blkR (E.thenR (E.retG1 rfl rfl ?_))))))))))))))
     exact⟨rB (dF (fun hr=>by have hr:=hr k (by omega);unfold RightAt at hr;first|exact absurd hr.1 (by assumption)|(have b:=hr.2;clear hr;omega))).symm,y⟩
    refine Ga rfl (.dec (.move rfl) (dF Q)) (Gag rfl (.field0 fa81_0 rfl) ?_)
    have ai:=(Z.le d)
    refine Gdg rfl (.loadB (v:= .int .i64 ((xs.getD (k-1) noEdge).f)) na3 rfl ai rfl) (Gag rfl (.field0 fa81_1 rfl) (Gdg rfl (.loadB (v:= .int .i64 ((xs.getD k noEdge).t)) na3 rfl aa rfl) (Gn 2 rfl ?_)))
    by_cases l:((xs.getD (k-1) noEdge).f)≠((xs.getD k noEdge).t)
    ·refine Ga rfl (.dec (.move rfl) (dT l)) (Gn 13 rfl (G.nil (E.thenN (WC.condT rfl (Sr (Wn 1 rfl (Nx (Rt (E.blkR (E.thenR (E.thenR (E.blkR (E.thenR (E.retG1 rfl rfl ?_))))))))))))))
     exact⟨rB (dF (fun hr=>by have hr:=hr k (by omega);unfold RightAt at hr;first|exact absurd hr.1 (by assumption)|(have b:=hr.2;clear hr;omega))).symm,y⟩
    refine Ga rfl (.dec (.move rfl) (dF l)) (Gag rfl (.field0 fa81_1 rfl) (Gdg rfl (.loadB (v:= .int .i64 ((xs.getD (k-1) noEdge).t)) na3 rfl ai rfl) (Gag rfl (.field0 fa81_0 rfl) (Gdg rfl (.loadB (v:= .int .i64 ((xs.getD k noEdge).f)) na3 rfl aa rfl) (Gn 2 rfl ?_)))))
    by_cases m:((xs.getD (k-1) noEdge).t)≠((xs.getD k noEdge).f)
    ·refine Ga rfl (.dec (.move rfl) (dT m)) (Gn 6 rfl (G.nil (E.thenN (WC.condT rfl (Sr (Wn 1 rfl (Nx (Rt (E.blkR (E.thenR (E.thenR (E.blkR (E.thenR (E.retG1 rfl rfl ?_))))))))))))))
     exact⟨rB (dF (fun hr=>by have hr:=hr k (by omega);unfold RightAt at hr;first|exact absurd hr.1 (by assumption)|(have b:=hr.2;clear hr;omega))).symm,y⟩
    refine Ga rfl (.dec (.move rfl) (dF m)) (Gag rfl (.field0 fa81_3 rfl) (Gdg rfl (.loadB (v:= .int .i64 ((xs.getD (k-1) noEdge).r)) na3 rfl ai rfl) (Gag rfl (.field0 fa81_3 rfl) (Gdg rfl (.loadB (v:= .int .i64 ((xs.getD k noEdge).r)) na3 rfl aa rfl) (Gn 2 rfl (G.nil (E.thenN ?_)))))))
    by_cases s:((xs.getD (k-1) noEdge).r)≠((xs.getD k noEdge).r)
    ·refine Cy rfl (dT s) (Sr (Wn 1 rfl (Nx (Rt (E.blkR (E.thenR (E.thenR (E.blkR (E.thenR (E.retG1 rfl rfl ?_))))))))))
     exact⟨rB (dF (fun hr=>by have hr:=hr k (by omega);unfold RightAt at hr;first|exact absurd hr.1 (by assumption)|(have b:=hr.2;clear hr;omega))).symm,y⟩
    refine Cn rfl (dF s) (WC.skip (E.blkN (E.thenN (WC.region (Wa (.add rfl rfl (by omega)) rfl (Wn 1 rfl (W.nil (E.again (k+1) (.of rfl) ?_ ?_))))))))
    ·exact⟨by omega,fun j hj=>by rcases Nat.lt_or_ge j k with h|h;exact hz j h;rw[show j=k by omega];refine⟨by assumption,fun _=>?_,fun⟨_,_⟩=>⟨?_,?_,?_,?_⟩⟩<;>first|omega|(exfalso;omega)|(exact fun⟨_,_⟩=>by omega),y,by have:=D;have:=z.size;have:=C.size;have:=u.size;have:=i.size;have:=e.size;have:=S.size;have:=T.size;have:=d.size;omega⟩
    first|omega|(simp only[];omega)
   refine Ga rfl (.dec (.move rfl) (dF P)) (Gn 11 rfl (Gag rfl (.field0 fa81_0 rfl) ?_))
   have aj:=(Z.le d)
   refine Gdg rfl (.loadB (v:= .int .i64 ((xs.getD (k-1) noEdge).f)) na3 rfl aj rfl) (Gag rfl (.field0 fa81_1 rfl) ?_)
   have ak:=(((R.le S).cn T (by have:=R.lt;omega)).le d)
   refine Gdg rfl (.loadB (v:= .int .i64 ((xs.getD k noEdge).t)) na3 rfl ak rfl) (Gn 2 rfl ?_)
   by_cases l:((xs.getD (k-1) noEdge).f)≠((xs.getD k noEdge).t)
   ·refine Ga rfl (.dec (.move rfl) (dT l)) (Gn 13 rfl (G.nil (E.thenN (WC.condT rfl (Sr (Wn 1 rfl (Nx (Rt (E.blkR (E.thenR (E.thenR (E.blkR (E.thenR (E.retG1 rfl rfl ?_))))))))))))))
    exact⟨rB (dF (fun hr=>by have hr:=hr k (by omega);unfold RightAt at hr;first|exact absurd hr.1 (by assumption)|(have b:=hr.2;clear hr;omega))).symm,y⟩
   refine Ga rfl (.dec (.move rfl) (dF l)) (Gag rfl (.field0 fa81_1 rfl) (Gdg rfl (.loadB (v:= .int .i64 ((xs.getD (k-1) noEdge).t)) na3 rfl aj rfl) (Gag rfl (.field0 fa81_0 rfl) (Gdg rfl (.loadB (v:= .int .i64 ((xs.getD k noEdge).f)) na3 rfl ak rfl) (Gn 2 rfl ?_)))))
   by_cases m:((xs.getD (k-1) noEdge).t)≠((xs.getD k noEdge).f)
   ·refine Ga rfl (.dec (.move rfl) (dT m)) (Gn 6 rfl (G.nil (E.thenN (WC.condT rfl (Sr (Wn 1 rfl (Nx (Rt (E.blkR (E.thenR (E.thenR (E.blkR (E.thenR (E.retG1 rfl rfl ?_))))))))))))))
    exact⟨rB (dF (fun hr=>by have hr:=hr k (by omega);unfold RightAt at hr;first|exact absurd hr.1 (by assumption)|(have b:=hr.2;clear hr;omega))).symm,y⟩
   refine Ga rfl (.dec (.move rfl) (dF m)) (Gag rfl (.field0 fa81_3 rfl) (Gdg rfl (.loadB (v:= .int .i64 ((xs.getD (k-1) noEdge).r)) na3 rfl aj rfl) (Gag rfl (.field0 fa81_3 rfl) (Gdg rfl (.loadB (v:= .int .i64 ((xs.getD k noEdge).r)) na3 rfl ak rfl) (Gn 2 rfl (G.nil (E.thenN ?_)))))))
   by_cases s:((xs.getD (k-1) noEdge).r)≠((xs.getD k noEdge).r)
   ·refine Cy rfl (dT s) (Sr (Wn 1 rfl (Nx (Rt (E.blkR (E.thenR (E.thenR (E.blkR (E.thenR (E.retG1 rfl rfl ?_))))))))))
    exact⟨rB (dF (fun hr=>by have hr:=hr k (by omega);unfold RightAt at hr;first|exact absurd hr.1 (by assumption)|(have b:=hr.2;clear hr;omega))).symm,y⟩
   refine Cn rfl (dF s) (WC.skip (E.blkN (E.thenN (WC.region (Wa (.add rfl rfl (by omega)) rfl (Wn 1 rfl (W.nil (E.again (k+1) (.of rfl) ?_ ?_))))))))
   ·exact⟨by omega,fun j hj=>by rcases Nat.lt_or_ge j k with h|h;exact hz j h;rw[show j=k by omega];refine⟨by assumption,fun _=>?_,fun⟨_,_⟩=>⟨?_,?_,?_,?_⟩⟩<;>first|omega|(exfalso;omega)|(exact fun⟨_,_⟩=>by omega),y,by have:=D;have:=z.size;have:=C.size;have:=u.size;have:=i.size;have:=e.size;have:=S.size;have:=T.size;have:=d.size;omega⟩
   first|omega|(simp only[];omega)
  refine Ga rfl (.dec (.move rfl) (congrArg not ((Bool.eq_false_iff.2 am)))) (Gn 3 rfl (G.skipu rfl rfl rfl rfl rfl rfl (G.skipu rfl rfl rfl rfl rfl rfl (G.skipu rfl rfl rfl rfl rfl rfl (G.skipu rfl rfl rfl rfl rfl rfl ?_)))))
  refine G.skipu rfl rfl rfl rfl rfl rfl (G.skipu rfl rfl rfl rfl rfl rfl (G.skipu rfl rfl rfl rfl rfl rfl (G.skipu rfl rfl rfl rfl rfl rfl (Gn 2 rfl (G.nil (E.thenN (WC.condT rfl (Sr (Wn 1 rfl (Nx (Rt (E.thenR (E.blkR (E.thenR (E.thenR (E.blkR (E.thenR (E.retG1 rfl rfl ?_))))))))))))))))))
  exact⟨rB (dF (fun hr=>by have hr:=hr k (by omega);unfold RightAt at hr;first|exact absurd hr.1 (by assumption)|(have b:=hr.2;clear hr;omega))).symm,V⟩
 refine Cn rfl (dF c0) (WC.exit (E.thenX (E.thenX (E.blkH (E.thenN (Sr (Wn 1 rfl (Nx (Rt (E.retG1 rfl rfl ?_))))))))))
 exact⟨rB (dT (fun j hj=>hz j (by omega))).symm,U⟩

theorem gway_ok {A:Option Addr}{n c:Nat}{xs:List Gsp.Edge}(w:World)(hV:Vec w edgeV 9 A n xs)(hn:n<=1000000):Calls prog 101 #[.slice A n c] w fun r w'=>r= .returned (.bool (wayG xs))/\Le w w':=by
 have hl:=hV.1
 refine enter func101 rfl rfl (Sr (Wn 1 rfl (Nx (Sq (Sr (Wn 1 rfl (Wr (.len underlying32 rfl) rfl (W.cl go102 rfl rfl (gin_ok ((n:Nat):Int) 1 8 w) ?_))))))))
 rintro _ aB ⟨rfl,aq⟩
 have l:=(Le.refl w).trans aq
 refine Wn 1 rfl (Nx ?_)
 by_cases V:(inB ((n:Nat):Int) 1 8)=true
 ·refine Cn rfl (congrArg not (V)) (Sn (Sr (W.ef rfl rfl rfl (Ef.allocA z288 fun h X y F ar=>?_))))
  have F:Blk X h 288 (((List.replicate 12 false)).map Value.bool).toArray:=F.cast (rfl)
  refine Nx (Sq (Sr (Wn 1 rfl (Wr (.len underlying32 rfl) rfl (Wn 1 rfl (Nx (WC.block (WC.loop (ι:=Nat×(List Bool)) (fun⟨k,bs⟩=>[(0,.slice A n c),(3,.pointer (some ⟨h,0,none⟩)),(10,.slice A n c),(11,.int .i64 (((n:Nat):Int))),(12,.int .i64 (((k:Nat):Int)))]) (fun⟨k,bs⟩ z=>(k<=n)/\(bs.length=12)/\(∀j,j<k->WayAt xs j)/\(Been bs xs k)/\Le w z/\X.heap.size<=z.heap.size/\Blk z h 288 (bs.map Value.bool).toArray) (fun⟨k,bs⟩=>n-k) (0,(List.replicate 12 false)) ?_ ?_ ?_))))))))
  ·exact .of rfl
  ·exact⟨Nat.zero_le _,rfl,fun j hj=>absurd hj (Nat.not_lt_zero _),been_first xs,(l.trans ar),Nat.le_refl _,F⟩
  rintro⟨k,bs⟩ z ⟨hk,hb,hz,hd,C,Y,d⟩
  refine Sr (Wn 1 rfl (Nx (Sq ?_)))
  by_cases Z:((k:Nat):Int)<((n:Nat):Int)
  ·refine Cy rfl (dT Z) (Sn (Sq (WC.block (Sr (Wn 1 rfl (Wa (.idxS (k) underlying32 sz81 rfl rfl (hV.isSome edgeV_row (by omega)) (rfl) (by omega)) rfl (Wr (.vload ag81 rfl (hV.le C) edgeV_row (getS xs noEdge (by omega))) rfl (W.ef rfl rfl rfl (Ef.allocA z81 ?_)))))))))
   intro D au av H s
   have H:Blk au D 81 (edgeV noEdge).toArray:=H
   refine Wn 1 rfl (W.ef0 rfl rfl (Ef.storeAll sz81 (by rfl) rfl rfl H (by simp only[List.size_toArray,edgeV_row.len]) (edgeV_row.one (xs.getD k noEdge)) ?_))
   intro aw I u
   have I:Blk aw D 81 (edgeV (xs.getD k noEdge)).toArray:=I
   refine Nx (Sq (Sq (WC.draw [0,1,2,3,4,5,6,7,8,9,10,11,12,13,14,15,16,17,18,19,20,21,22,23] mixed (by kernel_rfl) fun w7 m=>?_)))
   have J:=(I.le m)
   refine Gd rfl (.loadAll ag81 (by rfl) rfl J) ?_
   refine G.ef rfl rfl rfl rfl rfl (Ef.call go160 rfl rfl (edge_ok (xs.getD k noEdge) w7) ?_)
   rintro _ aC ⟨rfl,e⟩
   refine⟨_,rfl,?_⟩
   refine⟨fun _=>e,?_⟩
   have i:=(((C.trans s).tb u C av).trans m).trans e
   refine Gn 1 rfl ?_
   by_cases aa:(edgeOk (xs.getD k noEdge))=true
   ·refine Ga rfl (.dec (.move rfl) (congrArg not (aa))) (Gn 2 rfl ?_)
    by_cases ab:0<((k:Nat):Int)
    ·refine Gag rfl (.dec (.move rfl) (dT ab)) (Gn 2 rfl (Gag rfl (.sub rfl rfl (by omega)) (Gag rfl (.idxS ((k-1)) underlying32 sz81 rfl rfl (hV.isSome edgeV_row (by omega)) (by omega) (by omega)) (Gag rfl (.vfield fa81_1 (hV.isSome edgeV_row (by omega)) rfl) (Gdg rfl (.vcell (j:=(k-1)) (o:=1) (v:= .int .i64 ((xs.getD (k-1) noEdge).t)) na3 rfl (hV.le i) edgeV_row (getS xs noEdge (by omega)) rfl) ?_)))))
     refine Gag rfl (.field0 fa81_0 rfl) ?_
     have K:=(J.le e)
     refine Gdg rfl (.loadB (v:= .int .i64 ((xs.getD k noEdge).f)) na3 rfl K rfl) (Gn 1 rfl (Gag rfl (.pickT rfl rfl rfl) (Gn 1 rfl ?_)))
     by_cases ac:((xs.getD (k-1) noEdge).t)≠((xs.getD k noEdge).f)
     ·refine Ga rfl (.dec (.move rfl) (dT ac)) (Gn 5 rfl (G.nil (E.thenN (WC.condT rfl (Sr (Wn 1 rfl (Nx (Rt (E.thenR (E.blkR (E.thenR (E.thenR (E.blkR (E.thenR (E.retG1 rfl rfl ?_)))))))))))))))
      exact⟨rB (dF (fun hr=>by have hr:=hr.2 k (by omega);first|exact absurd hr.1 (by assumption)|exact way_fail hz hd (by assumption) hr|(have:=hr.2.1;omega))).symm,i⟩
     refine Ga rfl (.dec (.move rfl) (dF ac)) (Gag rfl (.field0 fa81_1 rfl) (Gdg rfl (.loadB (v:= .int .i64 ((xs.getD k noEdge).t)) na3 rfl K rfl) ?_))
     have hok:=edgeOk_T (show edgeOk (xs.getD k noEdge)=true by assumption)
     refine Gag rfl (.idxA1 (((xs.getD k noEdge).t).toNat) underlying288 sz4 rfl rfl (by omega) (by omega)) ?_
     have f9:=(((d.le s).cn u (by have:=d.lt;omega)).le (m.trans e))
     refine Gdg rfl (.loadB na4 rfl f9 (getA bs false (by omega))) (Gn 1 rfl (G.nil (E.thenN ?_)))
     by_cases x:((bs).getD (((xs.getD k noEdge).t).toNat) false)=true
     ·refine Cy rfl (x) (Sr (Wn 1 rfl (Nx (Rt (E.thenR (E.blkR (E.thenR (E.thenR (E.blkR (E.thenR (E.retG1 rfl rfl ?_)))))))))))
      exact⟨rB (dF (fun hr=>by have hr:=hr.2 k (by omega);first|exact absurd hr.1 (by assumption)|exact way_fail hz hd (by assumption) hr|(have:=hr.2.1;omega))).symm,i⟩
     refine Cn rfl ((Bool.eq_false_iff.2 x)) (Sn (WC.drawS (fun L w'=>Le w w'/\Blk w' D 81 (edgeV (xs.getD k noEdge)).toArray) [0,1,2,3,4,5,6,7] mixed (by kernel_rfl) fun L b=>?_))
     have ad:=i.trans b
     have ae:=(K.le b)
     refine⟨⟨ad,ae⟩,?_⟩
     have hok:=edgeOk_T (show edgeOk (xs.getD k noEdge)=true by assumption)
     refine GS.any rfl rfl (.field0 fa81_0 rfl) rfl rfl rfl (GS.rd rfl rfl (fun w' hs=> .loadB (v:= .int .i64 ((xs.getD k noEdge).f)) na3 rfl hs.2 rfl) rfl rfl rfl (GS.any rfl rfl (.field0 fa81_1 rfl) rfl rfl rfl (GS.rd rfl rfl (fun w' hs=> .loadB (v:= .int .i64 ((xs.getD k noEdge).t)) na3 rfl hs.2 rfl) rfl rfl rfl (GS.any rfl rfl (.idxA1 (((xs.getD k noEdge).f).toNat) underlying288 sz4 rfl rfl (by omega) (by omega)) rfl rfl rfl (GS.ef0 rfl rfl rfl rfl ?_)))))
     refine Ef.store sz4 rfl rfl (f9.le b) (by simp only[List.size_toArray,List.length_map,List.length_set];omega) rfl ?_
     intro ax N O
     have N:Blk ax h 288 ((bs.set (((xs.getD k noEdge).f).toNat) true).map Value.bool).toArray:=bset N
     have af:=ad.tb O l y
     have ah:=(ae.cn O (by have:=d.lt;omega))
     refine⟨⟨af,ah⟩,?_⟩
     refine GS.any rfl rfl (.idxA1 (((xs.getD k noEdge).t).toNat) underlying288 sz4 rfl rfl (by omega) (by omega)) rfl rfl rfl (GS.ef0 rfl rfl rfl rfl (Ef.store sz4 rfl rfl N (by simp only[List.size_toArray,List.length_map,List.length_set];omega) rfl ?_))
     intro ay P Q
     have P:Blk ay h 288 (((bs.set (((xs.getD k noEdge).f).toNat) true).set (((xs.getD k noEdge).t).toNat) true).map Value.bool).toArray:=bset P
     have ai:=af.tb Q l y
     refine⟨⟨ai,(ah.cn Q (by have:=d.lt;omega))⟩,?_⟩
     refine GS.nil (E.blkN (E.thenN (WC.region (Wa (.add rfl rfl (by omega)) rfl (Wn 1 rfl (W.nil (E.again (k+1,((bs.set (xs.getD k noEdge).f.toNat true).set (xs.getD k noEdge).t.toNat true)) (.of rfl) ?_ ?_)))))))
     ·exact⟨by omega,by simp[hb],way_next hz (by assumption) (by intro h0;omega) hd (by assumption),been_next hb (by assumption) hd,ai,by have:=Y;have:=s.size;have:=u.size;have:=m.size;have:=e.size;have:=b.size;have:=O.size;have:=Q.size;omega,P⟩
     first|omega|(simp only[];omega)
    refine Gag rfl (.dec (.move rfl) (dF ab)) (Gn 9 rfl (Gag rfl (.pickF rfl rfl rfl) (Gn 2 rfl (Gag rfl (.field0 fa81_1 rfl) ?_))))
    have aj:=(J.le e)
    refine Gdg rfl (.loadB (v:= .int .i64 ((xs.getD k noEdge).t)) na3 rfl aj rfl) ?_
    have hok:=edgeOk_T (show edgeOk (xs.getD k noEdge)=true by assumption)
    refine Gag rfl (.idxA1 (((xs.getD k noEdge).t).toNat) underlying288 sz4 rfl rfl (by omega) (by omega)) ?_
    have ak:=(((d.le s).cn u (by have:=d.lt;omega)).le (m.trans e))
    refine Gdg rfl (.loadB na4 rfl ak (getA bs false (by omega))) (Gn 1 rfl (G.nil (E.thenN ?_)))
    by_cases x:((bs).getD (((xs.getD k noEdge).t).toNat) false)=true
    ·refine Cy rfl (x) (Sr (Wn 1 rfl (Nx (Rt (E.thenR (E.blkR (E.thenR (E.thenR (E.blkR (E.thenR (E.retG1 rfl rfl ?_)))))))))))
     exact⟨rB (dF (fun hr=>by have hr:=hr.2 k (by omega);first|exact absurd hr.1 (by assumption)|exact way_fail hz hd (by assumption) hr|(have:=hr.2.1;omega))).symm,i⟩
    refine Cn rfl ((Bool.eq_false_iff.2 x)) (Sn (WC.drawS (fun L w'=>Le w w'/\Blk w' D 81 (edgeV (xs.getD k noEdge)).toArray) [0,1,2,3,4,5,6,7] mixed (by kernel_rfl) fun L b=>?_))
    have al:=i.trans b
    have am:=(aj.le b)
    refine⟨⟨al,am⟩,?_⟩
    have hok:=edgeOk_T (show edgeOk (xs.getD k noEdge)=true by assumption)
    refine GS.any rfl rfl (.field0 fa81_0 rfl) rfl rfl rfl (GS.rd rfl rfl (fun w' hs=> .loadB (v:= .int .i64 ((xs.getD k noEdge).f)) na3 rfl hs.2 rfl) rfl rfl rfl (GS.any rfl rfl (.field0 fa81_1 rfl) rfl rfl rfl (GS.rd rfl rfl (fun w' hs=> .loadB (v:= .int .i64 ((xs.getD k noEdge).t)) na3 rfl hs.2 rfl) rfl rfl rfl (GS.any rfl rfl (.idxA1 (((xs.getD k noEdge).f).toNat) underlying288 sz4 rfl rfl (by omega) (by omega)) rfl rfl rfl (GS.ef0 rfl rfl rfl rfl ?_)))))
    refine Ef.store sz4 rfl rfl (ak.le b) (by simp only[List.size_toArray,List.length_map,List.length_set];omega) rfl ?_
    intro az R S
    have R:Blk az h 288 ((bs.set (((xs.getD k noEdge).f).toNat) true).map Value.bool).toArray:=bset R
    have an:=al.tb S l y
    have ao:=(am.cn S (by have:=d.lt;omega))
    refine⟨⟨an,ao⟩,?_⟩
    refine GS.any rfl rfl (.idxA1 (((xs.getD k noEdge).t).toNat) underlying288 sz4 rfl rfl (by omega) (by omega)) rfl rfl rfl (GS.ef0 rfl rfl rfl rfl (Ef.store sz4 rfl rfl R (by simp only[List.size_toArray,List.length_map,List.length_set];omega) rfl ?_))
    intro aA T U
    have T:Blk aA h 288 (((bs.set (((xs.getD k noEdge).f).toNat) true).set (((xs.getD k noEdge).t).toNat) true).map Value.bool).toArray:=bset T
    have ap:=an.tb U l y
    refine⟨⟨ap,(ao.cn U (by have:=d.lt;omega))⟩,?_⟩
    refine GS.nil (E.blkN (E.thenN (WC.region (Wa (.add rfl rfl (by omega)) rfl (Wn 1 rfl (W.nil (E.again (k+1,((bs.set (xs.getD k noEdge).f.toNat true).set (xs.getD k noEdge).t.toNat true)) (.of rfl) ?_ ?_)))))))
    ·exact⟨by omega,by simp[hb],way_next hz (by assumption) (by intro h0;omega) hd (by assumption),been_next hb (by assumption) hd,ap,by have:=Y;have:=s.size;have:=u.size;have:=m.size;have:=e.size;have:=b.size;have:=S.size;have:=U.size;omega,T⟩
    first|omega|(simp only[];omega)
   refine Ga rfl (.dec (.move rfl) (congrArg not ((Bool.eq_false_iff.2 aa)))) (Gn 3 rfl (G.skipu rfl rfl rfl rfl rfl rfl (G.skipu rfl rfl rfl rfl rfl rfl (G.skipu rfl rfl rfl rfl rfl rfl (G.skipu rfl rfl rfl rfl rfl rfl ?_)))))
   refine G.skipu rfl rfl rfl rfl rfl rfl (G.skipu rfl rfl rfl rfl rfl rfl (G.skipu rfl rfl rfl rfl rfl rfl (G.skipu rfl rfl rfl rfl rfl rfl (G.skipu rfl rfl rfl rfl rfl rfl (Gn 8 rfl (G.nil (E.thenN (WC.condT rfl (Sr (Wn 1 rfl (Nx (Rt (E.thenR (E.blkR (E.thenR (E.thenR (E.blkR (E.thenR ?_))))))))))))))))))
   refine E.retG1 rfl rfl ?_
   exact⟨rB (dF (fun hr=>by have hr:=hr.2 k (by omega);first|exact absurd hr.1 (by assumption)|exact way_fail hz hd (by assumption) hr|(have:=hr.2.1;omega))).symm,i⟩
  refine Cn rfl (dF Z) (WC.exit (E.thenX (E.thenX (E.blkH (E.thenN (Sr (Wn 1 rfl (Nx (Rt (E.retG1 rfl rfl ?_))))))))))
  exact⟨rB (dT ⟨by have:=inB_T (by assumption:inB (n:Int) 1 8=true);omega,fun j hj=>hz j (by omega)⟩).symm,C⟩
 refine Cy rfl (congrArg not ((Bool.eq_false_iff.2 V))) (Sr (Wn 1 rfl (Nx (Rt (E.thenR (E.retG1 rfl rfl ?_))))))
 exact⟨rB (dF (fun hr=>by have:=inB_F (Bool.eq_false_iff.2 (by assumption:¬inB (n:Int) 1 8=true));have:=hr.1;omega)).symm,l⟩
end Go.Proofs.YtocheaahlpiajaaGreatDoor

namespace Go.Proofs.YtocheaahlpiajaaGreatDoor
open Tryz
open Go Go.Sx Go.Hsp Go.Num Go.Osp Go.Gsp
set_option maxRecDepth 20000
theorem cost_ok (a x:Int){A:Option Addr}{n c:Nat}{xs:List Gsp.Edge}(w:World)(hV:Vec w edgeV 9 A n xs)(hn:n<=1000000):Calls prog 38 #[.slice A n c,.int .i64 (a),.int .i64 (x)] w fun r w'=>∃A1 c1 A2 c2,r= .returned (.tuple #[.slice A1 (costG xs a x).1.length c1,.slice A2 (costG xs a x).2.1.length c2,.int .i64 (costG xs a x).2.2])/\OVec w' w.heap.size 3 iv 1 A1 (costG xs a x).1.length c1 (costG xs a x).1/\OVec w' w.heap.size 3 iv 1 A2 (costG xs a x).2.1.length c2 (costG xs a x).2.1/\Le w w':=by
 have hl:=hV.1
 refine enter func38 rfl rfl ?_
 have Z:=Le.refl w
 refine Sr (Wn 3 rfl (Nx (Sq (Sr (Wn 1 rfl (W.cl go101 rfl rfl (gway_ok w (hV.le Z) (by omega)) ?_))))))
 rintro _ aw ⟨rfl,ax⟩
 have L1:=Z.trans ax
 refine Wn 1 rfl (Nx ?_)
 by_cases c0:(wayG xs)=true
 ·refine Cn rfl (congrArg not (c0)) (Sn (Sq (Sr (Wn 1 rfl (W.cl go102 rfl rfl (gin_ok a 1 1125899906842624 aw) ?_)))))
  rintro _ ay ⟨rfl,az⟩
  have L2:=L1.trans az
  refine Wn 1 rfl ?_
  by_cases aa:(inB a 1 1125899906842624)=true
  ·refine Wa (.dec (.move rfl) (congrArg not (aa))) rfl (Wn 1 rfl (W.efg rfl rfl rfl (rfl) rfl rfl (Ef.call go102 rfl rfl (gin_ok x 1 1048576 ay) ?_)))
   rintro _ e ⟨rfl,aA⟩
   refine⟨_,rfl,?_⟩
   have z:=L2.trans aA
   refine Wn 2 rfl (Nx ?_)
   by_cases c1:(inB x 1 1048576)=true
   ·refine Cn rfl (congrArg not (c1)) ?_
    have hwl:=wayG_len (by assumption:wayG xs=true)
    have aV:=inB_T (by assumption:inB a 1 1125899906842624=true)
    have aW:=inB_T (by assumption:inB x 1 1048576=true)
    refine Sn (WC.cut (ι:=Nat×Nat) (fun⟨k,s⟩=>[(0,.slice A n c),(1,.int .i64 (a)),(2,.int .i64 (x)),(9,.slice (some ⟨k,0,none⟩) n n),(10,.slice (some ⟨s,0,none⟩) n n)]) (fun⟨k,s⟩ t=>Le w t/\e.heap.size<=t.heap.size/\OVec t e.heap.size 3 iv 1 (some ⟨k,0,none⟩) n n (List.replicate n 0)/\OVec t e.heap.size 3 iv 1 (some ⟨s,0,none⟩) n n (List.replicate n 0)/\Apart (some ⟨k,0,none⟩) n (some ⟨s,0,none⟩) n) ?_ ?_)
    ·refine WC.drawT (fun o=>(app o [0,1,3,4] (.br (app o [2,6,5,7] .nil) (app o [5,2,6,7] .nil)))) mixed (by kernel_rfl) fun w5 u=>?_
     have L4:=z.trans u
     refine GT.app (Gn 1 rfl (Gd rfl (.len underlying32 rfl) (Gn 1 rfl (Gd rfl (.len underlying32 rfl) (G.nil ?_)))))
     refine GT.br ?_ ?_
     ·refine GT.last (G.ef rfl rfl rfl rfl rfl (Ef.vmake 0 n underlying23 el3 iv_row rfl rfl (rfl) rfl (rfl) (by omega) (by unfold maxLen;omega) ?_))
      intro aB aX aY ab K
      refine⟨fun _=>K,?_⟩
      refine Gn 1 rfl (G.ef rfl rfl rfl rfl rfl (Ef.vmake 0 n underlying23 el3 iv_row rfl rfl (rfl) rfl (rfl) (by omega) (by unfold maxLen;omega) ?_))
      intro aC aZ a0 ac L
      refine⟨fun _=>L,?_⟩
      refine Gn 1 rfl (G.nil (E.meet (aB,aC) (.of rfl) ?_))
      exact⟨((L4.trans K).trans L),by have:=u.size;have:=K.size;have:=L.size;omega,((ab.le L).mono (by have:=u.size;omega)),(ac.mono (by have:=u.size;have:=K.size;omega)),(fun q T U=>by have:=(ab.row T).2;have:=(ac.row U).1;omega)⟩
     refine GT.last (G.ef rfl rfl rfl rfl rfl (Ef.vmake 0 n underlying23 el3 iv_row rfl rfl (rfl) rfl (rfl) (by omega) (by unfold maxLen;omega) ?_))
     intro aE a1 a2 ad N
     refine⟨fun _=>N,?_⟩
     refine G.ef rfl rfl rfl rfl rfl (Ef.vmake 0 n underlying23 el3 iv_row rfl rfl (rfl) rfl (rfl) (by omega) (by unfold maxLen;omega) ?_)
     intro aF a3 a4 ae O
     refine⟨fun _=>O,?_⟩
     refine Gn 2 rfl (G.nil (E.meet (aF,aE) (.of rfl) ?_))
     exact⟨((L4.trans N).trans O),by have:=u.size;have:=N.size;have:=O.size;omega,(ae.mono (by have:=u.size;have:=N.size;omega)),((ad.le O).mono (by have:=u.size;omega)),(Apart.symm (fun q T U=>by have:=(ad.row T).2;have:=(ae.row U).1;omega))⟩
    rintro⟨k,s⟩ t ⟨aG,af,ah,ai,V⟩
    have a5:e.heap.size<=t.heap.size:=by have:=af;omega
    have aj:e.heap.size<=t.heap.size:=by have:=af;omega
    refine Sq (Sr (Wn 1 rfl (Wr (.len underlying32 rfl) rfl (Wa (.sub rfl rfl (by omega)) rfl (Wn 1 rfl (Nx (WC.block ?_)))))))
    refine WC.loop (ι:=Nat×Int×Int×(Option (Int×Int))×(List (Int×Int))) (fun⟨j,am,ex,nx,l⟩=>[(0,.slice A n c),(1,.int .i64 (am)),(2,.int .i64 (ex)),(9,.slice (some ⟨k,0,none⟩) n n),(10,.slice (some ⟨s,0,none⟩) n n),(11,.int .i64 (((j:Nat):Int)-1))]) (fun⟨j,am,ex,nx,l⟩ y=>(j<=n)/\(l.length=n-j)/\(costF a x (xs.drop j)= .ok (nx,l))/\(0<j->nx=some (am,ex)/\0<=am/\am<=1125899906842624/\0<=ex/\ex<=2097152)/\Le w y/\t.heap.size<=y.heap.size/\OVec y e.heap.size 3 iv 1 (some ⟨k,0,none⟩) n n (List.replicate j 0++l.map Prod.fst)/\OVec y e.heap.size 3 iv 1 (some ⟨s,0,none⟩) n n (List.replicate j 0++l.map Prod.snd)) (fun⟨j,am,ex,nx,l⟩=>j) (n,a,x,some (a,x),[]) ?_ ?_ ?_
    ·exact .of rfl
    ·exact⟨Nat.le_refl _,by simp,by rw[List.drop_of_length_le (by omega)];rfl,fun _=>⟨rfl,by omega,by omega,by omega,by omega⟩,aG,Nat.le_refl _,(ah).cast rfl (by simp),(ai).cast rfl (by simp)⟩
    rintro⟨j,am,ex,nx,l⟩ y ⟨hj,hll,hF,hnx,P,ak,Q,R⟩
    have a6:e.heap.size<=y.heap.size:=Nat.le_trans aj (by omega)
    have a7:e.heap.size<=y.heap.size:=Nat.le_trans aj (by omega)
    refine Sq (Sr (Wn 2 rfl (Nx ?_)))
    by_cases c2:0<=(((j:Nat):Int)-1)
    ·refine Cy rfl (dT c2) ?_
     obtain⟨rfl,a8,a9,ba,bb⟩:=hnx (by omega)
     have hok:=edgeOk_T (wayG_at (by assumption:wayG xs=true) (i:=j-1) (by omega)).1
     have hpk:=polOk_T hok.2.2.2.2.2
     have hpI:=polI_ok hok.2.2.2.2.2
     refine Sn (Sq (WC.block (Sr (Wn 2 rfl (Wa (.idxS ((j-1)) underlying32 sz81 rfl rfl (hV.isSome edgeV_row (by omega)) (by omega) (by omega)) rfl (Wr (.vload ag81 rfl (hV.le P) edgeV_row (getS xs noEdge (by omega))) rfl (W.ef rfl rfl rfl (Ef.allocA z81 fun al aH aI (aJ:Blk aH al 81 (edgeV noEdge).toArray) H=>(W.ef0 rfl rfl ?_)))))))))
     refine Ef.storeAll sz81 (by rfl) rfl rfl aJ (by simp only[List.size_toArray,edgeV_row.len]) (edgeV_row.one (xs.getD (j-1) noEdge)) ?_
     intro an C I
     have C:Blk an al 81 (edgeV (xs.getD (j-1) noEdge)).toArray:=C
     refine Nx (Sq (WC.block (Sr (Wn 1 rfl (Wa (.field0 fa81_4 rfl) rfl (Wa (.field2 fa79_3 rfl) rfl (Wr (.loadB (v:= .int .i64 ((xs.getD (j-1) noEdge).pol.l)) na3 rfl C rfl) rfl (Wa (.field0 fa81_4 rfl) rfl (Wa (.field2 fa79_4 rfl) rfl ?_)))))))))
     refine Wr (.loadB (v:= .int .i64 ((xs.getD (j-1) noEdge).pol.m)) na3 rfl C rfl) rfl (Wa (.field0 fa81_3 rfl) rfl (Wr (.loadB (v:= .int .i64 ((xs.getD (j-1) noEdge).r)) na3 rfl C rfl) rfl (Wr (.min2 rfl rfl) rfl (W.cl go102 rfl rfl (gin_ok am ((xs.getD (j-1) noEdge).pol.l) (min ((xs.getD (j-1) noEdge).pol.m) ((xs.getD (j-1) noEdge).r)) an) ?_))))
     rintro _ bc ⟨rfl,D⟩
     have X:=((P.trans H).tb I P aI).trans D
     refine Wn 2 rfl (Nx ?_)
     by_cases c3:(inB am ((xs.getD (j-1) noEdge).pol.l) (min ((xs.getD (j-1) noEdge).pol.m) ((xs.getD (j-1) noEdge).r)))=true
     ·refine Cn rfl (congrArg not (c3)) (Sr (Wn 3 rfl (Nx ?_)))
      by_cases c4:1048576<ex
      ·refine Cy rfl (dT c4) (Sr (Wn 3 rfl (Nx (Rt (E.blkR (E.thenR (E.blkR (E.thenR (E.thenR (E.blkR (E.thenR (E.retG3 rfl rfl rfl rfl ?_))))))))))))
       have hc:costG xs a x=([],[],16):=costG_er (by assumption) (by assumption) (by assumption) (costF_late (by omega) (by omega) hF (by assumption) (by omega))
       exact⟨none,0,none,0,by rw[hc];rfl,by rw[hc];exact OVec.nil _ _ _ _ _ _,by rw[hc];exact OVec.nil _ _ _ _ _ _,X⟩
      refine Cn rfl (dF c4) (WC.skip (E.blkN (E.thenN (Sr (Wn 6 rfl (Wa (.idxS ((j-1)) underlying23 sz3 rfl rfl (ah.vec.isSome iv_row (by omega)) (by omega) (by omega)) rfl ?_))))))
      have ao:=(((Q.le H).cb I (Q.rn (by omega))).le D)
      refine W.ef0 rfl rfl (Ef.vset (j:=(j-1)) (o:=0) am sz3 rfl (by omega) rfl ao iv_row (getS (List.replicate j 0++l.map Prod.fst) 0 (by simp;omega)) (by decide) rfl rfl ?_)
      intro bd aK J
      have ap:=aK.cast (m':=n) (ys:=(List.replicate (j-1) 0++am::l.map Prod.fst)) (rfl) (rep_set _ _ _ (by omega))
      refine Wa (.idxS ((j-1)) underlying23 sz3 rfl rfl (ai.vec.isSome iv_row (by omega)) (by omega) (by omega)) rfl ?_
      have aq:=((((R.le H).cb I (R.rn (by omega))).le D).ch J (V))
      refine W.ef0 rfl rfl (Ef.vset (j:=(j-1)) (o:=0) ex sz3 rfl (by omega) rfl aq iv_row (getS (List.replicate j 0++l.map Prod.snd) 0 (by simp;omega)) (by decide) rfl rfl ?_)
      intro aL aM F
      have ar:=aM.cast (m':=n) (ys:=(List.replicate (j-1) 0++ex::l.map Prod.snd)) (rfl) (rep_set _ _ _ (by omega))
      refine Nx (Sr (Wa (.field0 fa81_4 rfl) rfl ?_))
      have Y:=(((C.le D).ch J (Q.rn (by omega))).ch F (R.rn (by omega)))
      refine Wr (.bpart (polV ((xs.getD (j-1) noEdge).pol)) ag79 rfl (by decide) rfl Y rfl) rfl (Wn 1 rfl (W.cl go103 rfl rfl (hfee_ok ((xs.getD (j-1) noEdge).pol) am hpI aL) ?_))
      rintro _ aO ⟨rfl,f⟩
      refine Wn 5 rfl (Nx (Sr (Wn 2 rfl (W.cl go104 rfl rfl (nadd_ok am ((feeG ((xs.getD (j-1) noEdge).pol) am).1) aO) ?_))))
      rintro _ be ⟨rfl,h⟩
      have S:=(((X.then_ J (fun q hq=>Nat.le_trans z.size (ao.row hq).1)).then_ F (fun q hq=>Nat.le_trans z.size (aq.row hq).1)).trans f).trans h
      refine Wn 5 rfl (Nx (Sq (Sr (Wn 2 rfl ?_))))
      by_cases au:0<(((j:Nat):Int)-1)
      ·refine Dt au rfl rfl (Wn 2 rfl ?_)
       by_cases av:((feeG ((xs.getD (j-1) noEdge).pol) am).2)=true
       ·refine Wg (Any.rd (.dec (.move rfl) (congrArg not (av))) _) rfl (Wn 2 rfl (Wg (Any.rd (.pickF rfl rfl rfl) _) rfl (Wn 1 rfl (Nx ?_))))
        by_cases c5:((addC am ((feeG ((xs.getD (j-1) noEdge).pol) am).1)).2)=true
        ·refine Cn rfl (congrArg not (c5)) (Sn (WC.draw [0,1,2,3,4,5,6,7] mixed (by kernel_rfl) fun aP b=>(Gn 2 rfl (Ga rfl (.field0 fa81_4 rfl) (Ga rfl (.field2 fa79_2 rfl) ?_)))))
         refine Gd rfl (.loadB (v:= .int .i64 ((xs.getD (j-1) noEdge).pol.d)) na3 rfl (Y.le (f.trans (h.trans b))) rfl) (Ga rfl (.add rfl rfl (by omega)) (Gn 2 rfl (G.nil (E.blkN (E.thenN (WC.region (Wn 1 rfl (Wa (.sub rfl rfl (by omega)) rfl (Wn 1 rfl (W.nil ?_))))))))))
         have aQ:=((ap.ch F ((Apart.symm V))).le (f.trans (h.trans b)))
         have aR:=(ar.le (f.trans (h.trans b)))
         refine E.again (j-1,(addC am (feeG (xs.getD (j-1) noEdge).pol am).1).1,ex+(xs.getD (j-1) noEdge).pol.d,nextC (xs.getD (j-1) noEdge) am ex,(am,ex)::l) (.cons rfl (.cons rfl (.cons rfl (.cons rfl (.cons rfl (.cons' rfl (int_eq (by omega)) (.nil _))))))) ?_ ?_
         ·exact⟨by omega,by simp;omega,costF_step (by omega) (by omega) hF (by assumption) (by omega),fun h0=>by first|(exfalso;omega)|(have hv:=addC_val (by assumption:(addC am (feeG (xs.getD (j-1) noEdge).pol am).1).2=true);rw[hv.1];exact⟨by rw[nextC_some (by assumption) (by assumption),hv.1],by omega,by omega,by omega,by omega⟩),(S.trans b),by have:=ak;have:=H.size;have:=I.size;have:=D.size;have:=J.size;have:=F.size;have:=f.size;have:=h.size;have:=b.size;omega,aQ,aR⟩
         first|omega|(simp only[];omega)
        refine Cy rfl (congrArg not ((Bool.eq_false_iff.2 c5))) (Sr (Wn 3 rfl (Nx (Rt (E.thenR (E.blkR (E.thenR (E.thenR (E.blkR (E.thenR (E.retG3 rfl rfl rfl rfl ?_)))))))))))
        have hc:costG xs a x=([],[],6):=costG_er (by assumption) (by assumption) (by assumption) (by first|exact costF_six (by omega) (by omega) hF (by assumption)|exact costF_none (j:=j-1) (by omega) (by omega) (by rw[costF_step (by omega) (by omega) hF (by assumption) (by omega),nextC_none (by first|exact .inl (by assumption)|exact .inr (by assumption))]))
        exact⟨none,0,none,0,by rw[hc];rfl,by rw[hc];exact OVec.nil _ _ _ _ _ _,by rw[hc];exact OVec.nil _ _ _ _ _ _,S⟩
       refine Wg (Any.rd (.dec (.move rfl) (congrArg not ((Bool.eq_false_iff.2 av)))) _) rfl (Wn 2 rfl (Wg (Any.rd (.pickT rfl rfl rfl) _) rfl (Wn 1 rfl (Nx (WC.condT rfl (Sr (Wn 3 rfl (Nx (Rt (E.thenR (E.blkR (E.thenR (E.thenR (E.blkR (E.thenR (E.retG3 rfl rfl rfl rfl ?_))))))))))))))))
       have hc:costG xs a x=([],[],6):=costG_er (by assumption) (by assumption) (by assumption) (by first|exact costF_six (by omega) (by omega) hF (by assumption)|exact costF_none (j:=j-1) (by omega) (by omega) (by rw[costF_step (by omega) (by omega) hF (by assumption) (by omega),nextC_none (by first|exact .inl (by assumption)|exact .inr (by assumption))]))
       exact⟨none,0,none,0,by rw[hc];rfl,by rw[hc];exact OVec.nil _ _ _ _ _ _,by rw[hc];exact OVec.nil _ _ _ _ _ _,S⟩
      refine Df au rfl rfl (Wn 3 rfl (W.skipu rfl rfl rfl rfl rfl (W.skipu rfl rfl rfl rfl rfl (Wn 2 rfl (Nx (WC.condF rfl (Sn (WC.draw [0,1,2,3,4,5,6,7] mixed (by kernel_rfl) fun aP b=>(Gn 2 rfl ?_)))))))))
      refine Ga rfl (.field0 fa81_4 rfl) (Ga rfl (.field2 fa79_2 rfl) (Gd rfl (.loadB (v:= .int .i64 ((xs.getD (j-1) noEdge).pol.d)) na3 rfl (Y.le (f.trans (h.trans b))) rfl) (Ga rfl (.add rfl rfl (by omega)) (Gn 2 rfl (G.nil (E.blkN (E.thenN (WC.region (Wn 1 rfl (Wa (.sub rfl rfl (by omega)) rfl ?_))))))))))
      refine Wn 1 rfl (W.nil ?_)
      have aS:=((ap.ch F ((Apart.symm V))).le (f.trans (h.trans b)))
      have aT:=(ar.le (f.trans (h.trans b)))
      refine E.again (j-1,(addC am (feeG (xs.getD (j-1) noEdge).pol am).1).1,ex+(xs.getD (j-1) noEdge).pol.d,nextC (xs.getD (j-1) noEdge) am ex,(am,ex)::l) (.cons rfl (.cons rfl (.cons rfl (.cons rfl (.cons rfl (.cons' rfl (int_eq (by omega)) (.nil _))))))) ?_ ?_
      ·exact⟨by omega,by simp;omega,costF_step (by omega) (by omega) hF (by assumption) (by omega),fun h0=>by first|(exfalso;omega)|(have hv:=addC_val (by assumption:(addC am (feeG (xs.getD (j-1) noEdge).pol am).1).2=true);rw[hv.1];exact⟨by rw[nextC_some (by assumption) (by assumption),hv.1],by omega,by omega,by omega,by omega⟩),(S.trans b),by have:=ak;have:=H.size;have:=I.size;have:=D.size;have:=J.size;have:=F.size;have:=f.size;have:=h.size;have:=b.size;omega,aS,aT⟩
      first|omega|(simp only[];omega)
     refine Cy rfl (congrArg not ((Bool.eq_false_iff.2 c3))) (Sr (Wn 3 rfl (Nx (Rt (E.blkR (E.thenR (E.blkR (E.thenR (E.thenR (E.blkR (E.thenR (E.retG3 rfl rfl rfl rfl ?_))))))))))))
     have hc:costG xs a x=([],[],6):=costG_er (by assumption) (by assumption) (by assumption) (by first|exact costF_six (by omega) (by omega) hF (by assumption)|exact costF_none (j:=j-1) (by omega) (by omega) (by rw[costF_step (by omega) (by omega) hF (by assumption) (by omega),nextC_none (by first|exact .inl (by assumption)|exact .inr (by assumption))]))
     exact⟨none,0,none,0,by rw[hc];rfl,by rw[hc];exact OVec.nil _ _ _ _ _ _,by rw[hc];exact OVec.nil _ _ _ _ _ _,X⟩
    refine Cn rfl (dF c2) ?_
    have aU:j=0:=by omega
    refine WC.exit (E.thenX (E.thenX (E.blkH (E.thenN (Sr (Wn 5 rfl (Nx (Rt (E.retG3 rfl rfl rfl rfl ?_)))))))))
    have hc:=costG_ok (by assumption) (by assumption) (by assumption) (show costF a x xs= .ok (nx,l) by rw[show j=0 by omega]at hF;exact hF)
    subst aU
    exact⟨some ⟨k,0,none⟩,n,some ⟨s,0,none⟩,n,by rw[hc];simp[show l.length=n by omega],by rw[hc];exact((Q.mono z.size)).cast (by simp;omega) (by simp),by rw[hc];exact((R.mono z.size)).cast (by simp;omega) (by simp),P⟩
   refine Cy rfl (congrArg not ((Bool.eq_false_iff.2 c1))) (Sr (Wn 3 rfl (Nx (Rt (E.thenR (E.retG3 rfl rfl rfl rfl ?_))))))
   have hc:costG xs a x=([],[],1):=costG_arg (by assumption) (by first|exact .inl (by assumption)|exact .inr (by assumption))
   exact⟨none,0,none,0,by rw[hc];rfl,by rw[hc];exact OVec.nil _ _ _ _ _ _,by rw[hc];exact OVec.nil _ _ _ _ _ _,z⟩
  refine Wa (.dec (.move rfl) (congrArg not ((Bool.eq_false_iff.2 aa)))) rfl (Wn 4 rfl (Nx (WC.condT rfl (Sr (Wn 3 rfl (Nx (Rt (E.thenR (E.retG3 rfl rfl rfl rfl ?_)))))))))
  have hc:costG xs a x=([],[],1):=costG_arg (by assumption) (by first|exact .inl (by assumption)|exact .inr (by assumption))
  exact⟨none,0,none,0,by rw[hc];rfl,by rw[hc];exact OVec.nil _ _ _ _ _ _,by rw[hc];exact OVec.nil _ _ _ _ _ _,L2⟩
 refine Cy rfl (congrArg not ((Bool.eq_false_iff.2 c0))) (Sr (Wn 3 rfl (Nx (Rt (E.thenR (E.retG3 rfl rfl rfl rfl ?_))))))
 have hc:costG xs a x=([],[],19):=costG_way (by assumption)
 exact⟨none,0,none,0,by rw[hc];rfl,by rw[hc];exact OVec.nil _ _ _ _ _ _,by rw[hc];exact OVec.nil _ _ _ _ _ _,L1⟩
end Go.Proofs.YtocheaahlpiajaaGreatDoor

namespace Go.Proofs.YtocheaahlpiajaaGreatDoor
open Tryz
open Go Go.Sx Go.Hsp Go.Num Go.Osp Go.Gsp
set_option maxRecDepth 20000
theorem eqv_pol {d:Nat}(a b:Pol):Eqv prog (d+2) 79 (.agg (polV a).toArray) (.agg (polV b).toArray) (decide (a=b)):=by
  have h:=Eqv.ints (P:=prog) (d:=d) (t:=79) (polV a) (polV b) [(.i64,0),(.i64,1),(.i64,2),(.i64,3),(.i64,4)] (by kernel_rfl) (by kernel_rfl) (by
    rw[show(prog.fieldsOf 79)=_ from(by unfold Program.fieldsOf;rw[underlying79])]
    exact⟨by decide,rfl,underlying3,⟨_,_,rfl,rfl⟩,by decide,rfl,underlying3,⟨_,_,rfl,rfl⟩,by decide,rfl,underlying3,⟨_,_,rfl,rfl⟩,by decide,rfl,underlying3,⟨_,_,rfl,rfl⟩,by decide,rfl,underlying3,⟨_,_,rfl,rfl⟩,trivial⟩)
  have e:eqAll (polV a) (polV b) [(.i64,0),(.i64,1),(.i64,2),(.i64,3),(.i64,4)]=decide (a=b):=by
    obtain⟨c,f,i,j,k⟩:=a
    obtain⟨l,m,n,o,s⟩:=b
    simp only[eqAll,polV,List.getElem?_cons_zero,List.getElem?_cons_succ,Pol.mk.injEq]
    rw[Bool.eq_iff_iff]
    simp only[Bool.and_eq_true,decide_eq_true_eq,Bool.and_true]
  rw[e]at h
  exact h
theorem eqv_edge {d:Nat}(a b:Gsp.Edge):Eqv prog (d+3) 81 (.agg (edgeV a).toArray) (.agg (edgeV b).toArray) (decide (a=b)):=by
  have h:=Eqv.struct (P:=prog) (d:=d+2) (t:=81) (edgeV a).toArray (edgeV b).toArray [(0,.int .i64 a.f,.int .i64 b.f,decide (a.f=b.f)),(1,.int .i64 a.t,.int .i64 b.t,decide (a.t=b.t)),(2,.int .i64 a.c,.int .i64 b.c,decide (a.c=b.c)),(3,.int .i64 a.r,.int .i64 b.r,decide (a.r=b.r)),(4,.agg (polV a.pol).toArray,.agg (polV b.pol).toArray,decide (a.pol=b.pol))] (by kernel_rfl) (by kernel_rfl) (by
    rw[show(prog.fieldsOf 81)=_ from(by unfold Program.fieldsOf;rw[underlying81])]
    exact⟨by decide,rfl,run_part1 na3 rfl,run_part1 na3 rfl,Eqv.int _ _ underlying3,by decide,rfl,run_part1 na3 rfl,run_part1 na3 rfl,Eqv.int _ _ underlying3,by decide,rfl,run_part1 na3 rfl,run_part1 na3 rfl,Eqv.int _ _ underlying3,by decide,rfl,run_part1 na3 rfl,run_part1 na3 rfl,Eqv.int _ _ underlying3,by decide,rfl,run_partA (polV a.pol) ag79 rfl rfl,run_partA (polV b.pol) ag79 rfl rfl,eqv_pol _ _,trivial⟩)
  have e:(decide (a.f=b.f)&&(decide (a.t=b.t)&&(decide (a.c=b.c)&&(decide (a.r=b.r)&&(decide (a.pol=b.pol)&&true)))))=decide (a=b):=by
    obtain⟨i,j,k,l,m⟩:=a
    obtain⟨n,o,s,u,v⟩:=b
    rw[Bool.eq_iff_iff]
    simp[Gsp.Edge.mk.injEq]
  have h':Eqv prog (d+3) 81 (.agg (edgeV a).toArray) (.agg (edgeV b).toArray) (decide (a.f=b.f)&&(decide (a.t=b.t)&&(decide (a.c=b.c)&&(decide (a.r=b.r)&&(decide (a.pol=b.pol)&&true))))):=h
  rw[e]at h'
  exact h'

theorem same_ok {A B:Option Addr}{n c m d:Nat}{xs ys:List (Gsp.Edge)}(w:World)(hV:Vec w edgeV 9 A n xs)(hU:Vec w edgeV 9 B m ys)(hn:n<=1000000):Calls prog 47 #[.slice A n c,.slice B m d] w fun r w'=>r= .returned (.bool (decide (xs=ys)))/\Le w w':=by
 have hl:=hV.1
 have hm:=hU.1
 refine enter func47 rfl rfl ?_
 have i:=Le.refl w
 refine Sr (Wn 1 rfl (Nx (Sq (Sr (Wn 1 rfl (Wr (.len underlying32 rfl) rfl (Wn 1 rfl (Wr (.len underlying32 rfl) rfl (Wn 1 rfl (Nx ?_))))))))))
 by_cases l:((n:Nat):Int)≠((m:Nat):Int)
 ·refine Cy rfl (dT l) (Sr (Wn 1 rfl (Nx (Rt (E.thenR (E.retG1 rfl rfl ?_))))))
  exact⟨rB (dF (fun h=>by subst h;first|omega|exact absurd rfl (by assumption))).symm,i⟩
 refine Cn rfl (dF l) (Sn (Sq (Sr (Wn 1 rfl (Nx (WC.block (WC.loop (ι:=Nat) (fun k=>[(0,.slice A n c),(1,.slice B m d),(5,.int .i64 (((k:Nat):Int)))]) (fun k f=>(k<=n)/\(∀j,j<k->xs.getD j noEdge=ys.getD j noEdge)/\Le w f/\w.heap.size<=f.heap.size) (fun k=>n-k) 0 ?_ ?_ ?_)))))))
 ·exact .of rfl
 ·exact⟨Nat.zero_le _,fun j hj=>absurd hj (Nat.not_lt_zero _),i,Nat.le_refl _⟩
 rintro k f ⟨hk,hz,o,u⟩
 refine Sq (Sr (Wn 2 rfl (Wr (.len underlying32 rfl) rfl (Wn 1 rfl (Nx ?_)))))
 by_cases s:((k:Nat):Int)<((n:Nat):Int)
 ·refine Cy rfl (dT s) (Sn (Sq (WC.block (Sq (WC.draw [0,1,2,3,4,5,6,7,8] mixed (by kernel_rfl) fun v t=>?_)))))
  have b:=o.trans t
  refine Gn 2 rfl (Ga rfl (.idxS (k) underlying32 sz81 rfl rfl (hV.isSome edgeV_row (by omega)) (rfl) (by omega)) (Gd rfl (.vload ag81 rfl (hV.le b) edgeV_row (getS xs noEdge (by omega))) (Gn 2 rfl (Ga rfl (.idxS (k) underlying32 sz81 rfl rfl (hU.isSome edgeV_row (by omega)) (rfl) (by omega)) (Gd rfl (.vload ag81 rfl (hU.le b) edgeV_row (getS ys noEdge (by omega))) ?_)))))
  refine Ga rfl (.neA eg81 rfl rfl (eqv_edge (d:=9997) _ _)) (G.nil (E.thenN ?_))
  by_cases e:(xs.getD k noEdge)=(ys.getD k noEdge)
  ·refine Cn rfl (congrArg not (dT e)) (WC.skip (E.blkN (E.thenN (WC.region (Wn 1 rfl (Wa (.add rfl rfl (by omega)) rfl (Wn 1 rfl (W.nil (E.again (k+1) (.of rfl) ?_ ?_)))))))))
   ·exact⟨by omega,fun j hj=>by rcases Nat.lt_or_ge j k with h|h;exact hz j h;rw[show j=k by omega];first|exact Decidable.not_not.1 e|exact e,b,by have:=u;have:=t.size;omega⟩
   first|omega|(simp only[];omega)
  refine Cy rfl (congrArg not (dF e)) (Sr (Wn 1 rfl (Nx (Rt (E.blkR (E.thenR (E.thenR (E.blkR (E.thenR (E.retG1 rfl rfl ?_))))))))))
  exact⟨rB (dF (fun h=>by subst h;first|omega|exact absurd rfl (by assumption))).symm,b⟩
 refine Cn rfl (dF s) (WC.exit (E.thenX (E.thenX (E.blkH (E.thenN (Sr (Wn 1 rfl (Nx (Rt (E.retG1 rfl rfl ?_))))))))))
 exact⟨rB (dT (ext_getD (by omega) (fun j hj=>hz j (by omega)))).symm,o⟩
end Go.Proofs.YtocheaahlpiajaaGreatDoor

namespace Go.Proofs.YtocheaahlpiajaaGreatDoor
open Tryz
open Go Go.Sx Go.Hsp Go.Num Go.Osp Go.Gsp
set_option maxRecDepth 20000
theorem insort_ok (a b:Nat){base:Nat}{A:Option Addr}{n c:Nat}{xs:List Gsp.Edge}(w:World)(hO:OVec w base 81 edgeV 9 A n c xs)(hb:b<=n)(hn:n<=1000000)(ha:a<=n):Calls prog 288 #[.slice A n c,.int .i64 (((a:Nat):Int)),.int .i64 (((b:Nat):Int)),.func (.func 162) #[] #[]] w fun r w'=>r= .returned (.tuple #[])/\OVec w' base 81 edgeV 9 A n c (isort a b xs)/\Ch w w' (rowOf A c):=by
 have hl:=hO.1
 refine enter func288 rfl rfl (Sr (Wn 1 rfl (Wa (.add rfl rfl (by omega)) rfl (Wn 1 rfl (Nx (WC.block (WC.loop (ι:=Nat×(List Gsp.Edge)) (fun⟨i,ys⟩=>[(0,.slice A n c),(1,.int .i64 (((a:Nat):Int))),(2,.int .i64 (((b:Nat):Int))),(3,.func (.func 162) #[] #[]),(8,.int .i64 (((i:Nat):Int)))]) (fun⟨i,ys⟩ f=>(a+1<=i)/\(ys.length=n)/\(isoC a b i ys=isort a b xs)/\Ch w f (rowOf A c)/\w.heap.size<=f.heap.size/\OVec f base 81 edgeV 9 A n c ys) (fun⟨i,ys⟩=>b-i) (a+1,xs) ?_ ?_ ?_)))))))
 ·exact .of rfl
 ·exact⟨Nat.le_refl _,hl,rfl,(Ch.refl w (rowOf A c)),Nat.le_refl _,hO⟩
 rintro⟨i,ys⟩ f ⟨hi,hyl,hF,u,v,x⟩
 refine Sq (Sr (Wn 3 rfl (Nx ?_)))
 by_cases y:((i:Nat):Int)<((b:Nat):Int)
 ·refine Cy rfl (dT y) (Sn (Sq (WC.block (Sr (Wn 2 rfl (Nx (WC.block (WC.loop (ι:=Nat×(List Gsp.Edge)) (fun⟨j,zs⟩=>[(0,.slice A n c),(1,.int .i64 (((a:Nat):Int))),(2,.int .i64 (((b:Nat):Int))),(3,.func (.func 162) #[] #[]),(8,.int .i64 (((i:Nat):Int))),(9,.int .i64 (((j:Nat):Int)))]) (fun⟨j,zs⟩ l=>(a<=j)/\(j<=i)/\(zs.length=n)/\(bub a j zs=bub a i ys)/\Ch w l (rowOf A c)/\f.heap.size<=l.heap.size/\OVec l base 81 edgeV 9 A n c zs) (fun⟨j,zs⟩=>j) (i,ys) ?_ ?_ ?_))))))))
  ·exact .of rfl
  ·exact⟨by omega,Nat.le_refl _,hyl,rfl,u,Nat.le_refl _,x⟩
  rintro⟨j,zs⟩ l ⟨P,Q,hzl,hG,K,o,z⟩
  refine Sq (Sq (WC.draw [0,1,2,3,4,5,6,7,8,9,10,11,12,13,14,15,16] mixed (by kernel_rfl) fun L d=>?_))
  have C:=K.trans (d.ch _)
  refine Gn 3 rfl ?_
  by_cases D:((a:Nat):Int)<((j:Nat):Int)
  ·refine Ga rfl (.dec (.move rfl) (dT D)) (Gn 3 rfl (Gag rfl (.idxS (j) underlying32 sz81 rfl rfl (hO.vec.isSome edgeV_row (by omega)) (rfl) (by omega)) ?_))
   have m:=(z.le d)
   refine Gdg rfl (.vload ag81 rfl m.vec edgeV_row (getS zs noEdge (by omega))) (Gn 2 rfl (Gag rfl (.sub rfl rfl (by omega)) (Gag rfl (.idxS ((j-1)) underlying32 sz81 rfl rfl (hO.vec.isSome edgeV_row (by omega)) (by omega) (by omega)) (Gdg rfl (.vload ag81 rfl m.vec edgeV_row (getS zs noEdge (by omega))) (G.efg rfl rfl rfl rfl rfl (rfl) rfl rfl ?_)))))
   refine Ef.call go162 rfl rfl (order_ok (zs.getD j noEdge) (zs.getD (j-1) noEdge) L) ?_
   rintro _ R ⟨rfl,e⟩
   refine⟨_,rfl,?_⟩
   refine⟨fun _=>e,?_⟩
   have F:=C.trans (e.ch _)
   refine Gn 2 rfl (G.nil (E.thenN ?_))
   by_cases H:(ordE (zs.getD j noEdge) (zs.getD (j-1) noEdge))<0
   ·refine Cy rfl (dT H) (Sn (Sq (WC.block (WC.draw [0,1,2,3,4,5,6,7,8,9,10,11,12,13,14,15,16,17] mixed (by kernel_rfl) fun S s=>(Gn 4 rfl (Ga rfl (.sub rfl rfl (by omega)) (Gn 2 rfl ?_)))))))
    refine Ga rfl (.sub rfl rfl (by omega)) (Ga rfl (.idxS ((j-1)) underlying32 sz81 rfl rfl (hO.vec.isSome edgeV_row (by omega)) (by omega) (by omega)) ?_)
    have t:=(m.le (e.trans s))
    refine Gd rfl (.vload ag81 rfl t.vec edgeV_row (getS zs noEdge (by omega))) (Gn 2 rfl (Ga rfl (.idxS (j) underlying32 sz81 rfl rfl (hO.vec.isSome edgeV_row (by omega)) (rfl) (by omega)) (Gd rfl (.vload ag81 rfl t.vec edgeV_row (getS zs noEdge (by omega))) (Ga rfl (.idxS (j) underlying32 sz81 rfl rfl (hO.vec.isSome edgeV_row (by omega)) (rfl) (by omega)) (G.ef0 rfl rfl rfl rfl ?_)))))
    refine Ef.vput (j:=j) (zs.getD (j-1) noEdge) sz81 rfl rfl rfl t edgeV_row (by omega) fun T N I=>(noT (by kernel_rfl) (Ga rfl (.idxS ((j-1)) underlying32 sz81 rfl rfl (hO.vec.isSome edgeV_row (by omega)) (by omega) (by omega)) (G.ef0 rfl rfl rfl rfl (Ef.vput (j:=(j-1)) (zs.getD j noEdge) sz81 rfl rfl rfl N edgeV_row (by omega) fun U O J=>(noT (by kernel_rfl) ?_)))))
    refine G.nil (E.blkN (E.thenN (WC.region (Wn 1 rfl (Wa (.sub rfl rfl (by omega)) rfl (Wn 1 rfl (W.nil (E.again (j-1,((zs.set j (zs.getD (j-1) noEdge)).set (j-1) (zs.getD j noEdge))) (.cons rfl (.cons rfl (.cons rfl (.cons rfl (.cons rfl (.cons' rfl (int_eq (by omega)) (.nil _))))))) ?_ ?_))))))))
    ·exact⟨by omega,by omega,by simp[hzl],by rw[<-bub_down (by omega) (by assumption)];exact hG,(((F.trans (s.ch _)).trans I).trans J),by have:=o;have:=d.size;have:=e.size;have:=s.size;have:=I.size;have:=J.size;omega,O⟩
    first|omega|(simp only[];omega)
   refine Cn rfl (dF H) (WC.exit (E.thenX (E.thenX (E.blkH (E.blkN (E.thenN (WC.region (Wn 1 rfl (Wa (.add rfl rfl (by omega)) rfl (Wn 1 rfl (W.nil (E.again (i+1,zs) (.of rfl) ?_ ?_))))))))))))
   ·exact⟨by omega,hzl,by have k:=hG;rw[bub_stop (xs:=zs) (by intro h;omega)]at k;rw[<-hF,isoC_step (xs:=ys) (by omega),<-k],F,by have:=v;have:=d.size;have:=e.size;have:=o;omega,(m.le e)⟩
   first|omega|(simp only[];omega)
  refine Ga rfl (.dec (.move rfl) (dF D)) (Gn 13 rfl (G.nil (E.thenN (WC.condF rfl (WC.exit (E.thenX (E.thenX (E.blkH (E.blkN (E.thenN (WC.region (Wn 1 rfl (Wa (.add rfl rfl (by omega)) rfl (Wn 1 rfl (W.nil (E.again (i+1,zs) (.of rfl) ?_ ?_))))))))))))))))
  ·exact⟨by omega,hzl,by have k:=hG;rw[bub_stop (xs:=zs) (by intro h;omega)]at k;rw[<-hF,isoC_step (xs:=ys) (by omega),<-k],C,by have:=v;have:=d.size;have:=o;omega,(z.le d)⟩
  first|omega|(simp only[];omega)
 refine Cn rfl (dF y) (WC.exit (E.thenX (E.thenX (E.blkH (E.end_ (E.ret0 rfl ?_))))))
 exact⟨rfl,x.cast rfl (by rw[<-hF,isoC_end (by omega)]),u⟩

end Go.Proofs.YtocheaahlpiajaaGreatDoor

namespace Go.Proofs.YtocheaahlpiajaaGreatDoor
open Tryz
open Go Go.Sx Go.Hsp Go.Num Go.Osp Go.Gsp Go.Stab
set_option maxRecDepth 20000
theorem swapR_ok (a b q:Nat){base:Nat}{A:Option Addr}{n c:Nat}{xs:List Gsp.Edge}(w:World)(hO:OVec w base 81 edgeV 9 A n c xs)(h1:a+q<=b)(h2:b+q<=n)(hn:n<=1000000):Calls prog 349 #[.slice A n c,.int .i64 (((a:Nat):Int)),.int .i64 (((b:Nat):Int)),.int .i64 (((q:Nat):Int)),.func (.func 162) #[] #[]] w fun r w'=>r= .returned (.tuple #[])/\OVec w' base 81 edgeV 9 A n c (swR noEdge a b q xs)/\Ch w w' (rowOf A c):=by
 have hl:=hO.1
 refine enter func349 rfl rfl (Sr (Wn 1 rfl (Nx (WC.block (WC.loop (ι:=Nat) (fun i=>[(0,.slice A n c),(1,.int .i64 (((a:Nat):Int))),(2,.int .i64 (((b:Nat):Int))),(3,.int .i64 (((q:Nat):Int))),(10,.int .i64 (((i:Nat):Int)))]) (fun i d=>(i<=q)/\Ch w d (rowOf A c)/\w.heap.size<=d.heap.size/\OVec d base 81 edgeV 9 A n c (swR noEdge a b i xs)) (fun i=>q-i) 0 ?_ ?_ ?_)))))
 ·exact .of rfl
 ·exact⟨Nat.zero_le _,(Ch.refl w (rowOf A c)),Nat.le_refl _,hO⟩
 rintro i d ⟨hi,h,s,k⟩
 have hsl:=swR_len noEdge a b xs i
 refine Sq (Sr (Wn 3 rfl (Nx ?_)))
 by_cases l:((i:Nat):Int)<((q:Nat):Int)
 ·refine Cy rfl (dT l) (Sn (Sq (WC.block (WC.draw [0,1,2,3,4,5,6,7,8,9,10,11,12,13,14,15,16,17,18,19,20,21,22,23] mixed (by kernel_rfl) fun v e=>(Gn 3 rfl (Ga rfl (.add rfl rfl (by omega)) (Gn 3 rfl ?_)))))))
  refine Ga rfl (.add rfl rfl (by omega)) (Gn 3 rfl (Ga rfl (.add rfl rfl (by omega)) (Ga rfl (.idxS ((b+i)) underlying32 sz81 rfl rfl (hO.vec.isSome edgeV_row (by omega)) (by omega) (by omega)) ?_)))
  have f:=(k.le e)
  refine Gd rfl (.vload ag81 rfl f.vec edgeV_row (getS (swR noEdge a b i xs) noEdge (by first|omega|(simp only[List.length_cons,List.length_nil];omega)))) ?_
  refine Gn 3 rfl (Ga rfl (.add rfl rfl (by omega)) (Ga rfl (.idxS ((a+i)) underlying32 sz81 rfl rfl (hO.vec.isSome edgeV_row (by omega)) (by omega) (by omega)) (Gd rfl (.vload ag81 rfl f.vec edgeV_row (getS (swR noEdge a b i xs) noEdge (by first|omega|(simp only[List.length_cons,List.length_nil];omega)))) ?_)))
  refine Ga rfl (.idxS ((a+i)) underlying32 sz81 rfl rfl (hO.vec.isSome edgeV_row (by omega)) (by omega) (by omega)) (G.ef0 rfl rfl rfl rfl (Ef.vput (j:=(a+i)) ((swR noEdge a b i xs).getD (b+i) noEdge) sz81 rfl rfl rfl f edgeV_row (by omega) fun x t m=>(noT (by kernel_rfl) (Ga rfl (.idxS ((b+i)) underlying32 sz81 rfl rfl (hO.vec.isSome edgeV_row (by omega)) (by omega) (by omega)) (G.ef0 rfl rfl rfl rfl ?_)))))
  refine Ef.vput (j:=(b+i)) ((swR noEdge a b i xs).getD (a+i) noEdge) sz81 rfl rfl rfl t edgeV_row (by omega) fun y u o=>(noT (by kernel_rfl) (G.nil (E.blkN (E.thenN (WC.region (Wn 1 rfl (Wa (.add rfl rfl (by omega)) rfl (Wn 1 rfl (W.nil (E.again (i+1) (.of rfl) ?_ ?_))))))))))
  ·exact⟨by omega,(((h.trans (e.ch _)).trans m).trans o),by have:=s;have:=e.size;have:=m.size;have:=o.size;omega,u⟩
  first|omega|(simp only[];omega)
 refine Cn rfl (dF l) (WC.exit (E.thenX (E.thenX (E.blkH (E.end_ (E.ret0 rfl ?_))))))
 exact⟨rfl,k.cast rfl (by rw[show i=q by omega]),h⟩

theorem rotC_ok (a m b:Nat){base:Nat}{A:Option Addr}{n c:Nat}{xs:List Gsp.Edge}(w:World)(hO:OVec w base 81 edgeV 9 A n c xs)(h1:a<m)(h2:m<b)(h3:b<=n)(hn:n<=1000000):Calls prog 327 #[.slice A n c,.int .i64 (((a:Nat):Int)),.int .i64 (((m:Nat):Int)),.int .i64 (((b:Nat):Int)),.func (.func 162) #[] #[]] w fun r w'=>r= .returned (.tuple #[])/\∃zs,Rot noEdge a m b xs zs/\OVec w' base 81 edgeV 9 A n c zs/\Ch w w' (rowOf A c):=by
 have hl:=hO.1
 refine enter func327 rfl rfl ?_
 have t:=Ch.refl w (rowOf A c)
 refine Sr (Wn 2 rfl (Wa (.sub rfl rfl (by omega)) rfl (Wn 1 rfl (Nx (Sr (Wn 2 rfl (Wa (.sub rfl rfl (by omega)) rfl (Wn 1 rfl (Nx (Sq (WC.block ?_)))))))))))
 refine WC.loop (ι:=Nat×Nat×(List Gsp.Edge)) (fun⟨i,j,ys⟩=>[(0,.slice A n c),(2,.int .i64 (((m:Nat):Int))),(4,.func (.func 162) #[] #[]),(10,.int .i64 (((i:Nat):Int))),(11,.int .i64 (((j:Nat):Int)))]) (fun⟨i,j,ys⟩ d=>(1<=i/\i<=m)/\(1<=j/\m+j<=n)/\(ys.length=n)/\(∀zs,Rot noEdge (m-i) m (m+j) ys zs->Rot noEdge a m b xs zs)/\Ch w d (rowOf A c)/\w.heap.size<=d.heap.size/\OVec d base 81 edgeV 9 A n c ys) (fun⟨i,j,ys⟩=>i+j) (m-a,b-m,xs) ?_ ?_ ?_
 ·exact .cons rfl (.cons rfl (.cons rfl (.cons' rfl (int_eq (by omega)) (.cons' rfl (int_eq (by omega)) (.nil _)))))
 ·exact⟨by omega,by omega,hl,fun zs hz=>by rw[show m-(m-a)=a by omega,show m+(b-m)=b by omega]at hz;exact hz,t,Nat.le_refl _,hO⟩
 rintro⟨i,j,ys⟩ d ⟨hi,hj,hyl,hinv,e,h,f⟩
 refine Sq (Sr (Wn 3 rfl (Nx ?_)))
 by_cases k:((i:Nat):Int)≠((j:Nat):Int)
 ·refine Cy rfl (dT k) (Sn (WC.block (Sr (Wn 3 rfl (Nx ?_)))))
  by_cases l:((j:Nat):Int)<((i:Nat):Int)
  ·refine Cy rfl (dT l) (Sr (Wn 3 rfl (Wa (.as (.sub rfl rfl (by omega)) (int_eq (b:=(((m-i):Nat):Int)) (by omega))) rfl (Wn 3 rfl (W.cl go349 rfl rfl (swapR_ok (m-i) m j d f (by omega) (by omega) (by omega)) ?_)))))
   rintro _ z ⟨rfl,u,o⟩
   refine Nx (WC.region (Wn 2 rfl (Wa (.as (.sub rfl rfl (by omega)) (int_eq (b:=(((i-j):Nat):Int)) (by omega))) rfl (Wn 1 rfl (W.nil (E.blkN (E.again ((i-j),j,(swR noEdge (m-i) m j ys)) (.of rfl) ?_ ?_)))))))
   ·exact⟨by omega,by omega,by rw[swR_len];exact hyl,fun zs hz=>hinv zs (Rot.step1 (by omega) (by omega) (by omega) hz),(e.trans o),by have:=h;have:=o.size;omega,u⟩
   first|omega|(simp only[];omega)
  refine Cn rfl (dF l) (Sr (Wn 3 rfl (Wa (.as (.sub rfl rfl (by omega)) (int_eq (b:=(((m-i):Nat):Int)) (by omega))) rfl (Wn 2 rfl (Wa (.add rfl rfl (by omega)) rfl (Wn 1 rfl ?_))))))
  refine Wa (.as (.sub rfl rfl (by omega)) (int_eq (b:=(((m+j-i):Nat):Int)) (by omega))) rfl (Wn 2 rfl (W.cl go349 rfl rfl (swapR_ok (m-i) (m+j-i) i d f (by omega) (by omega) (by omega)) ?_))
  rintro _ C ⟨rfl,v,s⟩
  refine Nx (WC.region (Wn 2 rfl (Wa (.as (.sub rfl rfl (by omega)) (int_eq (b:=(((j-i):Nat):Int)) (by omega))) rfl (Wn 1 rfl (W.nil (E.blkN (E.again (i,(j-i),(swR noEdge (m-i) (m+j-i) i ys)) (.of rfl) ?_ ?_)))))))
  ·exact⟨by omega,by omega,by rw[swR_len];exact hyl,fun zs hz=>hinv zs (Rot.step2 (by omega) (by omega) (by omega) hz),(e.trans s),by have:=h;have:=s.size;omega,v⟩
  first|omega|(simp only[];omega)
 refine Cn rfl (dF k) (WC.exit (E.thenX (E.thenX (E.blkH (E.thenN (WC.region (Wn 3 rfl (Wa (.as (.sub rfl rfl (by omega)) (int_eq (b:=(((m-i):Nat):Int)) (by omega))) rfl (Wn 3 rfl (W.cl go349 rfl rfl (swapR_ok (m-i) m i d f (by omega) (by omega) (by omega)) ?_))))))))))
 rintro _ D ⟨rfl,x,y⟩
 refine W.nil (E.end_ (E.ret0 rfl ?_))
 exact⟨rfl,_,hinv _ (by rw[show j=i by omega];exact Rot.last (by omega) (by omega)),x,(e.trans y)⟩

theorem symM_step (a m b:Nat){base:Nat}{A:Option Addr}{n c:Nat}{xs:List Gsp.Edge}(w:World)(hO:OVec w base 81 edgeV 9 A n c xs)(h1:a<m)(h2:m<b)(h3:b<=n)(hn:n<=1000000)(su:Srt ltE noEdge a m xs)(sv:Srt ltE noEdge m b xs)(ih:∀(a' m' b':Nat) (ys:List Gsp.Edge) (w1:World),b'-a'<b-a->OVec w1 base 81 edgeV 9 A n c ys->a'<m'->m'<b'->b'<=n->Srt ltE noEdge a' m' ys->Srt ltE noEdge m' b' ys->Calls prog 289 #[.slice A n c,.int .i64 ((a':Nat):Int),.int .i64 ((m':Nat):Int),.int .i64 ((b':Nat):Int),.func (.func 162) #[] #[]] w1 (fun r w'=>r= .returned (.tuple #[])/\∃zs,Part ltE noEdge a' b' ys zs/\OVec w' base 81 edgeV 9 A n c zs/\Ch w1 w' (rowOf A c))):Calls prog 289 #[.slice A n c,.int .i64 (((a:Nat):Int)),.int .i64 (((m:Nat):Int)),.int .i64 (((b:Nat):Int)),.func (.func 162) #[] #[]] w fun r w'=>r= .returned (.tuple #[])/\∃zs,Part ltE noEdge a b xs zs/\OVec w' base 81 edgeV 9 A n c zs/\Ch w w' (rowOf A c):=by
 have hl:=hO.1
 refine enter func289 rfl rfl ?_
 have U:=Ch.refl w (rowOf A c)
 refine Sq (Sr (Wn 2 rfl (Wa (.sub rfl rfl (by omega)) rfl (Wn 1 rfl (Nx ?_)))))
 by_cases c0:(((m:Nat):Int)-((a:Nat):Int))=1
 ·refine Cy rfl (dT c0) (Sr (Wn 2 rfl (Nx (Sr (Wn 2 rfl (Nx (Sq (WC.block (WC.loop (ι:=Nat×Nat) (fun⟨i,j⟩=>[(0,.slice A n c),(1,.int .i64 (((a:Nat):Int))),(4,.func (.func 162) #[] #[]),(10,.int .i64 (((i:Nat):Int))),(11,.int .i64 (((j:Nat):Int)))]) (fun⟨i,j⟩ R=>(m<=i/\i<=j/\j<=b)/\(∀k,m<=k->k<i->ltE (xs.getD k noEdge) (xs.getD a noEdge)=true)/\(∀k,j<=k->k<b->ltE (xs.getD k noEdge) (xs.getD a noEdge)=false)/\Ch w R (rowOf A c)/\w.heap.size<=R.heap.size/\OVec R base 81 edgeV 9 A n c xs) (fun⟨i,j⟩=>j-i) (m,b) ?_ ?_ ?_)))))))))
  ·exact .of rfl
  ·exact⟨by omega,fun k k1 k2=>by omega,fun k k1 k2=>by omega,U,Nat.le_refl _,hO⟩
  rintro⟨i,j⟩ R ⟨hij,hlo,hhi,ar,au,av⟩
  refine Sq (Sr (Wn 3 rfl (Nx ?_)))
  by_cases c1:((i:Nat):Int)<((j:Nat):Int)
  ·refine Cy rfl (dT c1) (Sn (WC.block (Sr (Wn 2 rfl (Wa (.add rfl rfl (by omega)) rfl (Wr (.idI (isS underlying3) underlying287 rfl (IntWalk.u64_in _ (by omega))) rfl (Wa (.shrE (i+j) 1 ((i+j)/2) rfl (by first|rfl|omega) rfl rfl (by decide) rfl) rfl ?_)))))))
   refine Wr (.idI (isS underlying287) underlying3 rfl (IntWalk.i64_in _ (by omega))) rfl (Wn 1 rfl (Nx (Sq (WC.draw [0,1,2,3,4,5,6,7,8,9,10] mixed (by kernel_rfl) fun w5 V=>(Gn 3 rfl (Ga rfl (.idxS (((i+j)/2)) underlying32 sz81 rfl rfl (hO.vec.isSome edgeV_row (by omega)) (rfl) (by omega)) ?_))))))
   have X:=(av.le V)
   refine Gd rfl (.vload ag81 rfl X.vec edgeV_row (getS xs noEdge (by omega))) (Gn 2 rfl (Ga rfl (.idxS (a) underlying32 sz81 rfl rfl (hO.vec.isSome edgeV_row (by omega)) (rfl) (by omega)) (Gd rfl (.vload ag81 rfl X.vec edgeV_row (getS xs noEdge (by omega))) (G.ef rfl rfl rfl rfl rfl (Ef.call go162 rfl rfl (order_ok (xs.getD ((i+j)/2) noEdge) (xs.getD a noEdge) w5) ?_)))))
   rintro _ bD ⟨rfl,O⟩
   refine⟨_,rfl,?_⟩
   refine⟨fun _=>O,?_⟩
   have L3:=(ar.trans (V.ch _)).trans (O.ch _)
   refine Gn 1 rfl (G.nil (E.thenN ?_))
   by_cases Y:(ordE (xs.getD ((i+j)/2) noEdge) (xs.getD a noEdge))<0
   ·refine Cy rfl (dT Y) (WC.region (Wn 1 rfl (Wa (.add rfl rfl (by omega)) rfl (Wn 1 rfl (W.nil (E.blkN (E.again ((i+j)/2+1,j) (.of rfl) ?_ ?_)))))))
    ·exact⟨by omega,fun k k1 k2=>mono1 swoE sv k1 (by omega) (by omega) (dT Y),hhi,L3,by have:=au;have:=V.size;have:=O.size;omega,(X.le O)⟩
    first|omega|(simp only[];omega)
   refine Cn rfl (dF Y) (WC.region (Wn 2 rfl (W.nil (E.blkN (E.again (i,(i+j)/2) (.of rfl) ?_ ?_)))))
   ·exact⟨by omega,hlo,fun k k1 k2=>mono2 swoE sv (by omega) k1 k2 (dF Y),L3,by have:=au;have:=V.size;have:=O.size;omega,(X.le O)⟩
   first|omega|(simp only[];omega)
  refine Cn rfl (dF c1) (WC.exit (E.thenX (E.thenX (E.blkH (E.thenN (Sq (Sr (Wn 2 rfl (Nx (WC.block (WC.loop (ι:=Nat) (fun k=>[(0,.slice A n c),(10,.int .i64 (((i:Nat):Int))),(13,.int .i64 (((k:Nat):Int)))]) (fun k Z=>(a<=k/\k+1<=i)/\Ch w Z (rowOf A c)/\R.heap.size<=Z.heap.size/\OVec Z base 81 edgeV 9 A n c (goUp noEdge a (k-a) xs)) (fun k=>i-k) a ?_ ?_ ?_)))))))))))
  ·exact .of rfl
  ·exact⟨by omega,ar,Nat.le_refl _,(av.cast rfl (by rw[Nat.sub_self];rfl))⟩
  rintro k Z ⟨hk,aw,aZ,ax⟩
  have hgl:=goUp_len noEdge a xs (k-a)
  refine Sq (Sr (Wn 2 rfl (Wa (.sub rfl rfl (by omega)) rfl (Wn 1 rfl (Nx ?_)))))
  by_cases c3:((k:Nat):Int)<(((i:Nat):Int)-1)
  ·refine Cy rfl (dT c3) (Sn (Sq (WC.block (WC.draw [0,1,2,3,4,5,6,7,8,9,10,11,12,13,14,15,16,17] mixed (by kernel_rfl) fun bE ah=>(Gn 4 rfl (Ga rfl (.add rfl rfl (by omega)) (Gn 2 rfl ?_)))))))
   refine Ga rfl (.add rfl rfl (by omega)) (Ga rfl (.idxS ((k+1)) underlying32 sz81 rfl rfl (hO.vec.isSome edgeV_row (by omega)) (by omega) (by omega)) ?_)
   have f7:=(ax.le ah)
   refine Gd rfl (.vload ag81 rfl f7.vec edgeV_row (getS (goUp noEdge a (k-a) xs) noEdge (by first|omega|(simp only[List.length_cons,List.length_nil];omega)))) ?_
   refine Gn 2 rfl (Ga rfl (.idxS (k) underlying32 sz81 rfl rfl (hO.vec.isSome edgeV_row (by omega)) (rfl) (by omega)) (Gd rfl (.vload ag81 rfl f7.vec edgeV_row (getS (goUp noEdge a (k-a) xs) noEdge (by first|omega|(simp only[List.length_cons,List.length_nil];omega)))) ?_))
   refine Ga rfl (.idxS (k) underlying32 sz81 rfl rfl (hO.vec.isSome edgeV_row (by omega)) (rfl) (by omega)) (G.ef0 rfl rfl rfl rfl (Ef.vput (j:=k) ((goUp noEdge a (k-a) xs).getD (k+1) noEdge) sz81 rfl rfl rfl f7 edgeV_row (by omega) fun bF a0 ay=>(noT (by kernel_rfl) (Ga rfl (.idxS ((k+1)) underlying32 sz81 rfl rfl (hO.vec.isSome edgeV_row (by omega)) (by omega) (by omega)) (G.ef0 rfl rfl rfl rfl ?_)))))
   refine Ef.vput (j:=(k+1)) ((goUp noEdge a (k-a) xs).getD k noEdge) sz81 rfl rfl rfl a0 edgeV_row (by omega) fun bG a1 az=>(noT (by kernel_rfl) (G.nil (E.blkN (E.thenN (WC.region (Wn 1 rfl (Wa (.add rfl rfl (by omega)) rfl (Wn 1 rfl (W.nil (E.again (k+1) (.of rfl) ?_ ?_))))))))))
   ·exact⟨by omega,(((aw.trans (ah.ch _)).trans ay).trans az),by have:=aZ;have:=ah.size;have:=ay.size;have:=az.size;omega,(a1.cast rfl (by rw[show k+1-a=(k-a)+1 by omega,goUp,show a+(k-a)=k by omega];rfl))⟩
   first|omega|(simp only[];omega)
  refine Cn rfl (dF c3) (WC.exit (E.thenX (E.thenX (E.blkH (E.thenN (Rt (E.thenR (E.ret0 rfl ?_))))))))
  have hm:m=a+1:=(by omega)
  subst hm
  exact⟨rfl,_,(by have:=ins_front swoE (xs:=xs) (d:=noEdge) (a:=a) (b:=b) (i:=i) (by omega) (by omega) (by omega) sv hlo (fun q h e=>hhi q (by omega) e);rw[show i-(a+1)=k-a by omega]at this;exact this),ax,aw⟩
 refine Cn rfl (dF c0) (Sn (Sq (Sr (Wn 2 rfl (Wa (.sub rfl rfl (by omega)) rfl (Wn 1 rfl (Nx ?_)))))))
 by_cases c4:(((b:Nat):Int)-((m:Nat):Int))=1
 ·refine Cy rfl (dT c4) (Sr (Wn 2 rfl (Nx (Sr (Wn 2 rfl (Nx (Sq (WC.block (WC.loop (ι:=Nat×Nat) (fun⟨i2,x⟩=>[(0,.slice A n c),(2,.int .i64 (((m:Nat):Int))),(4,.func (.func 162) #[] #[]),(14,.int .i64 (((i2:Nat):Int))),(15,.int .i64 (((x:Nat):Int)))]) (fun⟨i2,x⟩ S=>(a<=i2/\i2<=x/\x<=m)/\(∀k,a<=k->k<i2->ltE (xs.getD m noEdge) (xs.getD k noEdge)=false)/\(∀k,x<=k->k<m->ltE (xs.getD m noEdge) (xs.getD k noEdge)=true)/\Ch w S (rowOf A c)/\w.heap.size<=S.heap.size/\OVec S base 81 edgeV 9 A n c xs) (fun⟨i2,x⟩=>x-i2) (a,m) ?_ ?_ ?_)))))))))
  ·exact .of rfl
  ·exact⟨by omega,fun k k1 k2=>by omega,fun k k1 k2=>by omega,U,Nat.le_refl _,hO⟩
  rintro⟨i2,x⟩ S ⟨bH,aA,aB,aC,aE,aF⟩
  refine Sq (Sr (Wn 3 rfl (Nx ?_)))
  by_cases c5:((i2:Nat):Int)<((x:Nat):Int)
  ·refine Cy rfl (dT c5) (Sn (WC.block (Sr (Wn 2 rfl (Wa (.add rfl rfl (by omega)) rfl (Wr (.idI (isS underlying3) underlying287 rfl (IntWalk.u64_in _ (by omega))) rfl (Wa (.shrE (i2+x) 1 ((i2+x)/2) rfl (by first|rfl|omega) rfl rfl (by decide) rfl) rfl ?_)))))))
   refine Wr (.idI (isS underlying287) underlying3 rfl (IntWalk.i64_in _ (by omega))) rfl (Wn 1 rfl (Nx (Sq (WC.draw [0,1,2,3,4,5,6,7,8,9,10,11] mixed (by kernel_rfl) fun a2 aa=>(Gn 3 rfl (Ga rfl (.idxS (m) underlying32 sz81 rfl rfl (hO.vec.isSome edgeV_row (by omega)) (rfl) (by omega)) ?_))))))
   have ab:=(aF.le aa)
   refine Gd rfl (.vload ag81 rfl ab.vec edgeV_row (getS xs noEdge (by omega))) (Gn 2 rfl (Ga rfl (.idxS (((i2+x)/2)) underlying32 sz81 rfl rfl (hO.vec.isSome edgeV_row (by omega)) (rfl) (by omega)) (Gd rfl (.vload ag81 rfl ab.vec edgeV_row (getS xs noEdge (by omega))) (G.ef rfl rfl rfl rfl rfl (Ef.call go162 rfl rfl (order_ok (xs.getD m noEdge) (xs.getD ((i2+x)/2) noEdge) a2) ?_)))))
   rintro _ bI ⟨rfl,P⟩
   refine⟨_,rfl,?_⟩
   refine⟨fun _=>P,?_⟩
   have aG:=(aC.trans (aa.ch _)).trans (P.ch _)
   refine Gn 2 rfl (G.nil (E.thenN ?_))
   by_cases c6:(ordE (xs.getD m noEdge) (xs.getD ((i2+x)/2) noEdge))<0
   ·refine Cn rfl (congrArg not (dT c6)) (WC.region (Wn 2 rfl (W.nil (E.blkN (E.again (i2,(i2+x)/2) (.of rfl) ?_ ?_)))))
    ·exact⟨by omega,aA,fun k k1 k2=>mono4 swoE su (by omega) k1 k2 (dT c6),aG,by have:=aE;have:=aa.size;have:=P.size;omega,(ab.le P)⟩
    first|omega|(simp only[];omega)
   refine Cy rfl (congrArg not (dF c6)) (WC.region (Wn 1 rfl (Wa (.add rfl rfl (by omega)) rfl (Wn 1 rfl (W.nil (E.blkN (E.again ((i2+x)/2+1,x) (.of rfl) ?_ ?_)))))))
   ·exact⟨by omega,fun k k1 k2=>mono3 swoE su k1 (by omega) (by omega) (dF c6),aB,aG,by have:=aE;have:=aa.size;have:=P.size;omega,(ab.le P)⟩
   first|omega|(simp only[];omega)
  refine Cn rfl (dF c5) (WC.exit (E.thenX (E.thenX (E.blkH (E.thenN (Sq (Sr (Wn 2 rfl (Nx (WC.block (WC.loop (ι:=Nat) (fun k2=>[(0,.slice A n c),(14,.int .i64 (((i2:Nat):Int))),(17,.int .i64 (((k2:Nat):Int)))]) (fun k2 ac=>(i2<=k2/\k2<=m)/\Ch w ac (rowOf A c)/\S.heap.size<=ac.heap.size/\OVec ac base 81 edgeV 9 A n c (goDn noEdge m (m-k2) xs)) (fun k2=>k2) m ?_ ?_ ?_)))))))))))
  ·exact .of rfl
  ·exact⟨by omega,aC,Nat.le_refl _,(aF.cast rfl (by rw[Nat.sub_self];rfl))⟩
  rintro k2 ac ⟨bJ,aH,a3,aI⟩
  have hgl:=goDn_len noEdge m xs (m-k2)
  refine Sq (Sr (Wn 3 rfl (Nx ?_)))
  by_cases c7:((i2:Nat):Int)<((k2:Nat):Int)
  ·refine Cy rfl (dT c7) (Sn (Sq (WC.block (WC.draw [0,1,2,3,4,5,6,7,8,9,10,11,12,13,14,15,16,17] mixed (by kernel_rfl) fun bK ai=>(Gn 4 rfl (Ga rfl (.sub rfl rfl (by omega)) (Gn 2 rfl ?_)))))))
   refine Ga rfl (.sub rfl rfl (by omega)) (Ga rfl (.idxS ((k2-1)) underlying32 sz81 rfl rfl (hO.vec.isSome edgeV_row (by omega)) (by omega) (by omega)) ?_)
   have aj:=(aI.le ai)
   refine Gd rfl (.vload ag81 rfl aj.vec edgeV_row (getS (goDn noEdge m (m-k2) xs) noEdge (by first|omega|(simp only[List.length_cons,List.length_nil];omega)))) ?_
   refine Gn 2 rfl (Ga rfl (.idxS (k2) underlying32 sz81 rfl rfl (hO.vec.isSome edgeV_row (by omega)) (rfl) (by omega)) (Gd rfl (.vload ag81 rfl aj.vec edgeV_row (getS (goDn noEdge m (m-k2) xs) noEdge (by first|omega|(simp only[List.length_cons,List.length_nil];omega)))) ?_))
   refine Ga rfl (.idxS (k2) underlying32 sz81 rfl rfl (hO.vec.isSome edgeV_row (by omega)) (rfl) (by omega)) (G.ef0 rfl rfl rfl rfl (Ef.vput (j:=k2) ((goDn noEdge m (m-k2) xs).getD (k2-1) noEdge) sz81 rfl rfl rfl aj edgeV_row (by omega) fun bL a4 aJ=>(noT (by kernel_rfl) (Ga rfl (.idxS ((k2-1)) underlying32 sz81 rfl rfl (hO.vec.isSome edgeV_row (by omega)) (by omega) (by omega)) (G.ef0 rfl rfl rfl rfl ?_)))))
   refine Ef.vput (j:=(k2-1)) ((goDn noEdge m (m-k2) xs).getD k2 noEdge) sz81 rfl rfl rfl a4 edgeV_row (by omega) fun bM a5 aK=>(noT (by kernel_rfl) (G.nil (E.blkN (E.thenN (WC.region (Wn 1 rfl (Wa (.sub rfl rfl (by omega)) rfl (Wn 1 rfl (W.nil (E.again (k2-1) (.cons rfl (.cons rfl (.cons' rfl (int_eq (by omega)) (.nil _)))) ?_ ?_))))))))))
   ·exact⟨by omega,(((aH.trans (ai.ch _)).trans aJ).trans aK),by have:=a3;have:=ai.size;have:=aJ.size;have:=aK.size;omega,(a5.cast rfl (by rw[show m-(k2-1)=(m-k2)+1 by omega,goDn,show m-(m-k2)=k2 by omega];rfl))⟩
   first|omega|(simp only[];omega)
  refine Cn rfl (dF c7) (WC.exit (E.thenX (E.thenX (E.blkH (E.thenN (Rt (E.thenR (E.ret0 rfl ?_))))))))
  have hm:b=m+1:=(by omega)
  subst hm
  exact⟨rfl,_,(by have:=ins_back swoE (xs:=xs) (d:=noEdge) (a:=a) (m:=m) (i:=i2) (by omega) (by omega) (by omega) su aA (fun q h e=>aB q (by omega) e);rw[show m-i2=m-k2 by omega]at this;exact this),aI,aH⟩
 refine Cn rfl (dF c4) (Sn (Sr (Wn 2 rfl (Wa (.add rfl rfl (by omega)) rfl (Wr (.idI (isS underlying3) underlying287 rfl (IntWalk.u64_in _ (by omega))) rfl (Wa (.shrE (a+b) 1 ((a+b)/2) rfl (by first|rfl|omega) rfl rfl (by decide) rfl) rfl ?_))))))
 refine Wr (.idI (isS underlying287) underlying3 rfl (IntWalk.i64_in _ (by omega))) rfl (Wn 1 rfl (Nx (Sr (Wn 2 rfl (Wa (.add rfl rfl (by omega)) rfl (Wn 1 rfl (Nx (Sr (Wn 2 rfl (Nx ?_))))))))))
 refine WC.cut (ι:=Nat×Nat) (fun⟨f,r0⟩=>[(0,.slice A n c),(1,.int .i64 (((a:Nat):Int))),(2,.int .i64 (((m:Nat):Int))),(3,.int .i64 (((b:Nat):Int))),(4,.func (.func 162) #[] #[]),(18,.int .i64 (((((a+b)/2):Nat):Int))),(19,.int .i64 ((((((a+b)/2):Nat):Int)+((m:Nat):Int)))),(20,.int .i64 (((f:Nat):Int))),(21,.int .i64 (((r0:Nat):Int)))]) (fun⟨f,r0⟩ T=>((((a+b)/2)<m/\f=((a+b)/2)+m-b/\r0=((a+b)/2))\/(m<=((a+b)/2)/\f=a/\r0=m))/\Ch w T (rowOf A c)/\w.heap.size<=T.heap.size/\OVec T base 81 edgeV 9 A n c xs) ?_ ?_
 ·refine Sr (Wn 3 rfl (Nx ?_))
  by_cases c8:((((a+b)/2):Nat):Int)<((m:Nat):Int)
  ·refine Cy rfl (dT c8) (Sr (Wn 2 rfl (Wa (.sub rfl rfl (by omega)) rfl (Wn 1 rfl (Nx (WC.region (Wn 2 rfl (W.nil (E.meet (((a+b)/2)+m-b,((a+b)/2)) (.cons rfl (.cons rfl (.cons rfl (.cons rfl (.cons rfl (.cons rfl (.cons rfl (.cons' rfl (int_eq (by omega)) (.cons rfl (.nil _)))))))))) ?_)))))))))
   exact⟨by omega,U,Nat.le_refl _,hO⟩
  refine Cn rfl (dF c8) (Sr (Wn 2 rfl (Nx (WC.region (Wn 2 rfl (W.nil (E.meet (a,m) (.of rfl) ?_)))))))
  exact⟨by omega,U,Nat.le_refl _,hO⟩
 rintro⟨f,r0⟩ T ⟨s,a6,bN,a7⟩
 refine Sr (Wn 1 rfl (Wa (.sub rfl rfl (by omega)) rfl (Wn 1 rfl (Nx (Sq (WC.block ?_))))))
 refine WC.loop (ι:=Nat×Nat) (fun⟨st,r⟩=>[(0,.slice A n c),(1,.int .i64 (((a:Nat):Int))),(2,.int .i64 (((m:Nat):Int))),(3,.int .i64 (((b:Nat):Int))),(4,.func (.func 162) #[] #[]),(18,.int .i64 (((((a+b)/2):Nat):Int))),(19,.int .i64 ((((((a+b)/2):Nat):Int)+((m:Nat):Int)))),(20,.int .i64 (((st:Nat):Int))),(21,.int .i64 (((r:Nat):Int))),(22,.int .i64 (((((((a+b)/2):Nat):Int)+((m:Nat):Int))-1)))]) (fun⟨st,r⟩ C=>(f<=st/\st<=r/\r<=r0)/\(∀k,f<=k->k<st->ltE (xs.getD (((a+b)/2+m-1)-k) noEdge) (xs.getD k noEdge)=false)/\(∀k,r<=k->k<r0->ltE (xs.getD (((a+b)/2+m-1)-k) noEdge) (xs.getD k noEdge)=true)/\Ch w C (rowOf A c)/\T.heap.size<=C.heap.size/\OVec C base 81 edgeV 9 A n c xs) (fun⟨st,r⟩=>r-st) (f,r0) ?_ ?_ ?_
 ·exact .of rfl
 ·exact⟨by omega,fun k k1 k2=>by omega,fun k k1 k2=>by omega,a6,Nat.le_refl _,a7⟩
 rintro⟨st,r⟩ C ⟨hsr,l,o,y,aL,z⟩
 refine Sq (Sr (Wn 3 rfl (Nx ?_)))
 by_cases c9:((st:Nat):Int)<((r:Nat):Int)
 ·refine Cy rfl (dT c9) (Sn (WC.block (Sr (Wn 2 rfl (Wa (.add rfl rfl (by omega)) rfl (Wr (.idI (isS underlying3) underlying287 rfl (IntWalk.u64_in _ (by omega))) rfl (Wa (.shrE (st+r) 1 ((st+r)/2) rfl (by first|rfl|omega) rfl rfl (by decide) rfl) rfl ?_)))))))
  refine Wr (.idI (isS underlying287) underlying3 rfl (IntWalk.i64_in _ (by omega))) rfl (Wn 1 rfl (Nx (Sq (WC.draw [0,1,2,3,4,5,6,7,8,9,10,11,12,13] mixed (by kernel_rfl) fun a8 ad=>(Gn 4 rfl (Ga rfl (.sub rfl rfl (by omega)) (Ga rfl (.idxS ((((((a+b)/2)+m)-1)-((st+r)/2))) underlying32 sz81 rfl rfl (hO.vec.isSome edgeV_row (by omega)) (by omega) (by omega)) ?_)))))))
  have ae:=(z.le ad)
  refine Gd rfl (.vload ag81 rfl ae.vec edgeV_row (getS xs noEdge (by omega))) (Gn 2 rfl (Ga rfl (.idxS (((st+r)/2)) underlying32 sz81 rfl rfl (hO.vec.isSome edgeV_row (by omega)) (rfl) (by omega)) (Gd rfl (.vload ag81 rfl ae.vec edgeV_row (getS xs noEdge (by omega))) (G.ef rfl rfl rfl rfl rfl (Ef.call go162 rfl rfl (order_ok (xs.getD (((((a+b)/2)+m)-1)-((st+r)/2)) noEdge) (xs.getD ((st+r)/2) noEdge) a8) ?_)))))
  rintro _ bO ⟨rfl,Q⟩
  refine⟨_,rfl,?_⟩
  refine⟨fun _=>Q,?_⟩
  have aM:=(y.trans (ad.ch _)).trans (Q.ch _)
  refine Gn 2 rfl (G.nil (E.thenN ?_))
  by_cases af:(ordE (xs.getD (((((a+b)/2)+m)-1)-((st+r)/2)) noEdge) (xs.getD ((st+r)/2) noEdge))<0
  ·refine Cn rfl (congrArg not (dT af)) (WC.region (Wn 2 rfl (W.nil (E.blkN (E.again (st,(st+r)/2) (.of rfl) ?_ ?_)))))
   ·exact⟨by omega,l,fun k k1 k2=>srch_hi (c:=(st+r)/2) swoE su sv (by omega) (by omega) (by omega) (by omega) (by omega) (by omega) (dT af),aM,by have:=aL;have:=ad.size;have:=Q.size;omega,(ae.le Q)⟩
   first|omega|(simp only[];omega)
  refine Cy rfl (congrArg not (dF af)) (WC.region (Wn 1 rfl (Wa (.add rfl rfl (by omega)) rfl (Wn 1 rfl (W.nil (E.blkN (E.again ((st+r)/2+1,r) (.of rfl) ?_ ?_)))))))
  ·exact⟨by omega,fun k k1 k2=>srch_lo (c:=(st+r)/2) swoE su sv (by omega) (by omega) (by omega) (by omega) (by omega) (by omega) (by omega) (dF af),o,aM,by have:=aL;have:=ad.size;have:=Q.size;omega,(ae.le Q)⟩
  first|omega|(simp only[];omega)
 refine Cn rfl (dF c9) (WC.exit (E.thenX (E.thenX (E.blkH (E.thenN (Sr (Wn 2 rfl (Wa (.as (.sub rfl rfl (by omega)) (int_eq (b:=((((a+b)/2+m-st):Nat):Int)) (by omega))) rfl (Wn 1 rfl (Nx (Sq (Sr (Wn 3 rfl ?_)))))))))))))
 by_cases aO:((st:Nat):Int)<((m:Nat):Int)
 ·refine Dt aO rfl rfl (Wn 4 rfl (Nx ?_))
  by_cases aP:((m:Nat):Int)<((((a+b)/2+m-st):Nat):Int)
  ·refine Cy rfl (dT aP) (WC.region (Wn 5 rfl (W.cl go327 rfl rfl (rotC_ok st m ((a+b)/2+m-st) C z (by omega) (by omega) (by omega) (by omega)) ?_)))
   rintro _ ak ⟨rfl,K,t,L,a9⟩
   have N:=y.trans a9
   have bP:=t.len
   refine Nx (Sq (Sr (Wn 3 rfl ?_)))
   by_cases D:((a:Nat):Int)<((st:Nat):Int)
   ·refine Dt D rfl rfl (Wn 4 rfl (Nx ?_))
    by_cases F:((st:Nat):Int)<((((a+b)/2):Nat):Int)
    ·refine Cy rfl (dT F) (WC.region (Wn 5 rfl (W.cl go289 rfl rfl (ih a st ((a+b)/2) K ak (by omega) L (by omega) (by omega) (by omega) (rot_srt1 t (by omega) su) (rot_srt2 t (by omega) (by omega) sv)) ?_)))
     rintro _ ba ⟨rfl,bb,H,al,bc⟩
     have am:=N.trans bc
     have bQ:=H.len
     refine Nx (Sr (Wn 3 rfl ?_))
     by_cases u:((((a+b)/2):Nat):Int)<((((a+b)/2+m-st):Nat):Int)
     ·refine Dt u rfl rfl (Wn 4 rfl (Nx ?_))
      by_cases v:((((a+b)/2+m-st):Nat):Int)<((b:Nat):Int)
      ·refine Cy rfl (dT v) (WC.region (Wn 5 rfl (W.cl go289 rfl rfl (ih ((a+b)/2) ((a+b)/2+m-st) b bb ba (by omega) al (by omega) (by omega) (by omega) (part_keep H (Nat.le_refl _) (rot_srt3 t (by omega) (by omega) (by omega) (by omega) su)) (part_keep H (by omega) (rot_srt4 t (by omega) (by omega) sv))) ?_)))
       rintro _ bR ⟨rfl,bS,aQ,bd,be⟩
       have bT:=aQ.len
       refine W.nil (E.end_ (E.ret0 rfl ?_))
       exact⟨rfl,_,sym_part (st0:=f) (r0:=r0) (mid:=(a+b)/2) (en:=(a+b)/2+m-st) swoE h1 h2 (by omega) rfl s (by omega) (by omega) rfl su sv l (fun q h e=>o q (by omega) e) t H aQ,bd,(am.trans be)⟩
      refine Cn rfl (dF v) ?_
      have hp2N:=side_right t (by omega) (by omega) (by omega) (by omega) (by omega) su sv (by omega) H (by omega)
      refine WC.skip (E.end_ (E.ret0 rfl ?_))
      exact⟨rfl,_,sym_part (st0:=f) (r0:=r0) (mid:=(a+b)/2) (en:=(a+b)/2+m-st) swoE h1 h2 (by omega) rfl s (by omega) (by omega) rfl su sv l (fun q h e=>o q (by omega) e) t H hp2N,al,am⟩
     refine Df u rfl rfl (Wn 4 rfl (Nx (WC.condF rfl ?_)))
     have hp2N:=side_right t (by omega) (by omega) (by omega) (by omega) (by omega) su sv (by omega) H (by omega)
     refine WC.skip (E.end_ (E.ret0 rfl ?_))
     exact⟨rfl,_,sym_part (st0:=f) (r0:=r0) (mid:=(a+b)/2) (en:=(a+b)/2+m-st) swoE h1 h2 (by omega) rfl s (by omega) (by omega) rfl su sv l (fun q h e=>o q (by omega) e) t H hp2N,al,am⟩
    refine Cn rfl (dF F) ?_
    have hp1N:Part ltE noEdge a ((a+b)/2) K K:=side_left t (by omega) (by omega) (by omega) (by omega) (by omega) su sv (by omega) (by omega)
    refine Sn (Sr (Wn 3 rfl ?_))
    by_cases u:((((a+b)/2):Nat):Int)<((((a+b)/2+m-st):Nat):Int)
    ·refine Dt u rfl rfl (Wn 4 rfl (Nx ?_))
     by_cases v:((((a+b)/2+m-st):Nat):Int)<((b:Nat):Int)
     ·refine Cy rfl (dT v) (WC.region (Wn 5 rfl (W.cl go289 rfl rfl (ih ((a+b)/2) ((a+b)/2+m-st) b K ak (by omega) L (by omega) (by omega) (by omega) (part_keep hp1N (Nat.le_refl _) (rot_srt3 t (by omega) (by omega) (by omega) (by omega) su)) (part_keep hp1N (by omega) (rot_srt4 t (by omega) (by omega) sv))) ?_)))
      rintro _ bU ⟨rfl,bV,aR,bf,bg⟩
      have bW:=aR.len
      refine W.nil (E.end_ (E.ret0 rfl ?_))
      exact⟨rfl,_,sym_part (st0:=f) (r0:=r0) (mid:=(a+b)/2) (en:=(a+b)/2+m-st) swoE h1 h2 (by omega) rfl s (by omega) (by omega) rfl su sv l (fun q h e=>o q (by omega) e) t hp1N aR,bf,(N.trans bg)⟩
     refine Cn rfl (dF v) ?_
     have hp2N:=side_right t (by omega) (by omega) (by omega) (by omega) (by omega) su sv (by omega) hp1N (by omega)
     refine WC.skip (E.end_ (E.ret0 rfl ?_))
     exact⟨rfl,_,sym_part (st0:=f) (r0:=r0) (mid:=(a+b)/2) (en:=(a+b)/2+m-st) swoE h1 h2 (by omega) rfl s (by omega) (by omega) rfl su sv l (fun q h e=>o q (by omega) e) t hp1N hp2N,L,N⟩
    refine Df u rfl rfl (Wn 4 rfl (Nx (WC.condF rfl ?_)))
    have hp2N:=side_right t (by omega) (by omega) (by omega) (by omega) (by omega) su sv (by omega) hp1N (by omega)
    refine WC.skip (E.end_ (E.ret0 rfl ?_))
    exact⟨rfl,_,sym_part (st0:=f) (r0:=r0) (mid:=(a+b)/2) (en:=(a+b)/2+m-st) swoE h1 h2 (by omega) rfl s (by omega) (by omega) rfl su sv l (fun q h e=>o q (by omega) e) t hp1N hp2N,L,N⟩
   refine Df D rfl rfl (Wn 4 rfl (Nx (WC.condF rfl ?_)))
   have hp1N:Part ltE noEdge a ((a+b)/2) K K:=side_left t (by omega) (by omega) (by omega) (by omega) (by omega) su sv (by omega) (by omega)
   refine Sn (Sr (Wn 3 rfl ?_))
   by_cases u:((((a+b)/2):Nat):Int)<((((a+b)/2+m-st):Nat):Int)
   ·refine Dt u rfl rfl (Wn 4 rfl (Nx ?_))
    by_cases v:((((a+b)/2+m-st):Nat):Int)<((b:Nat):Int)
    ·refine Cy rfl (dT v) (WC.region (Wn 5 rfl (W.cl go289 rfl rfl (ih ((a+b)/2) ((a+b)/2+m-st) b K ak (by omega) L (by omega) (by omega) (by omega) (part_keep hp1N (Nat.le_refl _) (rot_srt3 t (by omega) (by omega) (by omega) (by omega) su)) (part_keep hp1N (by omega) (rot_srt4 t (by omega) (by omega) sv))) ?_)))
     rintro _ bX ⟨rfl,bY,aS,bh,bi⟩
     have bZ:=aS.len
     refine W.nil (E.end_ (E.ret0 rfl ?_))
     exact⟨rfl,_,sym_part (st0:=f) (r0:=r0) (mid:=(a+b)/2) (en:=(a+b)/2+m-st) swoE h1 h2 (by omega) rfl s (by omega) (by omega) rfl su sv l (fun q h e=>o q (by omega) e) t hp1N aS,bh,(N.trans bi)⟩
    refine Cn rfl (dF v) ?_
    have hp2N:=side_right t (by omega) (by omega) (by omega) (by omega) (by omega) su sv (by omega) hp1N (by omega)
    refine WC.skip (E.end_ (E.ret0 rfl ?_))
    exact⟨rfl,_,sym_part (st0:=f) (r0:=r0) (mid:=(a+b)/2) (en:=(a+b)/2+m-st) swoE h1 h2 (by omega) rfl s (by omega) (by omega) rfl su sv l (fun q h e=>o q (by omega) e) t hp1N hp2N,L,N⟩
   refine Df u rfl rfl (Wn 4 rfl (Nx (WC.condF rfl ?_)))
   have hp2N:=side_right t (by omega) (by omega) (by omega) (by omega) (by omega) su sv (by omega) hp1N (by omega)
   refine WC.skip (E.end_ (E.ret0 rfl ?_))
   exact⟨rfl,_,sym_part (st0:=f) (r0:=r0) (mid:=(a+b)/2) (en:=(a+b)/2+m-st) swoE h1 h2 (by omega) rfl s (by omega) (by omega) rfl su sv l (fun q h e=>o q (by omega) e) t hp1N hp2N,L,N⟩
  refine Cn rfl (dF aP) ?_
  have hrN:Rot noEdge st m ((a+b)/2+m-st) xs xs:=Rot.none (by omega) (by omega) (by omega)
  refine Sn (Sq (Sr (Wn 3 rfl ?_)))
  by_cases D:((a:Nat):Int)<((st:Nat):Int)
  ·refine Dt D rfl rfl (Wn 4 rfl (Nx ?_))
   by_cases F:((st:Nat):Int)<((((a+b)/2):Nat):Int)
   ·refine Cy rfl (dT F) (WC.region (Wn 5 rfl (W.cl go289 rfl rfl (ih a st ((a+b)/2) xs C (by omega) z (by omega) (by omega) (by omega) (rot_srt1 hrN (by omega) su) (rot_srt2 hrN (by omega) (by omega) sv)) ?_)))
    rintro _ bj ⟨rfl,bk,I,an,bl⟩
    have ao:=y.trans bl
    have b0:=I.len
    refine Nx (Sr (Wn 3 rfl ?_))
    by_cases u:((((a+b)/2):Nat):Int)<((((a+b)/2+m-st):Nat):Int)
    ·refine Dt u rfl rfl (Wn 4 rfl (Nx ?_))
     by_cases v:((((a+b)/2+m-st):Nat):Int)<((b:Nat):Int)
     ·refine Cy rfl (dT v) (WC.region (Wn 5 rfl (W.cl go289 rfl rfl (ih ((a+b)/2) ((a+b)/2+m-st) b bk bj (by omega) an (by omega) (by omega) (by omega) (part_keep I (Nat.le_refl _) (rot_srt3 hrN (by omega) (by omega) (by omega) (by omega) su)) (part_keep I (by omega) (rot_srt4 hrN (by omega) (by omega) sv))) ?_)))
      rintro _ b1 ⟨rfl,b2,aT,bm,bn⟩
      have b3:=aT.len
      refine W.nil (E.end_ (E.ret0 rfl ?_))
      exact⟨rfl,_,sym_part (st0:=f) (r0:=r0) (mid:=(a+b)/2) (en:=(a+b)/2+m-st) swoE h1 h2 (by omega) rfl s (by omega) (by omega) rfl su sv l (fun q h e=>o q (by omega) e) hrN I aT,bm,(ao.trans bn)⟩
     refine Cn rfl (dF v) ?_
     have hp2N:=side_right hrN (by omega) (by omega) (by omega) (by omega) (by omega) su sv (by omega) I (by omega)
     refine WC.skip (E.end_ (E.ret0 rfl ?_))
     exact⟨rfl,_,sym_part (st0:=f) (r0:=r0) (mid:=(a+b)/2) (en:=(a+b)/2+m-st) swoE h1 h2 (by omega) rfl s (by omega) (by omega) rfl su sv l (fun q h e=>o q (by omega) e) hrN I hp2N,an,ao⟩
    refine Df u rfl rfl (Wn 4 rfl (Nx (WC.condF rfl ?_)))
    have hp2N:=side_right hrN (by omega) (by omega) (by omega) (by omega) (by omega) su sv (by omega) I (by omega)
    refine WC.skip (E.end_ (E.ret0 rfl ?_))
    exact⟨rfl,_,sym_part (st0:=f) (r0:=r0) (mid:=(a+b)/2) (en:=(a+b)/2+m-st) swoE h1 h2 (by omega) rfl s (by omega) (by omega) rfl su sv l (fun q h e=>o q (by omega) e) hrN I hp2N,an,ao⟩
   refine Cn rfl (dF F) ?_
   have hp1N:Part ltE noEdge a ((a+b)/2) xs xs:=side_left hrN (by omega) (by omega) (by omega) (by omega) (by omega) su sv (by omega) (by omega)
   refine Sn (Sr (Wn 3 rfl ?_))
   by_cases u:((((a+b)/2):Nat):Int)<((((a+b)/2+m-st):Nat):Int)
   ·refine Dt u rfl rfl (Wn 4 rfl (Nx ?_))
    by_cases v:((((a+b)/2+m-st):Nat):Int)<((b:Nat):Int)
    ·refine Cy rfl (dT v) (WC.region (Wn 5 rfl (W.cl go289 rfl rfl (ih ((a+b)/2) ((a+b)/2+m-st) b xs C (by omega) z (by omega) (by omega) (by omega) (part_keep hp1N (Nat.le_refl _) (rot_srt3 hrN (by omega) (by omega) (by omega) (by omega) su)) (part_keep hp1N (by omega) (rot_srt4 hrN (by omega) (by omega) sv))) ?_)))
     rintro _ b4 ⟨rfl,b5,aU,bo,bp⟩
     have b6:=aU.len
     refine W.nil (E.end_ (E.ret0 rfl ?_))
     exact⟨rfl,_,sym_part (st0:=f) (r0:=r0) (mid:=(a+b)/2) (en:=(a+b)/2+m-st) swoE h1 h2 (by omega) rfl s (by omega) (by omega) rfl su sv l (fun q h e=>o q (by omega) e) hrN hp1N aU,bo,(y.trans bp)⟩
    refine Cn rfl (dF v) ?_
    have hp2N:=side_right hrN (by omega) (by omega) (by omega) (by omega) (by omega) su sv (by omega) hp1N (by omega)
    refine WC.skip (E.end_ (E.ret0 rfl ?_))
    exact⟨rfl,_,sym_part (st0:=f) (r0:=r0) (mid:=(a+b)/2) (en:=(a+b)/2+m-st) swoE h1 h2 (by omega) rfl s (by omega) (by omega) rfl su sv l (fun q h e=>o q (by omega) e) hrN hp1N hp2N,z,y⟩
   refine Df u rfl rfl (Wn 4 rfl (Nx (WC.condF rfl ?_)))
   have hp2N:=side_right hrN (by omega) (by omega) (by omega) (by omega) (by omega) su sv (by omega) hp1N (by omega)
   refine WC.skip (E.end_ (E.ret0 rfl ?_))
   exact⟨rfl,_,sym_part (st0:=f) (r0:=r0) (mid:=(a+b)/2) (en:=(a+b)/2+m-st) swoE h1 h2 (by omega) rfl s (by omega) (by omega) rfl su sv l (fun q h e=>o q (by omega) e) hrN hp1N hp2N,z,y⟩
  refine Df D rfl rfl (Wn 4 rfl (Nx (WC.condF rfl ?_)))
  have hp1N:Part ltE noEdge a ((a+b)/2) xs xs:=side_left hrN (by omega) (by omega) (by omega) (by omega) (by omega) su sv (by omega) (by omega)
  refine Sn (Sr (Wn 3 rfl ?_))
  by_cases u:((((a+b)/2):Nat):Int)<((((a+b)/2+m-st):Nat):Int)
  ·refine Dt u rfl rfl (Wn 4 rfl (Nx ?_))
   by_cases v:((((a+b)/2+m-st):Nat):Int)<((b:Nat):Int)
   ·refine Cy rfl (dT v) (WC.region (Wn 5 rfl (W.cl go289 rfl rfl (ih ((a+b)/2) ((a+b)/2+m-st) b xs C (by omega) z (by omega) (by omega) (by omega) (part_keep hp1N (Nat.le_refl _) (rot_srt3 hrN (by omega) (by omega) (by omega) (by omega) su)) (part_keep hp1N (by omega) (rot_srt4 hrN (by omega) (by omega) sv))) ?_)))
    rintro _ b7 ⟨rfl,b8,aV,bq,bs⟩
    have b9:=aV.len
    refine W.nil (E.end_ (E.ret0 rfl ?_))
    exact⟨rfl,_,sym_part (st0:=f) (r0:=r0) (mid:=(a+b)/2) (en:=(a+b)/2+m-st) swoE h1 h2 (by omega) rfl s (by omega) (by omega) rfl su sv l (fun q h e=>o q (by omega) e) hrN hp1N aV,bq,(y.trans bs)⟩
   refine Cn rfl (dF v) ?_
   have hp2N:=side_right hrN (by omega) (by omega) (by omega) (by omega) (by omega) su sv (by omega) hp1N (by omega)
   refine WC.skip (E.end_ (E.ret0 rfl ?_))
   exact⟨rfl,_,sym_part (st0:=f) (r0:=r0) (mid:=(a+b)/2) (en:=(a+b)/2+m-st) swoE h1 h2 (by omega) rfl s (by omega) (by omega) rfl su sv l (fun q h e=>o q (by omega) e) hrN hp1N hp2N,z,y⟩
  refine Df u rfl rfl (Wn 4 rfl (Nx (WC.condF rfl ?_)))
  have hp2N:=side_right hrN (by omega) (by omega) (by omega) (by omega) (by omega) su sv (by omega) hp1N (by omega)
  refine WC.skip (E.end_ (E.ret0 rfl ?_))
  exact⟨rfl,_,sym_part (st0:=f) (r0:=r0) (mid:=(a+b)/2) (en:=(a+b)/2+m-st) swoE h1 h2 (by omega) rfl s (by omega) (by omega) rfl su sv l (fun q h e=>o q (by omega) e) hrN hp1N hp2N,z,y⟩
 refine Df aO rfl rfl (Wn 4 rfl (Nx (WC.condF rfl ?_)))
 have hrN:Rot noEdge st m ((a+b)/2+m-st) xs xs:=Rot.none (by omega) (by omega) (by omega)
 refine Sn (Sq (Sr (Wn 3 rfl ?_)))
 by_cases D:((a:Nat):Int)<((st:Nat):Int)
 ·refine Dt D rfl rfl (Wn 4 rfl (Nx ?_))
  by_cases F:((st:Nat):Int)<((((a+b)/2):Nat):Int)
  ·refine Cy rfl (dT F) (WC.region (Wn 5 rfl (W.cl go289 rfl rfl (ih a st ((a+b)/2) xs C (by omega) z (by omega) (by omega) (by omega) (rot_srt1 hrN (by omega) su) (rot_srt2 hrN (by omega) (by omega) sv)) ?_)))
   rintro _ bt ⟨rfl,bu,J,ap,bv⟩
   have aq:=y.trans bv
   have ca:=J.len
   refine Nx (Sr (Wn 3 rfl ?_))
   by_cases u:((((a+b)/2):Nat):Int)<((((a+b)/2+m-st):Nat):Int)
   ·refine Dt u rfl rfl (Wn 4 rfl (Nx ?_))
    by_cases v:((((a+b)/2+m-st):Nat):Int)<((b:Nat):Int)
    ·refine Cy rfl (dT v) (WC.region (Wn 5 rfl (W.cl go289 rfl rfl (ih ((a+b)/2) ((a+b)/2+m-st) b bu bt (by omega) ap (by omega) (by omega) (by omega) (part_keep J (Nat.le_refl _) (rot_srt3 hrN (by omega) (by omega) (by omega) (by omega) su)) (part_keep J (by omega) (rot_srt4 hrN (by omega) (by omega) sv))) ?_)))
     rintro _ cc ⟨rfl,cd,aW,bw,bx⟩
     have ce:=aW.len
     refine W.nil (E.end_ (E.ret0 rfl ?_))
     exact⟨rfl,_,sym_part (st0:=f) (r0:=r0) (mid:=(a+b)/2) (en:=(a+b)/2+m-st) swoE h1 h2 (by omega) rfl s (by omega) (by omega) rfl su sv l (fun q h e=>o q (by omega) e) hrN J aW,bw,(aq.trans bx)⟩
    refine Cn rfl (dF v) ?_
    have hp2N:=side_right hrN (by omega) (by omega) (by omega) (by omega) (by omega) su sv (by omega) J (by omega)
    refine WC.skip (E.end_ (E.ret0 rfl ?_))
    exact⟨rfl,_,sym_part (st0:=f) (r0:=r0) (mid:=(a+b)/2) (en:=(a+b)/2+m-st) swoE h1 h2 (by omega) rfl s (by omega) (by omega) rfl su sv l (fun q h e=>o q (by omega) e) hrN J hp2N,ap,aq⟩
   refine Df u rfl rfl (Wn 4 rfl (Nx (WC.condF rfl ?_)))
   have hp2N:=side_right hrN (by omega) (by omega) (by omega) (by omega) (by omega) su sv (by omega) J (by omega)
   refine WC.skip (E.end_ (E.ret0 rfl ?_))
   exact⟨rfl,_,sym_part (st0:=f) (r0:=r0) (mid:=(a+b)/2) (en:=(a+b)/2+m-st) swoE h1 h2 (by omega) rfl s (by omega) (by omega) rfl su sv l (fun q h e=>o q (by omega) e) hrN J hp2N,ap,aq⟩
  refine Cn rfl (dF F) ?_
  have hp1N:Part ltE noEdge a ((a+b)/2) xs xs:=side_left hrN (by omega) (by omega) (by omega) (by omega) (by omega) su sv (by omega) (by omega)
  refine Sn (Sr (Wn 3 rfl ?_))
  by_cases u:((((a+b)/2):Nat):Int)<((((a+b)/2+m-st):Nat):Int)
  ·refine Dt u rfl rfl (Wn 4 rfl (Nx ?_))
   by_cases v:((((a+b)/2+m-st):Nat):Int)<((b:Nat):Int)
   ·refine Cy rfl (dT v) (WC.region (Wn 5 rfl (W.cl go289 rfl rfl (ih ((a+b)/2) ((a+b)/2+m-st) b xs C (by omega) z (by omega) (by omega) (by omega) (part_keep hp1N (Nat.le_refl _) (rot_srt3 hrN (by omega) (by omega) (by omega) (by omega) su)) (part_keep hp1N (by omega) (rot_srt4 hrN (by omega) (by omega) sv))) ?_)))
    rintro _ cf ⟨rfl,cg,aX,bz,bA⟩
    have ci:=aX.len
    refine W.nil (E.end_ (E.ret0 rfl ?_))
    exact⟨rfl,_,sym_part (st0:=f) (r0:=r0) (mid:=(a+b)/2) (en:=(a+b)/2+m-st) swoE h1 h2 (by omega) rfl s (by omega) (by omega) rfl su sv l (fun q h e=>o q (by omega) e) hrN hp1N aX,bz,(y.trans bA)⟩
   refine Cn rfl (dF v) ?_
   have hp2N:=side_right hrN (by omega) (by omega) (by omega) (by omega) (by omega) su sv (by omega) hp1N (by omega)
   refine WC.skip (E.end_ (E.ret0 rfl ?_))
   exact⟨rfl,_,sym_part (st0:=f) (r0:=r0) (mid:=(a+b)/2) (en:=(a+b)/2+m-st) swoE h1 h2 (by omega) rfl s (by omega) (by omega) rfl su sv l (fun q h e=>o q (by omega) e) hrN hp1N hp2N,z,y⟩
  refine Df u rfl rfl (Wn 4 rfl (Nx (WC.condF rfl ?_)))
  have hp2N:=side_right hrN (by omega) (by omega) (by omega) (by omega) (by omega) su sv (by omega) hp1N (by omega)
  refine WC.skip (E.end_ (E.ret0 rfl ?_))
  exact⟨rfl,_,sym_part (st0:=f) (r0:=r0) (mid:=(a+b)/2) (en:=(a+b)/2+m-st) swoE h1 h2 (by omega) rfl s (by omega) (by omega) rfl su sv l (fun q h e=>o q (by omega) e) hrN hp1N hp2N,z,y⟩
 refine Df D rfl rfl (Wn 4 rfl (Nx (WC.condF rfl ?_)))
 have hp1N:Part ltE noEdge a ((a+b)/2) xs xs:=side_left hrN (by omega) (by omega) (by omega) (by omega) (by omega) su sv (by omega) (by omega)
 refine Sn (Sr (Wn 3 rfl ?_))
 by_cases u:((((a+b)/2):Nat):Int)<((((a+b)/2+m-st):Nat):Int)
 ·refine Dt u rfl rfl (Wn 4 rfl (Nx ?_))
  by_cases v:((((a+b)/2+m-st):Nat):Int)<((b:Nat):Int)
  ·refine Cy rfl (dT v) (WC.region (Wn 5 rfl (W.cl go289 rfl rfl (ih ((a+b)/2) ((a+b)/2+m-st) b xs C (by omega) z (by omega) (by omega) (by omega) (part_keep hp1N (Nat.le_refl _) (rot_srt3 hrN (by omega) (by omega) (by omega) (by omega) su)) (part_keep hp1N (by omega) (rot_srt4 hrN (by omega) (by omega) sv))) ?_)))
   rintro _ cj ⟨rfl,ck,aY,bB,bC⟩
   have cm:=aY.len
   refine W.nil (E.end_ (E.ret0 rfl ?_))
   exact⟨rfl,_,sym_part (st0:=f) (r0:=r0) (mid:=(a+b)/2) (en:=(a+b)/2+m-st) swoE h1 h2 (by omega) rfl s (by omega) (by omega) rfl su sv l (fun q h e=>o q (by omega) e) hrN hp1N aY,bB,(y.trans bC)⟩
  refine Cn rfl (dF v) ?_
  have hp2N:=side_right hrN (by omega) (by omega) (by omega) (by omega) (by omega) su sv (by omega) hp1N (by omega)
  refine WC.skip (E.end_ (E.ret0 rfl ?_))
  exact⟨rfl,_,sym_part (st0:=f) (r0:=r0) (mid:=(a+b)/2) (en:=(a+b)/2+m-st) swoE h1 h2 (by omega) rfl s (by omega) (by omega) rfl su sv l (fun q h e=>o q (by omega) e) hrN hp1N hp2N,z,y⟩
 refine Df u rfl rfl (Wn 4 rfl (Nx (WC.condF rfl ?_)))
 have hp2N:=side_right hrN (by omega) (by omega) (by omega) (by omega) (by omega) su sv (by omega) hp1N (by omega)
 refine WC.skip (E.end_ (E.ret0 rfl ?_))
 exact⟨rfl,_,sym_part (st0:=f) (r0:=r0) (mid:=(a+b)/2) (en:=(a+b)/2+m-st) swoE h1 h2 (by omega) rfl s (by omega) (by omega) rfl su sv l (fun q h e=>o q (by omega) e) hrN hp1N hp2N,z,y⟩

theorem symM_all {base:Nat}{A:Option Addr}{n c:Nat}(hn:n<=1000000):∀(N a m b:Nat) (xs:List Gsp.Edge) (w:World),b-a<=N->OVec w base 81 edgeV 9 A n c xs->a<m->m<b->b<=n->Srt ltE noEdge a m xs->Srt ltE noEdge m b xs->Calls prog 289 #[.slice A n c,.int .i64 ((a:Nat):Int),.int .i64 ((m:Nat):Int),.int .i64 ((b:Nat):Int),.func (.func 162) #[] #[]] w (fun r w'=>r= .returned (.tuple #[])/\∃zs,Part ltE noEdge a b xs zs/\OVec w' base 81 edgeV 9 A n c zs/\Ch w w' (rowOf A c))
  |0,a,m,b,xs,w,hN,hO,h1,h2,h3,su,sv=>by omega
  |N+1,a,m,b,xs,w,hN,hO,h1,h2,h3,su,sv=>symM_step a m b w hO h1 h2 h3 hn su sv fun a' m' b' ys w1 hlt hO' q1 q2 q3 s1 s2=>symM_all hn N a' m' b' ys w1 (by omega) hO' q1 q2 q3 s1 s2
theorem symM_ok (a m b:Nat){base:Nat}{A:Option Addr}{n c:Nat}{xs:List Gsp.Edge}(w:World)(hO:OVec w base 81 edgeV 9 A n c xs)(h1:a<m)(h2:m<b)(h3:b<=n)(hn:n<=1000000)(su:Srt ltE noEdge a m xs)(sv:Srt ltE noEdge m b xs):Calls prog 289 #[.slice A n c,.int .i64 ((a:Nat):Int),.int .i64 ((m:Nat):Int),.int .i64 ((b:Nat):Int),.func (.func 162) #[] #[]] w (fun r w'=>r= .returned (.tuple #[])/\∃zs,Part ltE noEdge a b xs zs/\OVec w' base 81 edgeV 9 A n c zs/\Ch w w' (rowOf A c)):=symM_all hn (b-a) a m b xs w (Nat.le_refl _) hO h1 h2 h3 su sv

theorem stable_ok {base:Nat}{A:Option Addr}{n c:Nat}{xs:List Gsp.Edge}(w:World)(hO:OVec w base 81 edgeV 9 A n c xs)(hn:n<=1000000):Calls prog 237 #[.slice A n c,.int .i64 (((n:Nat):Int)),.func (.func 162) #[] #[]] w fun r w'=>r= .returned (.tuple #[])/\∃zs,Stab ltE xs zs/\OVec w' base 81 edgeV 9 A n c zs/\Ch w w' (rowOf A c):=by
 have hl:=hO.1
 refine enter func237 rfl rfl (Sr (Wn 1 rfl (Nx (Sr (Wn 3 rfl (Nx (Sq (WC.block (WC.loop (ι:=Nat×(List Gsp.Edge)) (fun⟨k,ys⟩=>[(0,.slice A n c),(1,.int .i64 (((n:Nat):Int))),(2,.func (.func 162) #[] #[]),(6,.int .i64 (20)),(7,.int .i64 ((((20*k):Nat):Int))),(8,.int .i64 ((((20*k+20):Nat):Int)))]) (fun⟨k,ys⟩ i=>(20*k<=n)/\(ys.length=n)/\(∀q,ys.filter (eqv ltE q)=xs.filter (eqv ltE q))/\(∀q,q<k->Srt ltE noEdge (20*q) (20*q+20) ys)/\Ch w i (rowOf A c)/\w.heap.size<=i.heap.size/\OVec i base 81 edgeV 9 A n c ys) (fun⟨k,ys⟩=>n+1-20*k) (0,xs) ?_ ?_ ?_)))))))))
 ·exact .cons rfl (.cons rfl (.cons rfl (.cons rfl (.cons' rfl (int_eq (by omega)) (.cons' rfl (int_eq (by omega)) (.nil _))))))
 ·exact⟨by omega,hl,fun q=>rfl,fun q hq=>by omega,(Ch.refl w (rowOf A c)),Nat.le_refl _,hO⟩
 rintro⟨k,ys⟩ i ⟨hk,hyl,hyf,hyb,z,m,C⟩
 refine Sq (Sr (Wn 3 rfl (Nx ?_)))
 by_cases D:(((20*k+20):Nat):Int)<=((n:Nat):Int)
 ·refine Cy rfl (dT D) (Sn (WC.block (Sr (Wn 4 rfl (W.cl go288 rfl rfl (insort_ok (20*k) (20*k+20) i C (by omega) (by omega) (by omega)) ?_)))))
  rintro _ ac ⟨rfl,T,F⟩
  refine Nx (Sr (Wn 2 rfl (Nx (WC.region (Wn 2 rfl (Wa (.add rfl rfl (by omega)) rfl (Wn 1 rfl (W.nil (E.blkN (E.again (k+1,(isort (20*k) (20*k+20) ys)) (.cons rfl (.cons rfl (.cons rfl (.cons rfl (.cons' rfl (int_eq (by omega)) (.cons' rfl (int_eq (by omega)) (.nil _))))))) ?_ ?_))))))))))
  ·exact⟨by omega,by rw[isort_length];exact hyl,fun q=>((isort_part (by omega) (by omega)).filt (by omega) (by omega) q).trans (hyf q),blk_next (isort_part (by omega) (by omega)) (by omega) hyb,(z.trans F),by have:=m;have:=F.size;omega,T⟩
  first|omega|(simp only[];omega)
 refine Cn rfl (dF D) (WC.exit (E.thenX (E.thenX (E.blkH (E.thenN (Sr (Wn 4 rfl (W.cl go288 rfl rfl (insort_ok (20*k) n i C (by omega) (by omega) (by omega)) ?_))))))))
 rintro _ U ⟨rfl,V,o⟩
 refine Nx (WC.block (WC.loop (ι:=Nat×(List Gsp.Edge)) (fun⟨bs,h⟩=>[(0,.slice A n c),(1,.int .i64 (((n:Nat):Int))),(2,.func (.func 162) #[] #[]),(6,.int .i64 (((bs:Nat):Int)))]) (fun⟨bs,h⟩ l=>(1<=bs/\bs<=2*n+20)/\(h.length=n)/\(∀q,h.filter (eqv ltE q)=xs.filter (eqv ltE q))/\(Blks ltE noEdge bs n h)/\Ch w l (rowOf A c)/\U.heap.size<=l.heap.size/\OVec l base 81 edgeV 9 A n c h) (fun⟨bs,h⟩=>n-bs) (20,(isort (20*k) n ys)) ?_ ?_ ?_))
 ·exact .of rfl
 ·exact⟨by omega,by rw[isort_length];exact hyl,fun q=>((isort_part (by omega) (by omega)).filt (by omega) (by omega) q).trans (hyf q),blk_done (isort_part (by omega) (by omega)) (by omega) (by omega) (by omega) hyb,(z.trans o),Nat.le_refl _,V⟩
 rintro⟨bs,h⟩ l ⟨hbs,H,I,hblk,J,L,N⟩
 refine Sq (Sr (Wn 3 rfl (Nx ?_)))
 by_cases O:((bs:Nat):Int)<((n:Nat):Int)
 ·refine Cy rfl (dT O) (Sn (WC.block (Sr (Wn 1 rfl (Wa (.mul rfl rfl (by omega)) rfl (Wn 2 rfl (Nx (Sq (WC.block ?_)))))))))
  refine WC.loop (ι:=Nat×Nat×(List Gsp.Edge)) (fun⟨K,d,f⟩=>[(0,.slice A n c),(1,.int .i64 (((n:Nat):Int))),(2,.func (.func 162) #[] #[]),(6,.int .i64 (((bs:Nat):Int))),(7,.int .i64 (((d:Nat):Int))),(8,.int .i64 ((((d+2*bs):Nat):Int)))]) (fun⟨K,d,f⟩ j=>(d=K*(2*bs))/\(d<=n)/\(f.length=n)/\(∀q,f.filter (eqv ltE q)=xs.filter (eqv ltE q))/\(Half ltE noEdge bs K n f)/\Ch w j (rowOf A c)/\l.heap.size<=j.heap.size/\OVec j base 81 edgeV 9 A n c f) (fun⟨K,d,f⟩=>n+1-d) (0,0,h) ?_ ?_ ?_
  ·exact .cons rfl (.cons rfl (.cons rfl (.cons rfl (.cons' rfl (int_eq (by omega)) (.cons' rfl (int_eq (by omega)) (.nil _))))))
  ·exact⟨by simp,Nat.zero_le _,H,I,Half.first hblk,J,Nat.le_refl _,N⟩
  rintro⟨K,d,f⟩ j ⟨e,ad,X,s,hhf,t,u,v⟩
  refine Sq (Sr (Wn 3 rfl (Nx ?_)))
  by_cases P:(((d+2*bs):Nat):Int)<=((n:Nat):Int)
  ·refine Cy rfl (dT P) (Sn (WC.block (Sr (Wn 4 rfl (Wa (.as (.add rfl rfl (by omega)) (int_eq (b:=(((d+bs):Nat):Int)) (by omega))) rfl (Wn 2 rfl (W.cl go289 rfl rfl (symM_ok d (d+bs) (d+2*bs) j v (by omega) (by omega) (by omega) (by omega) (by have hh:=hhf.left (by rw[<-e];omega);rw[<-e]at hh;exact hh) (by have hh:=hhf.right;rw[<-e,Nat.min_eq_left (by omega)]at hh;exact hh)) ?_)))))))
   rintro _ ae ⟨rfl,Y,x,Z,Q⟩
   have af:=x.len
   refine Nx (Sr (Wn 2 rfl (Nx (WC.region (Wn 2 rfl (Wa (.mul rfl rfl (by omega)) rfl (Wa (.add rfl rfl (by omega)) rfl (Wn 1 rfl (W.nil (E.blkN (E.again (K+1,d+2*bs,Y) (.cons rfl (.cons rfl (.cons rfl (.cons rfl (.cons rfl (.cons' rfl (int_eq (by omega)) (.nil _))))))) ?_ ?_)))))))))))
   ·exact⟨by rw[Nat.add_mul K 1,Nat.one_mul,<-e],by omega,by omega,fun q=>(x.filt (by omega) (by omega) q).trans (s q),hhf.next (by rw[<-e];omega) (by omega) (by rw[<-e];exact x),(t.trans Q),by have:=u;have:=Q.size;omega,Z⟩
   first|omega|(simp only[];omega)
  refine Cn rfl (dF P) (WC.exit (E.thenX (E.thenX (E.blkH (E.thenN (Sq (Sr (Wn 2 rfl (Wa (.as (.add rfl rfl (by omega)) (int_eq (b:=(((d+bs):Nat):Int)) (by omega))) rfl (Wn 1 rfl (Nx (Sr (Wn 3 rfl (Nx ?_))))))))))))))
  by_cases R:(((d+bs):Nat):Int)<((n:Nat):Int)
  ·refine Cy rfl (dT R) (WC.region (Wn 5 rfl (W.cl go289 rfl rfl (symM_ok d (d+bs) n j v (by omega) (by omega) (by omega) (by omega) (by have hh:=hhf.left (by rw[<-e];omega);rw[<-e]at hh;exact hh) (by have hh:=hhf.right;rw[<-e,Nat.min_eq_right (by omega)]at hh;exact hh)) ?_)))
   rintro _ ah ⟨rfl,aa,y,ab,S⟩
   have ai:=y.len
   refine Nx (WC.region (Wn 1 rfl (Wa (.mul rfl rfl (by omega)) rfl (Wn 1 rfl (W.nil (E.blkN (E.again (2*bs,aa) (.cons rfl (.cons rfl (.cons rfl (.cons' rfl (int_eq (by omega)) (.nil _))))) ?_ ?_)))))))
   ·exact⟨by omega,by omega,fun q=>(y.filt (by omega) (by omega) q).trans (s q),hhf.done (by rw[<-e];omega) (by rw[<-e];omega) (by omega) (by rw[<-e];exact y),(t.trans S),by have:=L;have:=S.size;have:=m;have:=u;have:=o.size;omega,ab⟩
   first|omega|(simp only[];omega)
  refine Cn rfl (dF R) ?_
  have hrest:Part ltE noEdge d n f f:=(by have hh:=hhf.rest (by rw[<-e];omega) (by rw[<-e];omega) (by omega);rw[<-e]at hh;exact hh)
  refine Sn (WC.region (Wn 1 rfl (Wa (.mul rfl rfl (by omega)) rfl (Wn 1 rfl (W.nil (E.blkN (E.again (2*bs,f) (.cons rfl (.cons rfl (.cons rfl (.cons' rfl (int_eq (by omega)) (.nil _))))) ?_ ?_)))))))
  ·exact⟨by omega,X,s,hhf.done (by rw[<-e];omega) (by rw[<-e];omega) (by omega) (by rw[<-e];exact hrest),t,by have:=L;have:=m;have:=u;have:=o.size;omega,v⟩
  first|omega|(simp only[];omega)
 refine Cn rfl (dF O) (WC.exit (E.thenX (E.thenX (E.blkH (E.end_ (E.ret0 rfl ?_))))))
 exact⟨rfl,h,part_all H hl I (hblk.all (by omega)),N,J⟩

theorem sortS_ok {base:Nat}{A:Option Addr}{n c:Nat}{xs:List Gsp.Edge}(w:World)(hO:OVec w base 81 edgeV 9 A n c xs)(hn:n<=1000000):Calls prog 161 #[.slice A n c,.func (.func 162) #[] #[]] w fun r w'=>r= .returned (.tuple #[])/\∃zs,Stab ltE xs zs/\OVec w' base 81 edgeV 9 A n c zs/\Ch w w' (rowOf A c):=by
 refine enter func161 rfl rfl (WC.region (Wn 2 rfl (Wr (.len underlying32 rfl) rfl (Wn 1 rfl (W.cl go237 rfl rfl (stable_ok w hO (by omega)) ?_)))))
 rintro _ f ⟨rfl,h,b,d,e⟩
 refine W.nil (E.end_ (E.ret0 rfl ?_))
 exact⟨rfl,_,b,d,((Ch.refl w (rowOf A c)).trans e)⟩

theorem ofE_ok {A:Option Addr}{n c:Nat}{xs:List Gsp.Edge}(w:World)(hV:Vec w edgeV 9 A n xs)(hn:n<=1000000):Calls prog 67 #[.slice A n c] w fun r w'=>∃A' c' zs,r= .returned (.slice A' (xs.filter edgeOk).length c')/\Stab ltE (xs.filter edgeOk) zs/\OVec w' w.heap.size 81 edgeV 9 A' (xs.filter edgeOk).length c' zs/\Le w w':=by
 have hl:=hV.1
 have hfl:=List.length_filter_le edgeOk xs
 refine enter func67 rfl rfl ?_
 have b:=Le.refl w
 refine Sr (Wn 1 rfl (Nx (Sr (Wn 1 rfl (W.cl go159 rfl rfl (those_ok edgeOk go160 w (hV.le b) (by omega) (fun e f _=>edge_ok e f)) ?_)))))
 rintro _ h ⟨m,o,rfl,d,i⟩
 refine Wn 1 rfl (Nx (Sr (Wn 1 rfl (W.cl go161 rfl rfl (sortS_ok h d (by omega)) ?_))))
 rintro _ s ⟨rfl,t,j,k,l⟩
 refine Nx (Sr (Wn 2 rfl (Nx (Rt (E.retG1 rfl rfl ?_)))))
 exact⟨_,_,_,rfl,j,(k.mono b.size),((b.trans i).then_ l (fun q hq=>Nat.le_trans b.size (d.row hq).1))⟩
end Go.Proofs.YtocheaahlpiajaaGreatDoor

