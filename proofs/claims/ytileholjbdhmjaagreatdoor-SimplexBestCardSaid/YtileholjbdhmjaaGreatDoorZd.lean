/-
  The reference's solve: the region in which a row is made.
-/
import Derived.Test.YtileholjbdhmjaaGreatDoorTa
import Derived.Test.YtileholjbdhmjaaGreatDoorFlowX
import Derived.Test.YtileholjbdhmjaaGreatDoorFlowS
import Derived.Test.YtileholjbdhmjaaGreatDoorSc
import Derived.Test.YtileholjbdhmjaaGreatDoorVa
import Derived.Test.YtileholjbdhmjaaGreatDoorSi
import Derived.Test.YtileholjbdhmjaaGreatDoorZa
import Derived.Test.YtileholjbdhmjaaGreatDoorRm
set_option linter.unusedVariables false
set_option linter.unusedSimpArgs false
set_option maxRecDepth 100000
set_option maxHeartbeats 25600000
namespace Go.Proofs.YtileholjbdhmjaaGreatDoor
open Go.RowKit
theorem run_app_made (w:World) (ty:TypeId) (B g:Nat) (m:List Qo) (ao:Option Addr) (c:Nat) (hown:OwnO w B (.slice (some ⟨g,0,none⟩) 0 0) []) (hB:B<=w.heap.size) (hm:UQ w ao m) (hne:0 < m.length) (hl:m.length<=1000000) :
  ∃ v' w',(Builtin.append_ #[28,28] ty #[.slice (some ⟨g,0,none⟩) 0 0,.slice ao m.length c]).run Tryz.prog w=.ok v' w'/\OwnO w' w.heap.size v' m/\Below w.heap.size w w':=by
 obtain ⟨v',w',hr,h1,_,_,_⟩:=run_app_os w w ty B (.slice (some ⟨g,0,none⟩) 0 0) [] m ao c hown hB br hm hne (by simpa using hl);have h1:OwnO w' B v' m:=by simpa using h1
 obtain ⟨i0,hi,hz0,hz1,hz2⟩:=info_parts Tryz.info38;obtain ⟨b,off,rfl⟩:∃ b off,ao=some ⟨b,off,none⟩:=by
  obtain ⟨b,off,_,_,_,_,_,_,_,_,e,_⟩:=hm 0 m[0] (gE hne);exact ⟨b,off,e⟩
 obtain ⟨news,k1,k2,k3,k4,k5⟩:=cells_of (w:=w) (b:=b) m off (λ i q hi => by
  obtain ⟨b',off',n1,a1,l1,c1,n2,a2,l2,c2,e,hf,hq⟩:=hm i q hi
  cases e
  exact ⟨n1,a1,l1,c1,n2,a2,l2,c2,hf,hq⟩)
 have hr2:=run_append_grow (P:=Tryz.prog) (w:=w) 28 ty 38 i0 (.agg #[.bool false,.slice none 0 0,.bool false,.slice none 0 0]) Tryz.underlying28 hi hz0 ⟨g,0,none⟩ 0 0 [] (by simp) (by intro j v h; simp at h) ⟨b,off,none⟩ m.length c news (by rw [hz1]; exact k1)
  (by
   intro j u hj;have:=k2 j u hj;have ha:(⟨b,off,none⟩:Addr).add j=⟨b,off + j,none⟩:=by
    unfold Addr.add; split
    ·subst j; rfl
    ·rfl
   rw [ha]; exact this)
  (by omega) (by omega) (by rw [Nat.zero_add,nextslicecap_zero hne,hz2]; omega)
 have he:=hr.symm.trans hr2;simp only [Result.ok.injEq] at he;obtain ⟨hv,rfl⟩:=he;refine ⟨v',_,hr,?_,(Below.refl w.heap.size w).drew.alloc nl _⟩;obtain ⟨xs,hrow,hno,hel⟩:=h1;refine ⟨xs,⟨hrow.1,?_⟩,hno,hel⟩;rcases hrow.2 with h | ⟨g',cap,cur,e,hB',hg,r⟩
 ·exact .inl h
 ·refine .inr ⟨g',cap,cur,e,?_,hg,r⟩;rw [hv] at e;simp only [Value.slice.injEq,Option.some.injEq,Addr.mk.injEq] at e;omega
theorem sv6 {Q:Exit->Act->World->Prop} {g0 bM oM nM cM bR oR nR cR i:Nat} {vA:Value} {ow:List (Value × List Qo)} {a:List Rat} {r:Rat} {ar:Option Addr} {cr:Nat} {ng1:Bool} {ao1:Option Addr} {n1 cap1:Nat} {nh1:Bool} {ap1:Option Addr} {m1 caq1:Nat} {w0 w:World} {x2 x3 x4 x5 x6 x9 zA zB zC zD zE zF zG zH zI zJ zK zL zM zN zO zP zQ zR zS zT zU zV zW zX zY zZ za zb zc zd ze zf zg zh zi zj zk zl zm zn zo zp zq zr zs zt zu zv zw zx zy zz yA yB yC yD yE yF yG yH yI yJ yK yL yM yN yO yP yQ yR yS yT yU yV yW yX yY yZ ya yb yc yd ye yf yg yh yi yj yk yl ym yn yo yp yq yr ys yt yu yv yw yx yy yz jA jB jC jD jE jF jG jH jI jJ jK jL jM jN jO jP jQ jR jS jT jU jV jW jX jY jZ ja jb jc jd je jf jg jh ji jj jk jl jm jn jo jp jq jr js jt ju jv jw jx jy jz kA kB kC kD kE kF kG kH kI kJ kK kL kM kN kO kP kQ kR kS:Value}
  (hw0:Below w0.heap.size w0 w) (hT:TG w w0.heap.size g0 vA (.slice none 0 0) [] ow) (how:ow.length<=1000000) (hi:i < nM) (hi2:i < nR) (hc:w0.cell? ⟨bM,oM + i,none⟩=some (.slice ar a.length cr)) (ur:UQ w0 ar (a.map some)) (Hla:Hid (0 < (a.map some).length/\(a.map some).length<=10000)) (z1:Four w0 bR (oR + i * 4) (.bool ng1) (.slice ao1 n1 cap1) (.bool nh1) (.slice ap1 m1 caq1)) (V1:RatV w0 (.agg #[.bool ng1,.slice ao1 n1 cap1,.bool nh1,.slice ap1 m1 caq1]) r)
  (hQ:∀ (T:Nat->Value) (W:World) (v' x:Value),TG W w0.heap.size g0 v' (.slice none 0 0) [] (ow ++ [(x,a.map some ++ [some r])])->Below w0.heap.size w0 W->Q .normal { tmps:=List.toArray ((.slice (some ⟨bM,oM,none⟩) nM cM)::(.slice (some ⟨bR,oR,none⟩) nR cR)::x2::x3::x4::x5::x6::v'::(.int .i64 (i:Nat))::x9::zA::zB::zC::zD::zE::zF::zG::zH::zI::zJ::zK::zL::zM::zN::zO::zP::zQ::zR::(T 28)::(T 29)::(T 30)::(T 31)::(T 32)::(T 33)::(T 34)::(T 35)::(T 36)::(T 37)::(T 38)::(T 39)::(T 40)::(T 41)::(T 42)::zh::zi::zj::zk::zl::zm::zn::zo::zp::zq::zr::zs::zt::zu::zv::zw::zx::zy::zz::yA::yB::yC::yD::yE::yF::yG::yH::yI::yJ::yK::yL::yM::yN::yO::yP::yQ::yR::yS::yT::yU::yV::yW::yX::yY::yZ::ya::yb::yc::yd::ye::yf::yg::yh::yi::yj::yk::yl::ym::yn::yo::yp::yq::yr::ys::yt::yu::yv::yw::yx::yy::yz::jA::jB::jC::jD::jE::jF::jG::jH::jI::jJ::jK::jL::jM::jN::jO::jP::jQ::jR::jS::jT::jU::jV::jW::jX::jY::jZ::ja::jb::jc::jd::je::jf::jg::jh::ji::jj::jk::jl::jm::jn::jo::jp::jq::jr::js::jt::ju::jv::jw::jx::jy::jz::kA::kB::kC::kD::kE::kF::kG::kH::kI::kJ::kK::kL::kM::kN::kO::kP::kQ::kR::kS::[]),defers:=[] } W) :
  Code.wp Tryz.prog (rgn Tryz.f56 6) Q { tmps:=List.toArray ((.slice (some ⟨bM,oM,none⟩) nM cM)::(.slice (some ⟨bR,oR,none⟩) nR cR)::x2::x3::x4::x5::x6::vA::(.int .i64 (i:Nat))::x9::zA::zB::zC::zD::zE::zF::zG::zH::zI::zJ::zK::zL::zM::zN::zO::zP::zQ::zR::zS::zT::zU::zV::zW::zX::zY::zZ::za::zb::zc::zd::ze::zf::zg::zh::zi::zj::zk::zl::zm::zn::zo::zp::zq::zr::zs::zt::zu::zv::zw::zx::zy::zz::yA::yB::yC::yD::yE::yF::yG::yH::yI::yJ::yK::yL::yM::yN::yO::yP::yQ::yR::yS::yT::yU::yV::yW::yX::yY::yZ::ya::yb::yc::yd::ye::yf::yg::yh::yi::yj::yk::yl::ym::yn::yo::yp::yq::yr::ys::yt::yu::yv::yw::yx::yy::yz::jA::jB::jC::jD::jE::jF::jG::jH::jI::jJ::jK::jL::jM::jN::jO::jP::jQ::jR::jS::jT::jU::jV::jW::jX::jY::jZ::ja::jb::jc::jd::je::jf::jg::jh::ji::jj::jk::jl::jm::jn::jo::jp::jq::jr::js::jt::ju::jv::jw::jx::jy::jz::kA::kB::kC::kD::kE::kF::kG::kH::kI::kJ::kK::kL::kM::kN::kO::kP::kQ::kR::kS::[]),defers:=[] } w:=by
 have HQ0:=hii hQ;clear hQ
 conv => arg 2; whnf
 have hxi:(i:Int) < (nM:Int):=by omega
 have hxi2:(i:Int) < (nR:Int):=by omega
 refine wp_region_seq0 (wx:=w0) [(λ _ v => v=vA),(λ W v => ∃ g,v=.slice (some ⟨g,0,none⟩) 0 0/\OwnO W w0.heap.size v []),(λ _ v => v=.slice (some ⟨bM,oM,none⟩) nM cM),(λ _ v => v=.int .i64 (i:Nat)),(λ _ v => v=.pointer (some ⟨bM,oM + i,none⟩)),(λ _ v => v=.slice ar a.length cr),(λ W v => OwnO W w.heap.size v (a.map some)),(λ _ v => v=.slice (some ⟨bR,oR,none⟩) nR cR),(λ _ v => v=.int .i64 (i:Nat)),(λ _ v => v=.pointer (some ⟨bR,oR + i * 4,none⟩)),(λ _ v => v=.agg #[.bool ng1,.slice ao1 n1 cap1,.bool nh1,.slice ap1 m1 caq1]),(λ W v => ∃ n,v=.slice (some ⟨n,0,none⟩) 1 1/\UQ W (some ⟨n,0,none⟩) [some r]),(λ _ _ => True),(λ _ _ => True),(λ _ _ => True),(λ _ _ => True)] [some 28,some 29,some 30,some 31,some 32,some 33,some 34,some 35,some 36,some 37,some 38,some 39,some 40,some 41,some 42,some 7] [28,29,30,31,32,33,34,35,36,37,38,39,40,41,42,7] [12,13,14,15] [[0,1,2],[0,1,2,3],[0,1,2,3],[0,1,2,3],[0,1,2,3],[0,1,2,3],[0],[0,1,2,3],[0,1,2,3],[0,1,2,3],[0,1,2,3],[0],[0],[1],[2],[3]] [none,some 0,none,none,none,none,some 0,none,none,none,none,some 0,none,none,none,none] (λ p T W => match p with | 0 => Below w.heap.size w W/\T 7=vA | 1 => (Below w.heap.size w W/\OwnO W w.heap.size (T 40) (a.map some ++ [some r]))/\T 7=vA | 2 => (Below w.heap.size w W/\OwnO W w.heap.size (T 40) (a.map some ++ [some r])/\∃ n,T 41=.slice (some ⟨n,0,none⟩) 1 1/\W.cell? ⟨n,0,none⟩=some (T 40))/\T 7=vA | 3 => Below w0.heap.size w0 W/\TG W w0.heap.size g0 (T 42) (.slice none 0 0) [] (ow ++ [(T 40,a.map some ++ [some r])]) | _ + 4 => (Below w0.heap.size w0 W/\TG W w0.heap.size g0 (T 42) (.slice none 0 0) [] (ow ++ [(T 40,a.map some ++ [some r])]))/\T 7=T 42) (by kernel_rfl) (by kernel_rfl) (by kernel_rfl) (by kernel_rfl) (of_decide_eq_true (by kernel_rfl)) (of_decide_eq_true (by kernel_rfl)) (by kernel_rfl) (by kernel_rfl) (⟨br.drew,rfl⟩) (λ p T W W' h hb => match p,h with | 0,h => ⟨bu h.1 hb,h.2⟩ | 1,h => ⟨⟨bu h.1.1 hb,h.1.2.mono hb⟩,h.2⟩ | 2,h => ⟨⟨bu h.1.1 hb,h.1.2.1.mono hb,h.1.2.2.choose,h.1.2.2.choose_spec.1,(hb.cell (cell_lt h.1.2.2.choose_spec.2)).trans h.1.2.2.choose_spec.2⟩,h.2⟩ | 3,h => ⟨h.1.trans (hb.mono h.1.size),h.2.mono hb⟩ | _ + 4,h => ⟨⟨h.1.1.trans (hb.mono h.1.1.size),h.1.2.mono hb⟩,h.2⟩) (λ p T T' W _ hT h => match p,h with | 0,h => (by have e3:T' 7=T 7:=hT 3 (by decide); have h:Below w.heap.size w W/\T 7=vA:=h; show Below w.heap.size w W/\T' 7=vA; rw [e3]; exact h) | 1,h => (by have e0:T' 40=T 40:=hT 0 (by decide); have e3:T' 7=T 7:=hT 3 (by decide); have h:(Below w.heap.size w W/\OwnO W w.heap.size (T 40) (a.map some ++ [some r]))/\T 7=vA:=h; show (Below w.heap.size w W/\OwnO W w.heap.size (T' 40) (a.map some ++ [some r]))/\T' 7=vA; rw [e0,e3]; exact h) | 2,h => (by have e0:T' 40=T 40:=hT 0 (by decide); have e1:T' 41=T 41:=hT 1 (by decide); have e3:T' 7=T 7:=hT 3 (by decide); have h:(Below w.heap.size w W/\OwnO W w.heap.size (T 40) (a.map some ++ [some r])/\∃ n,T 41=.slice (some ⟨n,0,none⟩) 1 1/\W.cell? ⟨n,0,none⟩=some (T 40))/\T 7=vA:=h; show (Below w.heap.size w W/\OwnO W w.heap.size (T' 40) (a.map some ++ [some r])/\∃ n,T' 41=.slice (some ⟨n,0,none⟩) 1 1/\W.cell? ⟨n,0,none⟩=some (T' 40))/\T' 7=vA; rw [e0,e1,e3]; exact h) | 3,h => (by have e0:T' 40=T 40:=hT 0 (by decide); have e2:T' 42=T 42:=hT 2 (by decide); have h:Below w0.heap.size w0 W/\TG W w0.heap.size g0 (T 42) (.slice none 0 0) [] (ow ++ [(T 40,a.map some ++ [some r])]):=h; show Below w0.heap.size w0 W/\TG W w0.heap.size g0 (T' 42) (.slice none 0 0) [] (ow ++ [(T' 40,a.map some ++ [some r])]); rw [e0,e2]; exact h) | _ + 4,h => (by have e0:T' 40=T 40:=hT 0 (by decide); have e2:T' 42=T 42:=hT 2 (by decide); have e3:T' 7=T 7:=hT 3 (by decide); have h:(Below w0.heap.size w0 W/\TG W w0.heap.size g0 (T 42) (.slice none 0 0) [] (ow ++ [(T 40,a.map some ++ [some r])]))/\T 7=T 42:=h; show (Below w0.heap.size w0 W/\TG W w0.heap.size g0 (T' 42) (.slice none 0 0) [] (ow ++ [(T' 40,a.map some ++ [some r])]))/\T' 7=T' 42; rw [e0,e2,e3]; exact h)) (hw0) ⟨stayS_val _ _,(λ _ _ _ ⟨g,e,h⟩ hb => ⟨g,e,h.mono hb⟩),stayS_val _ _,stayS_val _ _,stayS_val _ _,stayS_val _ _,(λ _ _ _ h hb => h.mono hb),stayS_val _ _,stayS_val _ _,stayS_val _ _,stayS_val _ _,(λ _ _ _ ⟨n,e,h⟩ hb => ⟨n,e,h.mono hb⟩),(λ _ _ _ h _ => h),(λ _ _ _ h _ => h),(λ _ _ _ h _ => h),(λ _ _ _ h _ => h),trivial⟩ ⟨?s0,?s1,?s2,?s3,?s4,?s5,?s6,?s7,?s8,?s9,?s10,?s11,?s12,?s13,?s14,?s15,trivial⟩ ?he
 case' s0 | s1 | s2 | s3 | s4 | s5 | s6 | s7 | s8 | s9 | s10 | s11 | s12 | s13 | s14 | s15 =>
  rintro T W p hb hp hS hA K hK
 case' s2 | s3 | s7 | s8 =>
  clear hS;simp only [ovr,Act.put,sT,sZ,sS] at hK |-
 case' s4 =>
  clear hS;have e2:T 30=.slice (some ⟨bM,oM,none⟩) nM cM:=hA.1 rfl;have e3:T 31=.int .i64 (i:Nat):=hA.2.1 rfl;simp only [ovr,Act.put,sT,sZ,sS,e2,e3] at hK |-
 case' s5 =>
  clear hS;have e4:T 32=.pointer (some ⟨bM,oM + i,none⟩):=hA.1 rfl;have hc9:=(hb.cell (cell_lt hc)).trans hc;simp only [ovr,Act.put,sT,sZ,sS,e4] at hK |-
 case' s9 =>
  clear hS;have e7:T 35=.slice (some ⟨bR,oR,none⟩) nR cR:=hA.1 rfl;have e8:T 36=.int .i64 (i:Nat):=hA.2.1 rfl;simp only [ovr,Act.put,sT,sZ,sS,e7,e8] at hK |-
 case' s10 =>
  clear hS;have e9:T 37=.pointer (some ⟨bR,oR + i * 4,none⟩):=hA.1 rfl;obtain ⟨f0,f1,f2,f3,_,_,_,_⟩:=z1.mono hb;simp only [ovr,Act.put,sT,sZ,sS,e9] at hK |-
 case s2 | s3 | s4 | s5 | s7 | s8 | s9 | s10 =>
  have HK:=hii hK;clear hK hA;refine wO rfl (by rfl) ?_;go_simp;exact HK.out _ _ ⟨λ _ => br,λ h => absurd h (seq_ne (by decide) (by decide))⟩ (rfl)
 case s0 =>
  have hp:p∈[0,1,2]:=hp;simp only [List.mem_cons,List.not_mem_nil,or_false] at hp;rcases hp with rfl | rfl | rfl
  ·have hS:Below w.heap.size w W/\T 7=vA:=hS;have e9:=hS.2;simp only [ovr,Act.put,sT,sZ,sS,e9] at hK |-;have HK:=hii hK;clear hK hA;refine wO rfl (by rfl) ?_;go_simp;exact HK.out _ _ ⟨λ _ => br,λ h => absurd h (seq_ne (by decide) (by decide))⟩ (rfl)
  ·have hS:(Below w.heap.size w W/\OwnO W w.heap.size (T 40) (a.map some ++ [some r]))/\T 7=vA:=hS;have e9:=hS.2;simp only [ovr,Act.put,sT,sZ,sS,e9] at hK |-;have HK:=hii hK;clear hK hA;refine wO rfl (by rfl) ?_;go_simp;exact HK.out _ _ ⟨λ _ => br,λ h => absurd h (seq_ne (by decide) (by decide))⟩ (rfl)
  ·have hS:(Below w.heap.size w W/\OwnO W w.heap.size (T 40) (a.map some ++ [some r])/\∃ n,T 41=.slice (some ⟨n,0,none⟩) 1 1/\W.cell? ⟨n,0,none⟩=some (T 40))/\T 7=vA:=hS;have e9:=hS.2;simp only [ovr,Act.put,sT,sZ,sS,e9] at hK |-;have HK:=hii hK;clear hK hA;refine wO rfl (by rfl) ?_;go_simp;exact HK.out _ _ ⟨λ _ => br,λ h => absurd h (seq_ne (by decide) (by decide))⟩ (rfl)
 case s1 =>
  clear hS;simp only [ovr,Act.put,sT,sZ,sS] at hK |-;have HK:=hii hK;clear hK hA;refine wO rfl (by rfl) ?_;go_simp;obtain ⟨w1,hw1⟩:∃ w1,w1=W.alloc (.cells #[] 38):=⟨_,rfl⟩;have hb1:Below W.heap.size W w1:=by rw [hw1]; exact bA W _
  have ho:=(ownO_made W).base hb.size;rw [<- hw1] at ho;rw [<- hw1]
  try dsimp only
  exact HK.out _ _ ⟨λ _ => hb1,λ h => absurd h (seq_ne (by decide) (by decide))⟩ (⟨_,rfl,ho⟩)
 case s6 =>
  obtain rfl:p=0:=by simpa using hp
  have hS:Below w.heap.size w W/\T 7=vA:=hS;have r1:((λ W v => ∃ g,v=.slice (some ⟨g,0,none⟩) 0 0/\OwnO W w0.heap.size v []):World->Value->Prop) W (T 29):=hA.1 (by decide);have e5:T 33=.slice ar a.length cr:=hA.2.1 rfl;simp only [ovr,Act.put,sT,sZ,sS,e5] at hK |-;have HK:=hii hK;clear hK hA;obtain ⟨g1,e1,ho⟩:=r1;rw [e1] at ho;obtain ⟨v1,w1,hr,ho1,hb1⟩:=run_app_made W 28 w0.heap.size g1 (a.map some) ar cr ho hb.size (ur.mono hb) Hla.out.1 (Nat.le_trans Hla.out.2 (by omega));rw [List.length_map,<- e1] at hr;refine wO rfl (by rfl) ?_;refine oper_append _ _ rfl rfl rfl hr ?_;simp only [Act.put,List.setIfInBounds_toArray,List.set_cons_zero,List.set_cons_succ];exact HK.out _ _ ⟨λ _ => hb1,λ h => absurd h (seq_ne (by decide) (by decide))⟩ (ho1.base hS.1.size)
 case s11 =>
  clear hS;have e10:T 38=.agg #[.bool ng1,.slice ao1 n1 cap1,.bool nh1,.slice ap1 m1 caq1]:=hA.1 rfl;simp only [ovr,Act.put,sT,sZ,sS,e10] at hK |-;have HK:=hii hK;clear hK hA;refine wO rfl (by rfl) ?_;go_simp;obtain ⟨w1,hw1⟩:∃ w1,w1=W.alloc (.cells #[.bool ng1,.slice ao1 n1 cap1,.bool nh1,.slice ap1 m1 caq1] 38):=⟨_,rfl⟩;have hb1:Below W.heap.size W w1:=by rw [hw1]; exact bA W _
  have huq:UQ w1 (some ⟨W.heap.size,0,none⟩) [some r]:=by rw [hw1]; exact uq_one (V1.mono hb)
  rw [<- hw1]
  try dsimp only
  exact HK.out _ _ ⟨λ _ => hb1,λ h => absurd h (seq_ne (by decide) (by decide))⟩ (⟨_,rfl,huq⟩)
 case s12 =>
  obtain rfl:p=0:=by simpa using hp
  have hS:Below w.heap.size w W/\T 7=vA:=hS;have r6:((λ W v => OwnO W w.heap.size v (a.map some)):World->Value->Prop) W (T 34):=hA.1 (by decide);have r11:((λ W v => ∃ n,v=.slice (some ⟨n,0,none⟩) 1 1/\UQ W (some ⟨n,0,none⟩) [some r]):World->Value->Prop) W (T 39):=hA.2.1 (by decide);simp only [ovr,Act.put,sT,sZ,sS] at hK |-;have HK:=hii hK;clear hK hA;have ho6:OwnO W w.heap.size _ (a.map some):=r6;obtain ⟨n11,e11,huq⟩:=r11;obtain ⟨v1,w1,hr,ho,hbb,gr⟩:=run_app_o W w 28 w.heap.size _ (a.map some) (some r) (some ⟨n11,0,none⟩) 1 ho6 hS.1.size hS.1 huq (by have:=Hla.out.2; omega);rw [<- e11] at hr;have hbw1:Below w0.heap.size W w1:=gr.kept.below (λ b e => by have:=(ho6.lt b e).1; have:=hw0.size; omega) hb.size;refine wO rfl (by rfl) ?_;refine oper_append _ _ rfl rfl rfl hr ?_;simp only [Act.put,List.setIfInBounds_toArray,List.set_cons_zero,List.set_cons_succ];exact HK.out _ _ ⟨λ h => absurd rfl h,λ _ => ⟨⟨⟨hbb,ho⟩,hS.2⟩,hbw1⟩⟩ (trivial)
 case s13 =>
  obtain rfl:p=1:=by simpa using hp
  have hS:(Below w.heap.size w W/\OwnO W w.heap.size (T 40) (a.map some ++ [some r]))/\T 7=vA:=hS;obtain ⟨a9,n9,c9,e12⟩:=hS.1.2.sl;have HSS:=hii hS;clear hS;clear hS;simp only [ovr,Act.put,sT,sZ,sS,e12] at hK |-;have HK:=hii hK;clear hK hA;refine wO rfl (by rfl) ?_;go_simp;obtain ⟨w1,hw1⟩:∃ w1,w1=W.alloc (.cells #[.slice a9 n9 c9] 28):=⟨_,rfl⟩;have hb1:Below W.heap.size W w1:=by rw [hw1]; exact bA W _
  have hcc:w1.cell? ⟨W.heap.size,0,none⟩=some (T 40):=by rw [hw1,e12]; simp [go_sem]
  rw [<- hw1]
  try dsimp only
  exact HK.out _ _ ⟨λ h => absurd rfl h,λ _ => ⟨⟨⟨bu HSS.out.1.1 hb1,HSS.out.1.2.mono hb1,_,rfl,hcc⟩,HSS.out.2⟩,hb1.mono hb.size⟩⟩ (trivial)
 case s14 =>
  obtain rfl:p=2:=by simpa using hp
  have hS:(Below w.heap.size w W/\OwnO W w.heap.size (T 40) (a.map some ++ [some r])/\∃ n,T 41=.slice (some ⟨n,0,none⟩) 1 1/\W.cell? ⟨n,0,none⟩=some (T 40))/\T 7=vA:=hS;have e0:T 28=vA:=hA.1 rfl;simp only [ovr,Act.put,sT,sZ,sS,e0] at hK |-;have HK:=hii hK;clear hK hA;obtain ⟨⟨hb2,ho,n13,e13,hcc⟩,_⟩:=hS;obtain ⟨a9,n9,c9,e12⟩:=ho.sl;rw [e12] at ho hcc;obtain ⟨v1,w1,hr,h2,h3,gr⟩:=hT.appA (W':=W) (X:=w0) hb2 ho hw0.size (hw0.trans (hb2.mono hw0.size)) 27 hcc how;rw [<- e13] at hr;rw [<- e12] at h2;have hbw1:Below w0.heap.size W w1:=gr.kept.below (λ b e => (hT.oA.lt b e).1) hb.size;refine wO rfl (by rfl) ?_;refine oper_append _ _ rfl rfl rfl hr ?_;simp only [Act.put,List.setIfInBounds_toArray,List.set_cons_zero,List.set_cons_succ];exact HK.out _ _ ⟨λ h => absurd rfl h,λ _ => ⟨⟨h3,h2⟩,hbw1⟩⟩ (trivial)
 case s15 =>
  obtain rfl:p=3:=by simpa using hp
  have hS:Below w0.heap.size w0 W/\TG W w0.heap.size g0 (T 42) (.slice none 0 0) [] (ow ++ [(T 40,a.map some ++ [some r])]):=hS;have e0:T 28=vA:=hA.2.2.1 rfl;have e2:T 30=.slice (some ⟨bM,oM,none⟩) nM cM:=hA.2.2.2.2.1 rfl;have e3:T 31=.int .i64 (i:Nat):=hA.2.2.2.2.2.1 rfl;have e4:T 32=.pointer (some ⟨bM,oM + i,none⟩):=hA.2.2.2.2.2.2.1 rfl;have e5:T 33=.slice ar a.length cr:=hA.2.2.2.2.2.2.2.1 rfl;have e7:T 35=.slice (some ⟨bR,oR,none⟩) nR cR:=hA.2.2.2.2.2.2.2.2.2.1 rfl;have e8:T 36=.int .i64 (i:Nat):=hA.2.2.2.2.2.2.2.2.2.2.1 rfl;have e9:T 37=.pointer (some ⟨bR,oR + i * 4,none⟩):=hA.2.2.2.2.2.2.2.2.2.2.2.1 rfl;have e10:T 38=.agg #[.bool ng1,.slice ao1 n1 cap1,.bool nh1,.slice ap1 m1 caq1]:=hA.2.2.2.2.2.2.2.2.2.2.2.2.1 rfl;have hS2:=hS;simp only [ovr,Act.put,sT,sZ,sS,e0,e2,e3,e4,e5,e7,e8,e9,e10] at hK |-;have HK:=hii hK;clear hK hA;refine wO rfl (by rfl) ?_;go_simp;exact HK.out (T 42) _ ⟨λ h => absurd rfl h,λ _ => ⟨⟨hS2,rfl⟩,br⟩⟩ (trivial)
 case he =>
  rintro T W hb hS hA;have hS:(Below w0.heap.size w0 W/\TG W w0.heap.size g0 (T 42) (.slice none 0 0) [] (ow ++ [(T 40,a.map some ++ [some r])]))/\T 7=T 42:=hS;simp only [ovr,sT,sZ,sS];rw [hS.2];exact HQ0.out T W _ _ hS.1.2 hS.1.1
def augL (M:List (List Rat)) (b:List Rat) (R:Nat) (i j:Nat):Rat:=if j < R then (M.getD i []).getD j 0 else b.getD i 0
def gjW:Nat->Nat
 | 0 => 20
 | k + 1 => 2 * gjW k * gjW k
def XB (x:Rat):Prop:=∃ D:Int,D ≠ 0/\D.natAbs<=gjW 4/\Sx.Wh (x * (D:Rat)) (gjW 4)
def Solve13 (M:List (List Rat)) (b:List Rat) (R:Nat) (w':World) (e:Ending):Prop :=
 (∃ k,k < R/\(∃ y:Nat->Rat,y R=0/\y k=1/\∀ i,i < R->Du.sm (R + 1) (λ j => augL M b R i j * y j)=0)/\e=.returned (.tuple #[.slice none 0 0,.bool false])) \/
 (∃ ax cx,∃ x:List Rat,x.length=R/\e=.returned (.tuple #[.slice ax R cx,.bool true])/\UQ w' ax (x.map some)/\(∀ i,i < R->Du.sm R (λ j => augL M b R i j * x.getD j 0)=augL M b R i R)/\∀ r∈x,XB r)
theorem gj_kb {k:Nat} {x:Rat} {D:Int} (hk:k<=4) (h1:D ≠ 0) (h2:D.natAbs<=gjW k) (h3:Sx.Wh (x * (D:Rat)) (gjW k)):Kb 2 x:=by
 have hg:gjW k<=KK ^ 2:=by
  have h0:gjW 0<=gjW 1/\gjW 1<=gjW 2/\gjW 2<=gjW 3/\gjW 3<=gjW 4:=⟨of_decide_eq_true (by kernel_rfl),of_decide_eq_true (by kernel_rfl),of_decide_eq_true (by kernel_rfl),of_decide_eq_true (by kernel_rfl)⟩;have h4:gjW 4<=KK ^ 2:=by unfold KK; exact of_decide_eq_true (by kernel_rfl)
  rcases (by omega:k=0\/k=1\/k=2\/k=3\/k=4) with rfl | rfl | rfl | rfl | rfl <;> omega
 have:=wh_bd h1 h3 h2;exact ⟨Nat.le_trans this.1 hg,Nat.le_trans this.2 hg⟩
theorem gj_xb {R:Nat} {M cur:Nat->Nat->Rat} (hR:R<=4) (h:Sx.GJ R R M cur (gjW R)) {i:Nat} (hi:i < R):XB (cur i R / cur i i):=by
 have hg:gjW R<=gjW 4:=by
  have h0:gjW 0<=gjW 1/\gjW 1<=gjW 2/\gjW 2<=gjW 3/\gjW 3<=gjW 4:=⟨of_decide_eq_true (by kernel_rfl),of_decide_eq_true (by kernel_rfl),of_decide_eq_true (by kernel_rfl),of_decide_eq_true (by kernel_rfl)⟩;rcases (by omega:R=0\/R=1\/R=2\/R=3\/R=4) with rfl | rfl | rfl | rfl | rfl <;> omega
 obtain ⟨D,h1,h2,h3⟩:=h.size i hi;obtain ⟨z,e1,e2⟩:=h3 i (by omega);obtain ⟨y,f1,f2⟩:=h3 R (by omega);have hd:=(h.diag i hi).1;refine ⟨z,λ hz => ?_,by omega,y,?_,by omega⟩
 ·rw [hz] at e1;have h4:cur i i * (D:Rat)=0:=by rw [e1]; rfl
  rcases Rat.mul_eq_zero.1 h4 with h5 | h5
  ·exact hd h5
  ·exact h1 (by exact_mod_cast h5)
 ·rw [<- e1,<- f1,<- Rat.mul_assoc,Rat.div_mul_cancel hd]
theorem zsx (x f:Rat):x=x - f * 0:=by grind
theorem gjW_kk {k:Nat} (h:k<=3):gjW k<=KK:=by
 have:gjW 3<=KK:=by unfold KK; exact of_decide_eq_true (by kernel_rfl)
 have h0:gjW 0<=gjW 1/\gjW 1<=gjW 2/\gjW 2<=gjW 3:=⟨of_decide_eq_true (by kernel_rfl),of_decide_eq_true (by kernel_rfl),of_decide_eq_true (by kernel_rfl)⟩;rcases (by omega:k=0\/k=1\/k=2\/k=3) with rfl | rfl | rfl | rfl <;> omega
theorem solve13_ok (M:List (List Rat)) (b:List Rat) (R:Nat) (hl:Hid (M.length=R/\b.length=R)) (hR1:1<=R/\R<=4) (hr:Hid (∀ r∈M,r.length=R)) (hw:Hid (∀ r∈M,∀ x∈r,Sx.Wh x 20)) (hwb:Hid (∀ x∈b,Sx.Wh x 20)) (aM aB:Option Addr) (cM cB:Nat) (w:World) (uM:UM w aM (M.map (·.map some))) (uB:UQ w aB (b.map some)) (hE:Env w) :
  Calls Tryz.prog 56 #[.slice aM R cM,.slice aB R cB] w λ e w' => Solve13 M b R w' e/\Below w.heap.size w w':=by
 unfold Solve13;obtain ⟨L0,hL0⟩:∃ L0:Nat->Nat->Rat,L0=augL M b R:=⟨_,rfl⟩;rw [<- hL0];unfold augL at hL0;have HL0:=hii hL0;have HRW:Hid (∀ (i:Nat) (a:List Rat) (r:Rat),M[i]?=some a->b[i]?=some r->a.map some ++ [some r]=rowQ L0 i (R + 1)):=hii λ i a r ha hb => by
  have hla:=hr.out a (List.mem_of_getElem? ha);have e1:rowQ L0 i (R + 1)=rowQ L0 i R ++ [some (L0 i R)]:=by unfold rowQ; exact range_snoc _ _
  rw [e1]
  congr 1
  ·rw [vq_list hla,hL0];refine rowQ_congr λ j hj => ?_
   rw [if_pos hj,List.getD_eq_getElem?_getD (l:=M),ha]; rfl
  ·rw [hL0];simp [List.getD_eq_getElem?_getD,hb]
 have HM0:Hid (∀ i j,i < R->j < R + 1->Sx.Wh (L0 i j) 20):=hii λ i j _ _ => by
  rw [hL0]
  dsimp only
  split
  ·rw [List.getD_eq_getElem?_getD (l:=M)]
   cases ha:M[i]? with
   | none => exact getD_wh (l:=[]) (λ x h => by simp at h) j
   | some r => exact getD_wh (hw.out r (List.mem_of_getElem? ha)) j
  ·exact getD_wh hwb.out i
 clear hL0;obtain ⟨g0,Hg0⟩:∃ g0,g0 < w.heap.size:=by
  obtain ⟨a,ha⟩:∃ a,M[0]?=some a:=⟨M[0]'(by rw [hl.out.1]; omega),gE _⟩;obtain ⟨b,off,ar,cr,_,hc,_⟩:=uM 0 (a.map some) (by rw [List.getElem?_map,ha]; rfl);exact ⟨b,cell_lt hc⟩
 have HG0:=hii Hg0;clear Hg0;go_enter Tryz.func56,Tryz.ntmps56;go_wp2_with fail;go_loopw [7,8] (λ s c wr => ∃ (i:Nat) (ow:List (Value × List Qo)),i<=R/\c=.int .i64 (i:Nat)/\TG wr w.heap.size g0 s (.slice none 0 0) [] ow/\Hid (ow.map (·.2)=(List.range i).map λ t => rowQ L0 t (R + 1))/\Below w.heap.size w wr) (λ _ c _ => R - (intOf c).toNat)
 case atStart => exact ⟨0,[],Nat.zero_le _,rfl,TG.nil HG0.out,hii rfl,br⟩
 case round =>
  obtain ⟨i,ow,hi,rfl,hT,HO,hbr⟩:=hrel
  by_cases hlt:i < R
  ·obtain ⟨a,ha⟩:∃ a,M[i]?=some a:=⟨M[i]'(by rw [hl.out.1]; omega),gE _⟩;obtain ⟨r,hb⟩:∃ a,b[i]?=some a:=⟨b[i]'(by rw [hl.out.2]; omega),gE _⟩;obtain ⟨b0,off0,ar,cr,ea,hc,ur⟩:=uM i (a.map some) (by rw [List.getElem?_map,ha]; rfl);obtain ⟨b1,off1,ng1,ao1,n1,cap1,nh1,ap1,m1,caq1,eb,FA,hv⟩:=uB i (some r) (by rw [List.getElem?_map,hb]; rfl);have hv:RatV w _ r:=hv;have hla:a.length=R:=hr.out a (List.mem_of_getElem? ha);have Hla:Hid (0 < (a.map some).length/\(a.map some).length<=10000):=hii (by rw [List.length_map]; omega);have how:ow.length<=1000000:=by have:=congrArg List.length HO.out; simp only [List.length_map,List.length_range] at this; omega
   have HC:Hid ((List.range (i + 1)).map (λ t => rowQ L0 t (R + 1))=(List.range i).map (λ t => rowQ L0 t (R + 1)) ++ [a.map some ++ [some r]]):=hii (by rw [range_snoc,HRW.out i a r ha hb]);rw [List.length_map] at hc;subst ea;subst eb;clear ha hb hla;go_upto_region 6 with fail;refine sv6 (w0:=w) hbr hT how hlt hlt hc ur Hla FA hv ?_;rintro T w3 v3 x3 hT3 hb3;clear hT how hc ur FA hv Hla;go_wp2;go_roundw
   case rel => exact ⟨i + 1,_,by omega,by go_num,hT3,hii (by rw [List.map_append,HO.out]; exact HC.out.symm),hb3⟩
   case measure => simp [intOf]; omega
  ·have hie:i=R:=by omega
   rw [hie] at HO;obtain ⟨ga,ca,rr,cr,e3,hW⟩:=hT.rw HO.out (by omega) (by omega);subst e3;have HGJ:Hid (Sx.GJ R 0 L0 L0 (gjW 0)):=hii (Sx.GJ.start HM0.out (by decide));clear hT HO hi hie;go_wp2_with fail;clear hlt;go_loopw [9] (λ s wr => ∃ (k:Nat) (rr cr:Nat->Nat) (L:Nat->Nat->Rat),k<=R/\s=.int .i64 (k:Nat)/\RW wr w.heap.size ga ca R (R + 1) rr cr L/\Hid (Sx.GJ R k L0 L (gjW k))/\Below w.heap.size w wr) (λ s _ => R - (intOf s).toNat)
   case atStart => exact ⟨0,rr,cr,L0,Nat.zero_le _,rfl,hW,HGJ,hbr⟩
   case round =>
    clear hW HGJ hbr;obtain ⟨k,rr,cr,L,hkn,rfl,hW,HE,hbr⟩:=hrel
    by_cases hkR:k < R
    ·go_wp2_with fail;obtain ⟨wq,rfl⟩:=exi wr;go_loopw [10] (λ s wr => ∃ q:Nat,k<=q/\q<=R/\s=.int .i64 (q:Nat)/\Hid (∀ t,k<=t->t < q->L t k=0)/\Below wq.heap.size wq wr) (λ s _ => R - (intOf s).toNat)
     case atStart => exact ⟨k,nl,hkn,rfl,hii (λ t h1 h2 => by omega),br⟩
     case round =>
      obtain ⟨q,hq1,hq2,rfl,HZ,hbq⟩:=hrel
      by_cases hqR:q < R
      ·have hW2:=hW.mono hbq;obtain ⟨x5,-⟩:=RX.outAt hW2 hqR;obtain ⟨ng1,ao1,n1,cap1,nh1,ap1,m1,caq1,y0,y1,y2,y3,-,-,-,-,V1⟩:=hW2.at hqR (show k < R + 1 by omega);obtain ⟨_,_,_,_,_,_,_,_,e2,hv1,hv2⟩:=V1
       cases e2
       obtain ⟨sq,hs⟩:∃ sq,sgnI (L q k).num=sq:=⟨_,rfl⟩;have Hs:=hii hs;clear hs hv2;go_wp2_with fail;(with_reducible refine (rSign_eq _ (L q k).num sq wr Hs hv1).mono ?_);rintro e w2 ⟨rfl,hb⟩;have hbq:=bu hbq hb;clear hb hv1 y0 y1 y2 y3 x5 hW2
       by_cases hzq:sq=0
       ·have HZ2:Hid (∀ t,k<=t->t < q + 1->L t k=0):=hii λ t h1 h2 => by
         by_cases e:t=q
         ·rw [e]; exact num_zero.1 ((sgnI_zero _).1 (Hs.out.trans hzq))
         ·exact HZ.out t h1 (by omega)
        go_wp2;go_roundw
        case rel => exact ⟨q + 1,by omega,by omega,by go_num,HZ2,hbq⟩
        case measure => simp [intOf]; omega
       ·have Hqz:Hid (L q k ≠ 0):=hii λ e => hzq (by rw [<- Hs.out]; exact (sgnI_zero _).2 (num_zero.2 e))
        have hW2:=hW.mono hbq;have hb2:=hbr.trans (hbq.mono hbr.size);clear Hs hq2 hbq hbr hW HZ;have hsd1:decide (sq=0)=false:=decide_eq_false hzq;have hsd2:(sq == 0)=false:=by simpa using hzq
        go_upto_region 15 with fail;have hsd3:decide ((q:Int)=(R:Int))=false:=decide_eq_false (by omega);have hsd4:((q:Int) == (R:Int))=false:=by simpa using (show ¬ (q:Int)=(R:Int) by omega)
        have hsd5:decide (q=R)=false:=decide_eq_false (by omega)
        try simp only [hsd1]
        try simp only [hsd3]
        try simp only [hsd4]
        try simp only [hsd5]
        try simp only [hsd2]
        clear hsd1 hsd2 hsd3 hsd4 hsd5 hzq;refine sv15 (w0:=w) hb2 nl hW2 hkR hqR (by omega) ?_;clear hW2 hb2;rintro T w3 rr2 cr2 hW hbr;have HE1:Hid (Sx.GJ R k L0 (λ t => L (sw k q t)) (gjW k)):=hii (HE.out.swap (λ t ht => by unfold sw; rw [if_neg (by omega),if_neg (by omega)]) (λ t ht => sw_lt hkR hqR ht) (λ t => sw_sw _ _ _) hkn);obtain ⟨L1,hL1⟩:∃ L1:Nat->Nat->Rat,L1=λ t => L (sw k q t):=⟨_,rfl⟩
        rw [<- hL1] at hW HE1;have Hkk:Hid (L1 k k ≠ 0):=hii (by rw [hL1]; show L (sw k q k) k ≠ 0; rw [show sw k q k=q by unfold sw; rw [if_pos rfl]]; exact Hqz.out);clear hL1 HE Hqz hq1 hqR;have HKb:Hid (∀ i,i < R->∀ j,j < R + 1->Kb 1 (L1 i j)):=hii λ i hi j hj => by
         obtain ⟨D,h1,h2,h3⟩:=HE1.out.size i hi;exact wh_kb h1 (Nat.le_trans h2 (gjW_kk (by omega))) (h3 j hj) (gjW_kk (by omega))
        obtain ⟨Lf,hLf⟩:∃ Lf:Nat->Nat->Nat->Rat,Lf=λ i t j => if t ≠ k/\t < i then L1 t j - L1 t k / L1 k k * L1 k j else L1 t j:=⟨_,rfl⟩
        have HLf:=hii hLf;clear hLf;go_wp2_with fail;go_loopw [11] (λ s wr => ∃ i:Nat,i<=R/\s=.int .i64 (i:Nat)/\RW wr w.heap.size ga ca R (R + 1) rr2 cr2 (Lf i)/\Below w.heap.size w wr) (λ s _ => R - (intOf s).toNat)
        case atStart => exact ⟨0,by omega,rfl,hW.congr (λ t _ j _ => by rw [HLf.out]; dsimp only; rw [if_neg (by omega)]),hbr⟩
        case round =>
         clear hW hbr;obtain ⟨i,hi2,rfl,hW,hbr⟩:=hrel
         by_cases hiR:i < R
         ·by_cases hik:i=k
          ·have hsd1:decide ((i:Int)=(k:Int))=true:=decide_eq_true (by omega);have hsd2:((i:Int) == (k:Int))=true:=by simpa using (show (i:Int)=(k:Int) by omega)
           have HLn:Hid (∀ t j,Lf i t j=Lf (i + 1) t j):=hii λ t j => by
            rw [HLf.out]
            dsimp only
            by_cases e:t ≠ k/\t < i
            ·rw [if_pos e,if_pos ⟨e.1,by omega⟩]
            ·rw [if_neg e,if_neg (λ h => e ⟨h.1,by omega⟩)]
           clear hik;go_wp2;go_roundw
           case rel => exact ⟨i + 1,by omega,by go_num,hW.congr (λ t _ j _ => HLn.out t j),hbr⟩
           case measure => simp [intOf]; omega
          ·have Hii:Hid (∀ j,Lf i i j=L1 i j):=hii λ j => by rw [HLf.out]; dsimp only; rw [if_neg (by omega)]
           have Hikk:Hid (∀ j,Lf i k j=L1 k j):=hii λ j => by rw [HLf.out]; dsimp only; rw [if_neg (by omega)]
           obtain ⟨x5,-⟩:=RX.outAt hW hiR;obtain ⟨ng1,ao1,n1,cap1,nh1,ap1,m1,caq1,y0,y1,y2,y3,-,-,-,-,V1⟩:=hW.at hiR (show k < R + 1 by omega);rw [Hii.out] at V1;obtain ⟨_,_,_,_,_,_,_,_,e2,hv1,hv2⟩:=V1
           cases e2
           obtain ⟨s,hs⟩:∃ s,sgnI (L1 i k).num=s:=⟨_,rfl⟩;have Hs:=hii hs;clear hs hv2;have hsd1:decide ((i:Int)=(k:Int))=false:=decide_eq_false (by omega);have hsd2:((i:Int) == (k:Int))=false:=by simpa using (show ¬ (i:Int)=(k:Int) by omega)
           go_wp2_with fail;(with_reducible refine (rSign_eq _ (L1 i k).num s wr Hs hv1).mono ?_);rintro e w4 ⟨rfl,hb⟩;have hW:=hW.mono hb;have hbr:=bu hbr hb;clear hb hv1 y0 y1 y2 y3 x5
           by_cases hz:s=0
           ·have Hz:Hid (L1 i k=0):=hii (num_zero.1 ((sgnI_zero _).1 (Hs.out.trans hz)));go_wp2;go_roundw
            case rel => exact ⟨i + 1,by omega,by go_num,hW.congr (λ t _ j _ => by
             rw [HLf.out]
             dsimp only
             by_cases e:t=i
             ·subst e; rw [if_neg (by omega),if_pos ⟨hik,by omega⟩,Hz.out,Rat.div_def,Rat.zero_mul,Rat.zero_mul]; exact zsz _
             ·by_cases e2:t ≠ k/\t < i
              ·rw [if_pos e2,if_pos ⟨e2.1,by omega⟩]
              ·rw [if_neg e2,if_neg (λ h => e2 ⟨h.1,by omega⟩)]),hbr⟩
            case measure => simp [intOf]; omega
           ·have hEr:=hE.mono hbr;have hk1:k < R + 1:=by omega
            have HNe:Hid ((Lf i k k).num ≠ 0):=hii λ e => Hkk.out (by rw [<- Hikk.out k]; exact num_zero.1 e)
            have HDS:Hid (DivS (Lf i i k) (Lf i k k)):=hii (by rw [Hii.out,Hikk.out]; exact (HKb.out i hiR k hk1).divS (HKb.out k hkR k hk1) (by decide));obtain ⟨f,hf⟩:∃ f:Rat,f=L1 i k / L1 k k:=⟨_,rfl⟩;have Hf:=hii hf;have Hfq:Hid (f=Lf i i k / Lf i k k):=hii (by rw [Hii.out,Hikk.out]; exact hf);have HfK:Hid (Kb 2 f):=hii (by rw [hf]; exact (HKb.out i hiR k hk1).div (HKb.out k hkR k hk1) (λ e => Hkk.out (num_zero.1 e)));clear hf Hs;have Hlr:Hid (∀ t,t < R->rr2 t < w4.heap.size):=hii λ t ht => (hW.lowR ht).2
            go_upto_region 20 with fail;refine sv20 hW hiR hkR hk1 (by omega) (by omega) hEr HNe HDS Hfq ?_;rintro T2 w5 g9 ng5 ao5 n5 cap5 nh5 ap5 m5 caq5 hge9 r9 V5 hb;have hW:=hW.mono hb;have hbr:=bu hbr hb;have Hgn:Hid (∀ t,t < R->g9 ≠ rr2 t):=hii λ t ht e => by have:=Hlr.out t ht; omega
            have Hlow:Hid (∀ c,c < k->L1 k c=0):=hii λ c hc => (HE1.out.diag c hc).2 k hkR (by omega)
            obtain ⟨Lj,hLj⟩:∃ Lj:Nat->Nat->Nat->Rat,Lj=λ j t c => if t=i/\c < j then L1 i c - f * L1 k c else Lf i t c:=⟨_,rfl⟩
            have HLj:=hii hLj;clear hb hEr hLj hge9 Hlr HNe HDS Hfq hsd1 hsd2 hz;go_wp2_with fail;go_loopw [14] (λ s wr => ∃ j:Nat,k<=j/\j<=R + 1/\s=.int .i64 (j:Nat)/\RW wr w.heap.size ga ca R (R + 1) rr2 cr2 (Lj j)/\Row wr g9 38 [.bool ng5,.slice ao5 n5 cap5,.bool nh5,.slice ap5 m5 caq5]/\RatV wr (.agg #[.bool ng5,.slice ao5 n5 cap5,.bool nh5,.slice ap5 m5 caq5]) f/\Below w.heap.size w wr) (λ s _ => R + 1 - (intOf s).toNat)
            case atStart =>
             refine ⟨k,nl,by omega,rfl,hW.congr (λ t _ c _ => ?_),r9,V5,hbr⟩;rw [HLj.out]
             dsimp only
             by_cases e:t=i/\c < k
             ·rw [if_pos e,e.1,Hii.out,Hlow.out c e.2]; exact zsx _ f
             ·rw [if_neg e]
            case round =>
             clear hW r9 V5 hbr;obtain ⟨j,hj1,hj2,rfl,hW,r9,V5,hbr⟩:=hrel
             by_cases hjn:j < R + 1
             ·have hjl:j<=R:=by omega
              have Hjk:Hid (Lj j k j=L1 k j):=hii (by rw [HLj.out]; dsimp only; rw [if_neg (by omega),Hikk.out]);have Hji:Hid (Lj j i j=L1 i j):=hii (by rw [HLj.out]; dsimp only; rw [if_neg (by omega),Hii.out]);have hEr:=hE.mono hbr;have HMS:Hid (MulS f (Lj j k j)):=hii (by rw [Hjk.out]; exact HfK.out.mulS (HKb.out k hkR j hjn) (by decide));obtain ⟨x,hx⟩:∃ x:Rat,x=f * Lj j k j:=⟨_,rfl⟩;have Hx:=hii hx;have HSS:Hid (SubS (Lj j i j) x):=hii (by rw [Hji.out,hx,Hjk.out]; exact (HKb.out i hiR j hjn).subS (HfK.out.mul (HKb.out k hkR j hjn)) (by decide));clear hx;go_upto_region 24 with fail;refine sv24 hW hkR hjn (by omega) (by omega) r9 V5 hEr HMS Hx ?_;rintro T3 w6 g12 ng6 ao6 n6 cap6 nh6 ap6 m6 caq6 hge12 r12 V6 hb;have hW:=hW.mono hb;have r9:=r9.below hb;have V5:=V5.mono hb;have hEr:=hEr.mono hb;have hbr:=bu hbr hb;clear hb HMS hge12;go_upto_region 25 with fail;refine sv25 hW hiR hjn (by omega) (by omega) r12 V6 hEr HSS ?_;rintro T4 w7 hW2 hkp;have r9:=r9.mono hkp (λ e => Hgn.out i hiR e);have V5:=V5.keptU hkp (hW.row i hiR).noB;have hbr:=hbr.trans (hkp.below (λ b e => by subst e; exact (hW.lowR hiR).1) hbr.size);clear hW r12 V6 hEr HSS hkp;go_wp2;go_roundw
              case rel =>
               refine ⟨j + 1,by omega,by omega,by go_num,hW2.congr (λ t _ c _ => ?_),r9,V5,hbr⟩;unfold up
               by_cases e:t=i/\c=j
               ·rw [if_pos e,Hji.out,Hx.out,Hjk.out,HLj.out]
                dsimp only
                rw [if_pos (by omega),e.2]
               ·rw [if_neg e,HLj.out]
                dsimp only
                by_cases e2:t=i/\c < j
                ·rw [if_pos e2,if_pos (by omega)]
                ·rw [if_neg e2,if_neg (by omega)]
              case measure => simp [intOf]; omega
             ·have hjl:¬ j<=R:=by omega
              have hW2:=hW.congr (M:=Lf (i + 1)) (λ t _ c hc => by
               rw [HLj.out,HLf.out]
               dsimp only
               by_cases e:t=i
               ·subst e; rw [if_pos ⟨rfl,by omega⟩,if_pos ⟨hik,by omega⟩,Hf.out]
               ·rw [if_neg (λ h => e h.1)]
                by_cases e2:t ≠ k/\t < i
                ·rw [if_pos e2,if_pos ⟨e2.1,by omega⟩]
                ·rw [if_neg e2,if_neg (λ h => e2 ⟨h.1,by omega⟩)])
              clear hW r9 V5;go_wp2;go_roundw
              case rel => exact ⟨i + 1,by omega,by go_num,hW2,hbr⟩
              case measure => simp [intOf]; omega
         ·have hie:i=R:=by omega
          rw [hie] at hW;have HE2:Hid (Sx.GJ R (k + 1) L0 (Lf R) (gjW (k + 1))):=hii (HE1.out.step hkR Hkk.out (λ j _ => by rw [HLf.out]; dsimp only; rw [if_neg (by omega)]) (λ t h1 h2 j _ => by rw [HLf.out]; dsimp only; rw [if_pos ⟨h2,h1⟩]));clear hie hi2;go_wp2;go_roundw
          case rel => exact ⟨k + 1,rr2,cr2,Lf R,by omega,by go_num,hW,HE2,hbr⟩
          case measure => simp [intOf]; omega
      ·have hqe:q=R:=by omega
       have HK0:Hid (∃ y:Nat->Rat,y R=0/\y k=1/\∀ i,i < R->Du.sm (R + 1) (λ j => L0 i j * y j)=0):=hii (HE.out.none hkR λ i h1 h2 => HZ.out i h1 (by omega));have hb2:=hbr.trans (hbq.mono hbr.size);have hsd1:decide ((q:Int)=(R:Int))=true:=decide_eq_true (by omega);have hsd2:((q:Int) == (R:Int))=true:=by simpa using (show (q:Int)=(R:Int) by omega)
       clear hqe;go_wp2;go_ret2;exact ⟨.inl ⟨k,hkR,HK0.out,rfl⟩,hb2⟩
    ·have hke:k=R:=by omega
     rw [hke] at HE;have HKc:Hid (∀ i,i < R->∀ j,j < R + 1->Kb 2 (L i j)):=hii λ i hi j hj => by
      obtain ⟨D,h1,h2,h3⟩:=HE.out.size i hi;exact gj_kb hR1.2 h1 h2 (h3 j hj)
     have Hd0:Hid (∀ i,i < R->L i i ≠ 0):=hii λ i hi => (HE.out.diag i hi).1
     clear hke hkn;go_wp2_with fail;clear hkR;obtain ⟨w7,rfl⟩:=exi wr;go_loopw [17,18] (λ s c wr => ∃ i:Nat,i<=R/\c=.int .i64 (i:Nat)/\OwnO wr w7.heap.size s ((List.range i).map λ t => some (L t R / L t t))/\Below w7.heap.size w7 wr) (λ _ c _ => R - (intOf c).toNat)
     case atStart => exact ⟨0,Nat.zero_le _,rfl,OwnO.nil _ _,br⟩
     case round =>
      obtain ⟨i,hi,rfl,hown,hbi⟩:=hrel
      by_cases hiR:i < R
      ·have HNe:Hid ((L i i).num ≠ 0):=hii λ e => Hd0.out i hiR (num_zero.1 e)
       have HDS:Hid (DivS (L i R) (L i i)):=hii ((HKc.out i hiR R (by omega)).divS (HKc.out i hiR i (by omega)) (by decide));obtain ⟨x,hx⟩:∃ x:Rat,x=L i R / L i i:=⟨_,rfl⟩;have Hx:=hii hx;have HS:Hid ((List.range (i + 1)).map (λ t => (some (L t R / L t t):Qo))=(List.range i).map (λ t => some (L t R / L t t)) ++ [some x]):=hii (by rw [range_snoc,hx]);clear hx;go_upto_region 30 with fail;refine sv30 (hW.mono hbi) hiR (by omega) (by omega) (by omega) (hE.mono (bu hbr hbi)) HNe HDS Hx ?_;rintro T2 w5 g8 ng5 ao5 n5 cap5 nh5 ap5 m5 caq5 hge8 r8 V8 hb;have hown:=hown.mono hb;have hbi:=bu hbi hb;have hsz:=hbi.size;obtain ⟨z0,z1,z2,z3⟩:=r8.n4;clear hb hge8 HNe HDS;go_wp2_with (at_builtin; go_loud (refine app_o1 _ w7 rfl (.tmp 180) (.tmp 182) rfl w7.heap.size _ _ rfl hown hsz hbi V8 rfl (by simp; omega) ?_); intro v3 w3 hown3 hbel3);go_roundw
       case rel => exact ⟨i + 1,by omega,by go_num,by rw [HS.out]; exact hown3,hbel3⟩
       case measure => simp [intOf]; omega
      ·have hie:i=R:=by omega
       rw [hie] at hown;obtain ⟨ar,cr9,rfl,uq⟩:=hown.read;have e1:((List.range R).map (λ t => (some (L t R / L t t):Qo))).length=R:=by simp
       rw [e1] at hown |-;have HDn:Hid (∀ i,i < R->Du.sm R (λ j => L0 i j * ((List.range R).map λ t => L t R / L t t).getD j 0)=L0 i R):=hii (HE.out.done λ i hi => by simp [List.getD_eq_getElem?_getD,hi]);have HXB:Hid (∀ r∈(List.range R).map λ t => L t R / L t t,XB r):=hii (mem_rng λ t ht => gj_xb hR1.2 HE.out ht);have hb9:=bu hbr hbi;have huq:UQ wr ar (((List.range R).map λ t => L t R / L t t).map some):=by rw [List.map_map]; exact uq
       clear e1 hown uq hie;go_wp2;go_ret2;exact ⟨.inr ⟨_,_,_,by simp,rfl,huq,HDn.out,HXB.out⟩,hb9⟩
end Go.Proofs.YtileholjbdhmjaaGreatDoor
