/- What leads to the law, part 4. Conditions: each lemma's own. -/
import Derived.Test.YtdggohppeeaipaaKVM3
set_option linter.unusedVariables false
set_option linter.unusedSimpArgs false
namespace Go.Proofs.Ytdggohppeeaipaa
open Go.RowKit
theorem k_ (z:Array Value) (n:Nat):(Builtin.zeroCells z n).toList.length=n*z.size:=by rw [Array.length_toList,size_zeroCells]
theorem aV {w:World} {g:Nat} {o:Obj} (h:w.heap[g]? = some o):g<w.heap.size:=(Array.getElem?_eq_some_iff.1 h).1
theorem bZ:(Try.prog.info? 40).map (·.size)=some 4:=by kernel_rfl
theorem xe:(Try.prog.info? 40).map (fun i=>(i.zero,i.size,i.bytes))=some (some (.agg #[.int .i64 0,.int .i64 0,.int .i64 0,.int .i64 0]),4,32):=by kernel_rfl
set_option maxRecDepth 100000 in
set_option maxHeartbeats 1000000 in
theorem qS {w:World} {n c vc:Nat} {A:Option Addr} {B:Option Addr} {φ:Value->World->Prop} (happ:∀ (F:Fr) (x y:Operand) (ty:TypeId),ev F x=some (.slice A n c)->ev F y=some (.slice B 1 vc)->∃ v2 w2,aK Try.prog 95 F w (.call { callee:=.builtin .append,args:=#[x,y],argTypes:=#[25,25] }) ty v2 w2/\φ v2 w2) :
  gw Try.prog 25 [.slice A n c,.int .i64 (n:Int),.slice B 1 vc].toArray w φ:=by
 refine gw.enter Try.func25 rfl rfl rfl rfl ?_
 refine WC.seq ?_
 refine WC.region ?_
 refine WO.v (R.assign rfl) rfl ?_
 refine WO.nil ?_
 refine WX.next ?_
 refine WC.seq ?_
 refine WC.region ?_
 refine WO.v (R.move rfl) rfl ?_
 refine WO.v (R.move rfl) rfl ?_
 refine WO.v (R.bX rfl rfl Try.underlying25 bZ rfl (by omega)) rfl ?_
 refine WO.nil ?_
 refine WX.next ?_
 refine WC.seq ?_
 refine WC.region ?_
 refine WO.v (R.move rfl) rfl ?_
 refine WO.v (R.len rfl Try.underlying25) rfl ?_
 refine WO.v (R.assign rfl) rfl ?_
 refine WO.nil ?_
 refine WX.next ?_
 refine WC.seq ?_
 refine WC.seq ?_
 refine WC.region ?_
 refine WO.v (R.move rfl) rfl ?_
 refine WO.v (R.eql rfl rfl) rfl ?_
 refine WO.nil ?_
 refine WX.next ?_
 refine WC.cond rfl (fun q=>absurd (of_decide_eq_true q) (by omega)) (fun _=>?_)
 refine WC.skip ?_
 refine WX.next ?_
 refine WC.seq ?_
 refine WC.region ?_
 refine WO.v (R.move rfl) rfl ?_
 refine WO.v (R.len rfl Try.underlying25) rfl ?_
 refine WO.v (R.assign rfl) rfl ?_
 refine WO.nil ?_
 refine WX.next ?_
 refine WC.seq ?_
 refine WC.seq ?_
 refine WC.region ?_
 refine WO.v (R.move rfl) rfl ?_
 refine WO.v (R.move rfl) rfl ?_
 refine WO.v (R.eql rfl rfl) rfl ?_
 refine WO.nil ?_
 refine WX.next ?_
 refine WC.cond rfl (fun _=>?_) (fun q=>absurd rfl (of_decide_eq_false q))
 refine WC.seq ?_
 refine WC.region ?_
 refine WO.v (R.move rfl) rfl ?_
 refine WO.v (R.move rfl) rfl ?_
 refine WO.ve (happ _ _ _ _ rfl rfl) rfl fun v2 w2 hv2=>?_
 refine WO.v (R.assign rfl) rfl ?_
 refine WO.nil ?_
 refine WX.next ?_
 refine WC.ret ?_
 refine WX.gm ?_
 refine WX.rV rfl rfl ?_
 exact hv2
set_option maxRecDepth 100000 in
set_option maxHeartbeats 1000000 in
theorem pb {w W1:World} {g b n i c vc G:Nat} {ad:Addr} {cur vs ds:List Value} (hi:i<n) (hnc:n<=c) (hc:c<n+1) (hcm:c<=maxLen) (hG:n+1<=G) (hGm:G<=maxLen)
  (happ:∀ (F:Fr) (x y:Operand) (ty:TypeId),ev F x=some (.slice (some ⟨g,0*4,none⟩) i c)->ev F y=some (.int .i64 ((n+1 - i:Nat):Int))->aK Try.prog 95 F w (.call { callee:=.builtin .append,args:=#[x,y],argTypes:=#[25,3] }) ty (.slice (some ⟨b,0,none⟩) (n+1) G) W1)
  (hrow:W1.heap[b]? = some (.cells cur.toArray 40 (0,0))) (hcur:(n+1)*4<=cur.length) (hv:CellsAt W1 ad vs) (hvl:vs.length=4) (hd:CellsAt W1 ⟨g,i*4,none⟩ ds) (hgb:g≠b) (hgl:g<W1.heap.size) (hdl:ds.length=(n - i)*4)
  (h1v:∀ u ∈ vs,u.oneCell' = true) (h1d:∀ u ∈ ds,u.oneCell' = true) :
  gw Try.prog 25 [.slice (some ⟨g,0,none⟩) n c,.int .i64 (i:Int),.slice (some ad) 1 vc].toArray w fun v w'=>v = .slice (some ⟨b,0,none⟩) (n+1) G/\∃ w1,Kp [] (W1.setRow b (cur.take (i*4)++vs++cur.drop (i*4+vs.length)).toArray) w1/\w' = w1.setRow b ((cur.take (i*4)++vs++cur.drop (i*4+vs.length)).take ((i+1)*4)++ds++(cur.take (i*4)++vs++cur.drop (i*4+vs.length)).drop ((i+1)*4+ds.length)).toArray:=by
 have hGm:G<=9223372036854775807:=hGm
 have hcm:c<=9223372036854775807:=hcm
 have hn1:vs.length=Nat.min 1 (n+1 - i)*4:=by rw [show Nat.min 1 (n+1 - i)=1 from Nat.min_eq_left (by omega),Nat.one_mul]; exact hvl
 have hn2:ds.length=Nat.min (n - i) (n+1 - (i+1))*4:=by rw [show Nat.min (n - i) (n+1 - (i+1))=n - i from Nat.min_eq_left (by omega)]; exact hdl
 refine gw.enter Try.func25 rfl rfl rfl rfl ?_
 refine WC.seq ?_
 refine WC.region ?_
 refine WO.v (R.assign rfl) rfl ?_
 refine WO.nil ?_
 refine WX.next ?_
 refine WC.seq ?_
 refine WC.region ?_
 refine WO.v (R.move rfl) rfl ?_
 refine WO.v (R.move rfl) rfl ?_
 refine WO.v (R.bX rfl rfl Try.underlying25 bZ rfl (by omega)) rfl ?_
 refine WO.nil ?_
 refine WX.next ?_
 refine WC.seq ?_
 refine WC.region ?_
 refine WO.v (R.move rfl) rfl ?_
 refine WO.v (R.len rfl Try.underlying25) rfl ?_
 refine WO.v (R.assign rfl) rfl ?_
 refine WO.nil ?_
 refine WX.next ?_
 refine WC.seq ?_
 refine WC.seq ?_
 refine WC.region ?_
 refine WO.v (R.move rfl) rfl ?_
 refine WO.v (R.eql rfl rfl) rfl ?_
 refine WO.nil ?_
 refine WX.next ?_
 refine WC.cond rfl (fun q=>absurd (of_decide_eq_true q) (by omega)) (fun _=>?_)
 refine WC.skip ?_
 refine WX.next ?_
 refine WC.seq ?_
 refine WC.region ?_
 refine WO.v (R.move rfl) rfl ?_
 refine WO.v (R.len rfl Try.underlying25) rfl ?_
 refine WO.v (R.assign rfl) rfl ?_
 refine WO.nil ?_
 refine WX.next ?_
 refine WC.seq ?_
 refine WC.seq ?_
 refine WC.region ?_
 refine WO.v (R.move rfl) rfl ?_
 refine WO.v (R.move rfl) rfl ?_
 refine WO.v (R.eql rfl rfl) rfl ?_
 refine WO.nil ?_
 refine WX.next ?_
 refine WC.cond rfl (fun q=>absurd (of_decide_eq_true q) (by omega)) (fun _=>?_)
 refine WC.skip ?_
 refine WX.next ?_
 refine WC.seq ?_
 refine WC.seq ?_
 refine WC.region ?_
 refine WO.v (R.move rfl) rfl ?_
 refine WO.v (R.move rfl) rfl ?_
 refine WO.v (R.iT rfl rfl (by omega)) rfl ?_
 refine WO.v (R.move rfl) rfl ?_
 refine WO.v (R.BL rfl Try.underlying25) rfl ?_
 refine WO.v (R.gtr rfl rfl) rfl ?_
 refine WO.nil ?_
 refine WX.next ?_
 refine WC.cond rfl (fun _=>?_) (fun q=>absurd (by omega) (of_decide_eq_false q))
 refine WC.seq ?_
 refine WC.region ?_
 refine WO.v (R.move rfl) rfl ?_
 refine WO.v (R.move rfl) rfl ?_
 refine WO.v (R.jt rfl rfl Try.underlying25 bZ (dg (i:=0) (by omega)) (by omega)) rfl ?_
 refine WO.v (R.move rfl) rfl ?_
 refine WO.v (R.move rfl) rfl ?_
 refine WO.v (R.iT rfl rfl (by omega)) rfl ?_
 refine WO.v (R.move rfl) rfl ?_
 refine WO.v (R.Ff rfl rfl (by omega) (by omega)) rfl ?_
 refine WO.v (happ _ _ _ _ rfl rfl) rfl ?_
 refine WO.v (R.assign rfl) rfl ?_
 refine WO.nil ?_
 refine WX.next ?_
 refine WC.seq ?_
 refine WC.region ?_
 refine WO.v (R.move rfl) rfl ?_
 refine WO.v (R.move rfl) rfl ?_
 refine WO.v (R.bX rfl rfl Try.underlying25 bZ (dg (by omega)) (by omega)) rfl ?_
 refine WO.v (R.move rfl) rfl ?_
 refine WO.v (R.jS rfl rfl Try.underlying25 bZ hrow hn1 hv (by omega) h1v) rfl ?_
 refine WO.nil ?_
 refine WX.next ?_
 refine WC.seq ?_
 refine WC.nw fG [.ex [] (.slice (some ⟨b,0,none⟩) (n+1) G),.ex [] (.int .i64 ((i:Nat):Int)),.ex [] (.int .i64 ((1:Nat):Int)),.ex [1,2] (.int .i64 ((i+1:Nat):Int)),.ex [0,3] (.slice (some ⟨b,(i+1)*4,none⟩) (n+1 - (i+1)) (G - (i+1))),.ex [] (.slice (some ⟨g,0,none⟩) n c),.ex [] (.int .i64 ((i:Nat):Int)),.ex [5,6] (.slice (some ⟨g,i*4,none⟩) (n - i) (c - i))] 8 (by kernel_rfl) ⟨fun _ _ _ h _=>h,fun _ _ _ h _=>h,fun _ _ _ h _=>h,fun _ _ _ h _=>h,fun _ _ _ h _=>h,fun _ _ _ h _=>h,fun _ _ _ h _=>h,fun _ _ _ h _=>h,trivial⟩ ⟨?_,?_,?_,?_,?_,?_,?_,?_,trivial⟩ ?_
 ·rintro vs wd kd ⟨-⟩
  refine WO.bj (fr':=[(9,.slice (some ⟨b,0,none⟩) (n+1) G)]) ⟨⟨_,rfl,rfl⟩,trivial⟩ ?_
  refine WO.v (R.move rfl) rfl ?_
  refine WO.nil ?_
  exact WX.aG rfl rfl (Kp.refl _)
 ·rintro vs wd kd ⟨-⟩
  refine WO.bj (fr':=[(1,.int .i64 ((i:Nat):Int))]) ⟨⟨_,rfl,rfl⟩,trivial⟩ ?_
  refine WO.v (R.move rfl) rfl ?_
  refine WO.nil ?_
  exact WX.aG rfl rfl (Kp.refl _)
 ·rintro vs wd kd ⟨-⟩
  refine WO.bj (fr':=[(7,.int .i64 ((1:Nat):Int))]) ⟨⟨_,rfl,rfl⟩,trivial⟩ ?_
  refine WO.v (R.move rfl) rfl ?_
  refine WO.nil ?_
  exact WX.aG rfl rfl (Kp.refl _)
 ·rintro vs wd kd ⟨e1,e2,-⟩
  refine WO.bj (fr':=[(47,.int .i64 ((i:Nat):Int)),(48,.int .i64 ((1:Nat):Int))]) ⟨⟨_,rfl,e1⟩,⟨_,rfl,e2⟩,trivial⟩ ?_
  refine WO.v (R.iT rfl rfl (by omega)) rfl ?_
  refine WO.nil ?_
  exact WX.aG rfl rfl (Kp.refl _)
 ·rintro vs wd kd ⟨e0,e3,-⟩
  refine WO.bj (fr':=[(46,.slice (some ⟨b,0,none⟩) (n+1) G),(49,.int .i64 ((i+1:Nat):Int))]) ⟨⟨_,rfl,e0⟩,⟨_,rfl,e3⟩,trivial⟩ ?_
  refine WO.v (R.bX rfl rfl Try.underlying25 bZ (dg (by omega)) (by omega)) rfl ?_
  refine WO.nil ?_
  exact WX.aG rfl rfl (Kp.refl _)
 ·rintro vs wd kd ⟨-⟩
  refine WO.bj (fr':=[(0,.slice (some ⟨g,0,none⟩) n c)]) ⟨⟨_,rfl,rfl⟩,trivial⟩ ?_
  refine WO.v (R.move rfl) rfl ?_
  refine WO.nil ?_
  exact WX.aG rfl rfl (Kp.refl _)
 ·rintro vs wd kd ⟨-⟩
  refine WO.bj (fr':=[(1,.int .i64 ((i:Nat):Int))]) ⟨⟨_,rfl,rfl⟩,trivial⟩ ?_
  refine WO.v (R.move rfl) rfl ?_
  refine WO.nil ?_
  exact WX.aG rfl rfl (Kp.refl _)
 ·rintro vs wd kd ⟨e5,e6,-⟩
  refine WO.bj (fr':=[(51,.slice (some ⟨g,0,none⟩) n c),(52,.int .i64 ((i:Nat):Int))]) ⟨⟨_,rfl,e5⟩,⟨_,rfl,e6⟩,trivial⟩ ?_
  refine WO.v (R.bX rfl rfl Try.underlying25 bZ (dg (by omega)) (by omega)) rfl ?_
  refine WO.nil ?_
  exact WX.aG rfl rfl (Kp.refl _)
 rintro vsx w1 k1 ⟨-,-,-,-,e4,-,-,e7,-⟩
 replace k1:Kp [] (W1.setRow b (cur.take (i*4)++vs++cur.drop (i*4+vs.length)).toArray) w1:=k1
 refine WO.bj (fr':=[(50,.slice (some ⟨b,(i+1)*4,none⟩) (n+1 - (i+1)) (G - (i+1))),(53,.slice (some ⟨g,i*4,none⟩) (n - i) (c - i)),(9,.slice (some ⟨b,0,none⟩) (n+1) G)]) ⟨⟨_,rfl,e4⟩,⟨_,rfl,e7⟩,⟨_,rfl,rfl⟩,trivial⟩ ?_
 have hb2:w1.heap[b]? = some (.cells (List.toArray (cur.take (i*4)++vs++cur.drop (i*4+vs.length))) 40 (0,0)):=by rw [k1.block b (by simpa using aV hrow) (by simp)]; exact setRow_heap W1 b _ _ 40 _ hrow
 have hd2:CellsAt w1 ⟨g,i*4,none⟩ ds:=(hd.kp (Kp.setRow W1 b _) hgl (by simpa using hgb.symm)).kp k1 (by simpa using hgl) (by simp)
 refine WO.v (R.jS rfl rfl Try.underlying25 bZ hb2 hn2 hd2 (by simp only [List.length_append,List.length_take,List.length_drop]; omega) h1d) rfl ?_
 refine WO.nil ?_
 refine WX.next ?_
 refine WC.seq ?_
 refine WC.region ?_
 refine WO.v (R.move rfl) rfl ?_
 refine WO.v (R.assign rfl) rfl ?_
 refine WO.nil ?_
 refine WX.next ?_
 refine WC.ret ?_
 refine WX.gm ?_
 refine WX.rV rfl rfl ?_
 exact ⟨rfl,w1,k1,rfl⟩
set_option maxRecDepth 100000 in
set_option maxHeartbeats 1000000 in
theorem mL {w:World} {g n i c vc:Nat} {ad:Addr} {cur vs ds:List Value} {curA:Array Value} {tA:TypeId} {fA:Nat × Nat} (hi:i<n) (hc:n+1<=c) (hcm:c<=maxLen)
  (hrow:w.heap[g]? = some (.cells cur.toArray 40 (0,0))) (hcur:(n+1)*4<=cur.length) (hv:CellsAt w ad vs) (hvb:w.heap[ad.block]? = some (.cells curA tA fA)) (hvb0:curA.size≠0) (hne:ad.block≠g) (hvl:vs.length=4) (hd:CellsAt w ⟨g,i*4,none⟩ ds) (hdl:ds.length=(n - i)*4)
  (h1v:∀ u ∈ vs,u.oneCell' = true) (h1d:∀ u ∈ ds,u.oneCell' = true) :
  gw Try.prog 25 [.slice (some ⟨g,0,none⟩) n c,.int .i64 (i:Int),.slice (some ad) 1 vc].toArray w fun v w'=>v = .slice (some ⟨g,0,none⟩) (n+1) c/\∃ w1,Kp [] w w1/\w' = (w1.setRow g (cur.take ((i+1)*4)++ds++cur.drop ((i+1)*4+ds.length)).toArray).setRow g ((cur.take ((i+1)*4)++ds++cur.drop ((i+1)*4+ds.length)).take (i*4)++vs++(cur.take ((i+1)*4)++ds++cur.drop ((i+1)*4+ds.length)).drop (i*4+vs.length)).toArray:=by
 have hcm:c<=9223372036854775807:=hcm
 have hn1:vs.length=Nat.min 1 (n+1 - i)*4:=by rw [show Nat.min 1 (n+1 - i)=1 from Nat.min_eq_left (by omega),Nat.one_mul]; exact hvl
 have hn2:ds.length=Nat.min (n+1 - i) (n+1 - (i+1))*4:=by rw [show Nat.min (n+1 - i) (n+1 - (i+1))=n+1 - (i+1) from Nat.min_eq_right (by omega),hdl]; congr 1; omega
 refine gw.enter Try.func25 rfl rfl rfl rfl ?_
 refine WC.seq ?_
 refine WC.region ?_
 refine WO.v (R.assign rfl) rfl ?_
 refine WO.nil ?_
 refine WX.next ?_
 refine WC.seq ?_
 refine WC.region ?_
 refine WO.v (R.move rfl) rfl ?_
 refine WO.v (R.move rfl) rfl ?_
 refine WO.v (R.bX rfl rfl Try.underlying25 bZ rfl (by omega)) rfl ?_
 refine WO.nil ?_
 refine WX.next ?_
 refine WC.seq ?_
 refine WC.region ?_
 refine WO.v (R.move rfl) rfl ?_
 refine WO.v (R.len rfl Try.underlying25) rfl ?_
 refine WO.v (R.assign rfl) rfl ?_
 refine WO.nil ?_
 refine WX.next ?_
 refine WC.seq ?_
 refine WC.seq ?_
 refine WC.region ?_
 refine WO.v (R.move rfl) rfl ?_
 refine WO.v (R.eql rfl rfl) rfl ?_
 refine WO.nil ?_
 refine WX.next ?_
 refine WC.cond rfl (fun q=>absurd (of_decide_eq_true q) (by omega)) (fun _=>?_)
 refine WC.skip ?_
 refine WX.next ?_
 refine WC.seq ?_
 refine WC.region ?_
 refine WO.v (R.move rfl) rfl ?_
 refine WO.v (R.len rfl Try.underlying25) rfl ?_
 refine WO.v (R.assign rfl) rfl ?_
 refine WO.nil ?_
 refine WX.next ?_
 refine WC.seq ?_
 refine WC.seq ?_
 refine WC.region ?_
 refine WO.v (R.move rfl) rfl ?_
 refine WO.v (R.move rfl) rfl ?_
 refine WO.v (R.eql rfl rfl) rfl ?_
 refine WO.nil ?_
 refine WX.next ?_
 refine WC.cond rfl (fun q=>absurd (of_decide_eq_true q) (by omega)) (fun _=>?_)
 refine WC.skip ?_
 refine WX.next ?_
 refine WC.seq ?_
 refine WC.seq ?_
 refine WC.region ?_
 refine WO.v (R.move rfl) rfl ?_
 refine WO.v (R.move rfl) rfl ?_
 refine WO.v (R.iT rfl rfl (by omega)) rfl ?_
 refine WO.v (R.move rfl) rfl ?_
 refine WO.v (R.BL rfl Try.underlying25) rfl ?_
 refine WO.v (R.gtr rfl rfl) rfl ?_
 refine WO.nil ?_
 refine WX.next ?_
 refine WC.cond rfl (fun q=>absurd (of_decide_eq_true q) (by omega)) (fun _=>?_)
 refine WC.skip ?_
 refine WX.next ?_
 refine WC.seq ?_
 refine WC.region ?_
 refine WO.v (R.move rfl) rfl ?_
 refine WO.v (R.move rfl) rfl ?_
 refine WO.v (R.move rfl) rfl ?_
 refine WO.v (R.iT rfl rfl (by omega)) rfl ?_
 refine WO.v (R.jt rfl rfl Try.underlying25 bZ (dg (i:=0) (by omega)) (by omega)) rfl ?_
 refine WO.v (R.assign rfl) rfl ?_
 refine WO.nil ?_
 refine WX.next ?_
 refine WC.seq ?_
 refine WC.seq ?_
 refine WC.region ?_
 refine WO.v (R.move rfl) rfl ?_
 refine WO.v (R.move rfl) rfl ?_
 refine WO.v (R.move rfl) rfl ?_
 refine WO.v (R.move rfl) rfl ?_
 refine WO.v (R.iT rfl rfl (by omega)) rfl ?_
 refine WO.v (R.bX rfl rfl Try.underlying25 bZ (dg (by omega)) (by omega)) rfl ?_
 refine WO.v (R.Hk (tS:=25) (tR:=4) Try.func32 rfl rfl (by kernel_rfl) (by kernel_rfl) Try.underlying25 bZ hne hvb hvb0 hrow rfl rfl) rfl ?_
 refine WO.v (R.not rfl) rfl ?_
 refine WO.nil ?_
 refine WX.next ?_
 refine WC.wX rfl ?_
 refine WC.seq ?_
 refine WC.nw fG [.ex [] (.slice (some ⟨g,0,none⟩) (n+1) c),.ex [] (.int .i64 ((i:Nat):Int)),.ex [] (.int .i64 ((1:Nat):Int)),.ex [1,2] (.int .i64 ((i+1:Nat):Int)),.ex [0,3] (.slice (some ⟨g,(i+1)*4,none⟩) (n+1 - (i+1)) (c - (i+1))),.ex [] (.slice (some ⟨g,0,none⟩) (n+1) c),.ex [] (.int .i64 ((i:Nat):Int)),.ex [5,6] (.slice (some ⟨g,i*4,none⟩) (n+1 - i) (c - i))] 8 (by kernel_rfl) ⟨fun _ _ _ h _=>h,fun _ _ _ h _=>h,fun _ _ _ h _=>h,fun _ _ _ h _=>h,fun _ _ _ h _=>h,fun _ _ _ h _=>h,fun _ _ _ h _=>h,fun _ _ _ h _=>h,trivial⟩ ⟨?_,?_,?_,?_,?_,?_,?_,?_,trivial⟩ ?_
 ·rintro vs wd kd ⟨-⟩
  refine WO.bj (fr':=[(0,.slice (some ⟨g,0,none⟩) (n+1) c)]) ⟨⟨_,rfl,rfl⟩,trivial⟩ ?_
  refine WO.v (R.move rfl) rfl ?_
  refine WO.nil ?_
  exact WX.aG rfl rfl (Kp.refl _)
 ·rintro vs wd kd ⟨-⟩
  refine WO.bj (fr':=[(1,.int .i64 ((i:Nat):Int))]) ⟨⟨_,rfl,rfl⟩,trivial⟩ ?_
  refine WO.v (R.move rfl) rfl ?_
  refine WO.nil ?_
  exact WX.aG rfl rfl (Kp.refl _)
 ·rintro vs wd kd ⟨-⟩
  refine WO.bj (fr':=[(7,.int .i64 ((1:Nat):Int))]) ⟨⟨_,rfl,rfl⟩,trivial⟩ ?_
  refine WO.v (R.move rfl) rfl ?_
  refine WO.nil ?_
  exact WX.aG rfl rfl (Kp.refl _)
 ·rintro vs wd kd ⟨e1,e2,-⟩
  refine WO.bj (fr':=[(70,.int .i64 ((i:Nat):Int)),(71,.int .i64 ((1:Nat):Int))]) ⟨⟨_,rfl,e1⟩,⟨_,rfl,e2⟩,trivial⟩ ?_
  refine WO.v (R.iT rfl rfl (by omega)) rfl ?_
  refine WO.nil ?_
  exact WX.aG rfl rfl (Kp.refl _)
 ·rintro vs wd kd ⟨e0,e3,-⟩
  refine WO.bj (fr':=[(69,.slice (some ⟨g,0,none⟩) (n+1) c),(72,.int .i64 ((i+1:Nat):Int))]) ⟨⟨_,rfl,e0⟩,⟨_,rfl,e3⟩,trivial⟩ ?_
  refine WO.v (R.bX rfl rfl Try.underlying25 bZ (dg (by omega)) (by omega)) rfl ?_
  refine WO.nil ?_
  exact WX.aG rfl rfl (Kp.refl _)
 ·rintro vs wd kd ⟨-⟩
  refine WO.bj (fr':=[(0,.slice (some ⟨g,0,none⟩) (n+1) c)]) ⟨⟨_,rfl,rfl⟩,trivial⟩ ?_
  refine WO.v (R.move rfl) rfl ?_
  refine WO.nil ?_
  exact WX.aG rfl rfl (Kp.refl _)
 ·rintro vs wd kd ⟨-⟩
  refine WO.bj (fr':=[(1,.int .i64 ((i:Nat):Int))]) ⟨⟨_,rfl,rfl⟩,trivial⟩ ?_
  refine WO.v (R.move rfl) rfl ?_
  refine WO.nil ?_
  exact WX.aG rfl rfl (Kp.refl _)
 ·rintro vs wd kd ⟨e5,e6,-⟩
  refine WO.bj (fr':=[(74,.slice (some ⟨g,0,none⟩) (n+1) c),(75,.int .i64 ((i:Nat):Int))]) ⟨⟨_,rfl,e5⟩,⟨_,rfl,e6⟩,trivial⟩ ?_
  refine WO.v (R.bX rfl rfl Try.underlying25 bZ (dg (by omega)) (by omega)) rfl ?_
  refine WO.nil ?_
  exact WX.aG rfl rfl (Kp.refl _)
 rintro vsx w1 k1 ⟨-,-,-,-,e4,-,-,e7,-⟩
 replace k1:Kp [] w w1:=k1
 refine WO.bj (fr':=[(73,.slice (some ⟨g,(i+1)*4,none⟩) (n+1 - (i+1)) (c - (i+1))),(76,.slice (some ⟨g,i*4,none⟩) (n+1 - i) (c - i)),(0,.slice (some ⟨g,0,none⟩) (n+1) c),(1,.int .i64 ((i:Nat):Int)),(2,.slice (some ad) 1 vc)]) ⟨⟨_,rfl,e4⟩,⟨_,rfl,e7⟩,⟨_,rfl,rfl⟩,⟨_,rfl,rfl⟩,⟨_,rfl,rfl⟩,trivial⟩ ?_
 have hg1:w1.heap[g]? = some (.cells (List.toArray cur) 40 (0,0)):=by rw [k1.block g (aV hrow) (by simp)]; exact hrow
 refine WO.v (R.jS rfl rfl Try.underlying25 bZ hg1 hn2 (hd.kp k1 (aV hrow) (by simp)) (by omega) h1d) rfl ?_
 refine WO.nil ?_
 refine WX.next ?_
 have hg2:(w1.setRow g (cur.take ((i+1)*4)++ds++cur.drop ((i+1)*4+ds.length)).toArray).heap[g]? = some (.cells (List.toArray (cur.take ((i+1)*4)++ds++cur.drop ((i+1)*4+ds.length))) 40 (0,0)):=setRow_heap w1 g _ _ 40 _ hg1
 have hv2:CellsAt (w1.setRow g (cur.take ((i+1)*4)++ds++cur.drop ((i+1)*4+ds.length)).toArray) ad vs:=(hv.kp k1 (aV hvb) (by simp)).kp (Kp.setRow w1 g _) (Nat.lt_of_lt_of_le (aV hvb) k1.size) (by simpa using fun h=>hne h.symm)
 refine WC.seq ?_
 refine WC.region ?_
 refine WO.v (R.move rfl) rfl ?_
 refine WO.v (R.move rfl) rfl ?_
 refine WO.v (R.bX rfl rfl Try.underlying25 bZ (dg (by omega)) (by omega)) rfl ?_
 refine WO.v (R.move rfl) rfl ?_
 refine WO.v (R.jS rfl rfl Try.underlying25 bZ hg2 hn1 hv2 (by simp only [List.length_append,List.length_take,List.length_drop]; omega) h1v) rfl ?_
 refine WO.nil ?_
 refine WX.next ?_
 refine WC.seq ?_
 refine WC.region ?_
 refine WO.v (R.move rfl) rfl ?_
 refine WO.v (R.assign rfl) rfl ?_
 refine WO.nil ?_
 refine WX.next ?_
 refine WC.ret ?_
 refine WX.gm ?_
 refine WX.rV rfl rfl ?_
 exact ⟨rfl,w1,k1,rfl⟩
theorem qU {G:Gl} {ρ:List RE} {H:AH} {w:World} (hs:G.shp=aq aI) (hR:Rep G ρ H w) {l m:List (den (.nm .sess))} (hH:getO H 0 = .row 40 (.nm .sess) l) (hl:l.length<1048576) {i:Nat} (hi:i<=l.length) {v0:Value} (h0:Rd (cx G ρ w) ρ (.own 0) v0)
  {ad:Addr} {k:Nat} {cys:List Value} {bAV:AV} (hm:m.length=1) (hb:Rd (cx G ρ w) ρ bAV (.slice (some ad) 1 k)) (hbv:(bAV.vw H).eO (.nm .sess)=some m) (hv:CellsAt w ad cys) (hvl:cys.length=4) (h1v:∀ u ∈ cys,u.oneCell' = true) (hp:Pds (cx G ρ w) (m.flatMap (cellsOf (.nm .sess))) cys)
  (hne:∀ g c n z,ρ[0]? = some (.row g c n z)->ad.block≠g) {curA:Array Value} {tA:TypeId} {fA:Nat × Nat} (hvb:w.heap[ad.block]? = some (.cells curA tA fA)) (hvb0:curA.size≠0) :
  gw Try.prog 25 [v0,.int .i64 (i:Int),.slice (some ad) 1 k].toArray w fun v w'=>∃ ρ',Stp (vT 0) ρ w ρ' w' /\ Rep G ρ' ((ep (AV.kill 0) H).set 0 (.row 40 (.nm .sess) (l.take i++m++l.drop i))) w' /\ Rd (cx G ρ' w') ρ' (.own 0) v:=by
 have hT:bf Try.prog G.shp aI:=hs ▸ ga
 obtain ⟨hshp,hlen⟩:=cJ hR hH
 have hl64:l.length<=9223372036854775807:=by omega
 have hin:((l.length:Nat):Int)<=9223372036854775807:=by omega
 by_cases hie:i=l.length
 ·subst hie
  have hc:∃ A c,v0 = .slice A l.length c:=by
   rcases h0 with ⟨g,cap,len,z,h1,rfl⟩ | ⟨h1,a,rfl⟩
   ·rcases bk hR hH with ⟨h2,_⟩ | ⟨g',cap',cells,sp,h2,_⟩
    ·rw [h1] at h2; cases h2
    ·rw [h1] at h2; cases h2; exact ⟨_,_,rfl⟩
   ·rcases bk hR hH with ⟨_,h2⟩ | ⟨g',cap',cells,sp,h2,_⟩
    ·subst h2; exact ⟨_,_,rfl⟩
    ·rw [h1] at h2; cases h2
  obtain ⟨A,c,rfl⟩:=hc
  refine qS fun F x y ty hx hy=>?_
  have happ:fk aI (vT 0) ([]:AFr) H 25 (.own 0) bAV=some ⟨one (.own 0),[],(ep (AV.kill 0) H).set 0 (.row 40 (.nm .sess) (l++m)),[(l.length+m.length)*(Sh.nm NT.sess).bytes<=140737488355328],[]⟩:=by
   unfold fk
   rw [show bl aI 25=some ⟨.sl 40 (some (.nm .sess)),1,[.em true]⟩ from by kernel_rfl]
   simp only [hbv,hH]
   rfl
  obtain ⟨v,w',h1,ρ',h2,h3,_,h5,_⟩:=fh (P:=Try.prog) (n:=95) (F:=[]) (ty:=ty) (fr:=[]) (x:=.const (.slice A l.length c)) (y:=.const (.slice (some ad) 1 k)) hT hR .nil happ (by
   intro p hp
   rw [List.mem_singleton] at hp; subst hp
   show (l.length+m.length)*32<=_
   omega) h0 hb rfl rfl
  refine ⟨v,w',R.tx h1 hx hy,ρ',h2,?_,h5⟩
  rw [List.take_length,List.drop_length,List.append_nil]
  exact h3
 ·have hlt:i<l.length:=by omega
  rcases bk hR hH with ⟨_,h2⟩ | ⟨g,cap,cells,sp,hρ,hg,hpd,hsz,hcap,hmax⟩
  ·subst h2; simp at hlt
  obtain ⟨hnb,hil,hiH⟩:=jF hR hH
  have hv0:v0 = .slice (some ⟨g,0,none⟩) l.length cap:=by
   rcases h0 with ⟨g',cap',len,z,h1,rfl⟩ | ⟨h1,a,rfl⟩
   ·rw [hρ] at h1; cases h1; rfl
   ·rw [hρ] at h1; cases h1
  subst hv0
  have hz:(Sh.nm NT.sess).size=4:=rfl
  have hby:(Sh.nm NT.sess).bytes=32:=rfl
  have hcl:cells.length=l.length*4:=by rw [<- hpd.length,bC,hz]
  rw [hz,List.length_append] at hsz
  have hone:∀ u ∈ cells.drop (i*4),u.oneCell' = true:=fun u hu=>hpd.yb u (List.mem_of_mem_drop hu)
  have hd:CellsAt w ⟨g,i*4,none⟩ (cells.drop (i*4)):=by
   have:=(bP hg).shift (i*4)
   rwa [add_lit,Nat.zero_add] at this
  have hdl:(cells.drop (i*4)).length=(l.length - i)*4:=by rw [List.length_drop,hcl]; omega
  have hgl:=aV hg
  have hzl:(l.take i++m++l.drop i).length=l.length+1:=by
   rw [List.length_append,List.length_append,List.length_take,List.length_drop,hm]; omega
  have hnew:∀ {c:Cx},(cx G ρ w).le c->Pds c ((l.take i++m++l.drop i).flatMap (cellsOf (.nm .sess))) (cells.take (i*4)++cys++cells.drop (i*4)):=fun {c} hle=>by
   rw [List.flatMap_append,List.flatMap_append]
   exact (((bt hpd i).append hp).append (bH hpd i)).carry hle
  have hnl:(cells.take (i*4)++cys++cells.drop (i*4)).length=(l.length+1)*4:=by
   rw [List.length_append,List.length_append,List.length_take,List.length_drop,hcl,hvl]; omega
  have hbig:(l.take i++m++l.drop i).length*(Sh.nm NT.sess).bytes<=140737488355328:=by rw [hzl,hby]; omega
  -- what is shown of any way
  have fin:∀ (S:List Nat) (g2 cap2:Nat) (sp2:List Value) (w':World),Kp S w w' -> (∀ b ∈ S,b=g)->(g2=g\/w.heap.size<=g2)->w'.heap[g2]? = some (.cells (List.toArray (cells.take (i*4)++cys++cells.drop (i*4)++sp2)) 40 (0,0))->(l.length+1)*4+sp2.length=cap2*4->l.length+1<=cap2->cap2<=maxLen ->
    ∃ ρ',Stp (vT 0) ρ w ρ' w' /\ Rep G ρ' ((ep (AV.kill 0) H).set 0 (.row 40 (.nm .sess) (l.take i++m++l.drop i))) w' /\ Rd (cx G ρ' w') ρ' (.own 0) (.slice (some ⟨g2,0,none⟩) (l.length+1) cap2):=by
   intro S g2 cap2 sp2 w' hk hS hg2 hh hlen2 hle2 hmax2
   obtain ⟨k1,k2,_⟩:=hL (ro:=vT 0) (s':=.nm .sess) (e':=40) (zs:=l.take i++m++l.drop i) hR hH ⟨rfl,rfl⟩ hk (fun b hb=>⟨_,hρ,by rw [hS b hb]; rfl⟩) (r':=.row g2 cap2 (l.take i++m++l.drop i).length (Sh.nm NT.sess).size) (fun b hb=>by
    cases hb
    rcases hg2 with rfl | hg2
    ·exact .inl ⟨_,hρ,rfl⟩
    ·exact .inr ⟨hg2,aV hh⟩) (fun hle=>⟨hshp,hbig,.inr ⟨g2,cap2,_,sp2,rfl,hh,hnew hle,by rw [List.length_append,hnl,hz]; exact hlen2,by rw [hzl]; exact hle2,hmax2⟩⟩)
   exact ⟨_,k1,k2,.inl ⟨g2,cap2,_,_,List.getElem?_set_self hil,by rw [hzl]⟩⟩
  have eo:(i+1)*4=i*4+4:=by omega
  by_cases hroom:l.length+1<=cap
  ·refine (mL hlt hroom hmax hg (by rw [List.length_append]; omega) hv hvb hvb0 (hne _ _ _ _ hρ) hvl hd hdl h1v hone).mono fun v w' ⟨e1,w1,k1,e2⟩=>?_
   subst e1; subst e2
   rw [eo,CP (by omega) hvl]
   have hk:Kp [g] w ((w1.setRow g ((cells++sp).take (i*4+4)++cells.drop (i*4)++(cells++sp).drop (i*4+4+(cells.drop (i*4)).length)).toArray).setRow g (cells.take (i*4)++cys++cells.drop (i*4)++sp.drop 4).toArray):=((k1.sub (by simp)).step (Kp.setRow w1 g _) (by simp)).step (Kp.setRow _ g _) (by simp)
   have hg1:w1.heap[g]? = some (.cells (List.toArray (cells++sp)) 40 (0,0)):=by rw [k1.block g hgl (by simp)]; exact hg
   exact fin [g] g cap (sp.drop 4) _ hk (by simp) (.inl rfl) (setRow_heap _ g _ _ 40 _ (setRow_heap w1 g _ _ 40 _ hg1)) (by rw [List.length_drop]; omega) hroom hmax
  ·obtain ⟨ti,hi0,hz0,hz1,hz2⟩:=info_parts xe
   have eik:i+(l.length+1 - i)=l.length+1:=by omega
   have hge:=grownCap_ge w (l.length+1) cap 40
   have hgm:=grownCap_le_maxLen w (l.length+1) cap 40 (by simp [maxLen]; omega)
   have hold:(Builtin.firstCells ti.size i (.slice (some ⟨g,0*4,none⟩) i cap)).run Try.prog w.drew = .ok (cells.take (i*4)).toArray w.drew:=by
    have h:=run_loadCells_list (P:=Try.prog) w.drew ⟨g,0*4,none⟩ (cells.take (i*4)) (by rw [Nat.zero_mul]; exact (bP hg).take _)
    rw [List.length_take,Nat.min_eq_left (by omega)] at h
    rw [hz1]; exact h
   have happ:∀ (F:Fr) (x y:Operand) (ty:TypeId),ev F x=some (.slice (some ⟨g,0*4,none⟩) i cap)->ev F y=some (.int .i64 ((l.length+1 - i:Nat):Int))->aK Try.prog 95 F w (.call { callee:=.builtin .append,args:=#[x,y],argTypes:=#[25,3] }) ty (.slice (some ⟨w.heap.size,0,none⟩) (l.length+1) (grownCap w (l.length+1) cap 40)) (w.drew.alloc (.cells (List.toArray (cells.take (i*4)++((Builtin.zeroCells (Value.agg #[.int .i64 0,.int .i64 0,.int .i64 0,.int .i64 0]).cells (l.length+1 - i)).toList++(Builtin.zeroCells (Value.agg #[.int .i64 0,.int .i64 0,.int .i64 0,.int .i64 0]).cells (grownCap w (l.length+1) cap 40 - (l.length+1))).toList))) 40)):=fun F x y ty hx hy=>by
    have h:=R.EZ (P:=Try.prog) (n:=95) (ty:=ty) hx hy Try.underlying25 Try.underlying3 hi0 hz0 hold (by omega) (by rw [hz1]; decide) (by omega) (by omega) (by rw [hz2]; omega) (by rw [hz2,eik]; exact growslice_fits (by omega) (by omega))
    rw [eik] at h
    have e:∀ (a:List Value) (b c:Array Value),a.toArray++b++c=(a++(b.toList++c.toList)).toArray:=fun a b c=>by apply Array.ext'; simp
    rw [e] at h
    exact h
   have hcurl:(cells.take (i*4)++((Builtin.zeroCells (Value.agg #[.int .i64 0,.int .i64 0,.int .i64 0,.int .i64 0]).cells (l.length+1 - i)).toList++(Builtin.zeroCells (Value.agg #[.int .i64 0,.int .i64 0,.int .i64 0,.int .i64 0]).cells (grownCap w (l.length+1) cap 40 - (l.length+1))).toList)).length=grownCap w (l.length+1) cap 40*4:=by
    rw [List.length_append,List.length_append,List.length_take,k_,k_]
    show min _ _+((l.length+1 - i)*4+(grownCap w (l.length+1) cap 40 - (l.length+1))*4)=_
    omega
   have htk:(cells.take (i*4)++((Builtin.zeroCells (Value.agg #[.int .i64 0,.int .i64 0,.int .i64 0,.int .i64 0]).cells (l.length+1 - i)).toList++(Builtin.zeroCells (Value.agg #[.int .i64 0,.int .i64 0,.int .i64 0,.int .i64 0]).cells (grownCap w (l.length+1) cap 40 - (l.length+1))).toList)).take (i*4)=cells.take (i*4):=List.take_left' (by rw [List.length_take]; omega)
   generalize grownCap w (l.length+1) cap 40=GC at *
   generalize cells.take (i*4)++((Builtin.zeroCells (Value.agg #[.int .i64 0,.int .i64 0,.int .i64 0,.int .i64 0]).cells (l.length+1 - i)).toList++(Builtin.zeroCells (Value.agg #[.int .i64 0,.int .i64 0,.int .i64 0,.int .i64 0]).cells (GC - (l.length+1))).toList)=cur at *
   have hK1:Kp [] w (w.drew.alloc (.cells (List.toArray cur) 40)):=((Kp.refl w).drew).step (Kp.alloc w.drew _) (by simp)
   have hrow:(w.drew.alloc (.cells (List.toArray cur) 40)).heap[w.heap.size]? = some (.cells (List.toArray cur) 40 (0,0)):=heap_alloc_new w.drew _
   generalize w.drew.alloc (.cells (List.toArray cur) 40)=W1 at *
   refine (pb hlt hcap (by omega) hmax hge hgm happ hrow (by omega) (hv.kp hK1 (aV hvb) (by simp)) hvl (hd.kp hK1 hgl (by simp)) (by omega) (Nat.lt_of_lt_of_le hgl hK1.size) hdl h1v hone).mono fun v w' ⟨e1,w1,k1,e2⟩=>?_
   subst e1; subst e2
   rw [eo,Ck (cells:=cells) (by omega) hvl htk]
   have hs1:∀ b ∈ [w.heap.size],b ∈ ([]:List Nat)\/w.heap.size<=b:=fun b hb=>.inr (by rw [List.mem_singleton] at hb; omega)
   have hk:Kp [] w (w1.setRow w.heap.size (cells.take (i*4)++cys++cells.drop (i*4)++cur.drop (i*4+4+(cells.drop (i*4)).length)).toArray):=((hK1.step (Kp.setRow W1 w.heap.size _) hs1).step k1 (by simp)).step (Kp.setRow w1 w.heap.size _) hs1
   have hg1:=(k1.block w.heap.size (by simpa using aV hrow) (by simp)).trans (setRow_heap W1 w.heap.size _ (cur.take (i*4)++cys++cur.drop (i*4+cys.length)).toArray 40 _ hrow)
   exact fin [] w.heap.size GC _ _ hk (by simp) (.inr (Nat.le_refl _)) (setRow_heap w1 w.heap.size _ _ 40 _ hg1) (by rw [List.length_drop]; omega) hge hgm
theorem oe (i:Int) (l m:List (den (.nm .sess))) (h:0<=i/\i<=(l.length:Int)) (hl:l.length<1048576) (hm:m.length=1):Sat Try.prog (aq aI) 25 [.c (.own 0),.c (.int i),.c (.own 1)] [.row 40 (.nm .sess) l,.row 40 (.nm .sess) m] ⟨[0<=i/\i<=(l.length:Int),l.length<1048576,m.length=1],[.c (.own 0)],some [.row 40 (.nm .sess) (l.take i.toNat++m++l.drop i.toNat),.row 40 (.nm .sess) m],false⟩:=by
 refine ⟨⟨_,Try.func25,by decide,rfl⟩,fun G ρ w vs hs hR hvs=>?_⟩
 obtain ⟨i,rfl⟩:=Int.eq_ofNat_of_zero_le h.1
 cases hvs with | cons h0 hvs=>
 cases hvs with | cons h1 hvs=>
 cases hvs with | cons h2 hvs=>
 cases hvs
 have h1:Pd (cx G ρ w) (.int (i:Int)) _:=h1
 cases h1
 have h0:Rd (cx G ρ w) ρ (.own 0) _:=h0
 have h2:Rd (cx G ρ w) ρ (.own 1) _:=h2
 have hH:getO [AO.row 40 (.nm .sess) l,.row 40 (.nm .sess) m] 0 = .row 40 (.nm .sess) l:=rfl
 have hbv:(AV.vw [AO.row 40 (.nm .sess) l,.row 40 (.nm .sess) m] (.own 1)).eO (.nm .sess)=some m:=by simp [AV.vw,AV.eO,getO]
 obtain ⟨A,k,cys,rfl,s1,s2,s3,s4⟩:=lI hR hbv h2
 rw [hm] at h2 s1 s3
 rw [hm]
 obtain ⟨ad,rfl,s5⟩:∃ ad,A=some ad/\CellsAt w ad cys:=s3.resolve_left (by decide)
 have hz:(Sh.nm NT.sess).size=4:=rfl
 rw [hz] at s1
 obtain ⟨u,hu⟩:∃ u,cys[0]? = some u:=⟨_,List.getElem?_eq_getElem (by omega)⟩
 obtain ⟨cur,t,f,hc,hc0⟩:=nb (s5 0 u hu)
 have hne:∀ g c n z,ρ[0]? = some (.row g c n z)->ad.block≠g:=fun g c n z hg e=>by
  rcases h2 with ⟨g',cap',len,z',h3,h4⟩ | ⟨h3,a,h4⟩
  ·cases h4
   have:=hR.inj 0 1 _ _ g hg h3 rfl (by rw [<- e]; rfl)
   omega
  ·cases h4
 rw [eR] at hc
 refine (qU hs hR hH hl (by omega) h0 hm h2 hbv s5 s1 s2 s4 hne hc hc0).mono fun v w' ⟨ρ',k1,k2,k3⟩=>?_
 exact ⟨[v],rfl,ρ',k2,k1.ext,k1.bx,.cons k3 .nil,fun hb=>by cases hb⟩
theorem cd:(Try.prog.info? 48).map (·.size)=some 2:=by kernel_rfl
theorem ub:(Try.prog.info? 48).map (fun i=>(i.zero,i.size,i.bytes))=some (some (.agg #[.int .i64 0,.int .i64 0]),2,16):=by kernel_rfl
set_option maxRecDepth 100000 in
set_option maxHeartbeats 1000000 in
theorem sq {w:World} {n c vc:Nat} {A:Option Addr} {B:Option Addr} {φ:Value->World->Prop} (happ:∀ (F:Fr) (x y:Operand) (ty:TypeId),ev F x=some (.slice A n c)->ev F y=some (.slice B 1 vc)->∃ v2 w2,aK Try.prog 95 F w (.call { callee:=.builtin .append,args:=#[x,y],argTypes:=#[26,26] }) ty v2 w2/\φ v2 w2) :
  gw Try.prog 80 [.slice A n c,.int .i64 (n:Int),.slice B 1 vc].toArray w φ:=by
 refine gw.enter Try.func80 rfl rfl rfl rfl ?_
 refine WC.seq ?_
 refine WC.region ?_
 refine WO.v (R.assign rfl) rfl ?_
 refine WO.nil ?_
 refine WX.next ?_
 refine WC.seq ?_
 refine WC.region ?_
 refine WO.v (R.move rfl) rfl ?_
 refine WO.v (R.move rfl) rfl ?_
 refine WO.v (R.bX rfl rfl Try.underlying26 cd rfl (by omega)) rfl ?_
 refine WO.nil ?_
 refine WX.next ?_
 refine WC.seq ?_
 refine WC.region ?_
 refine WO.v (R.move rfl) rfl ?_
 refine WO.v (R.len rfl Try.underlying26) rfl ?_
 refine WO.v (R.assign rfl) rfl ?_
 refine WO.nil ?_
 refine WX.next ?_
 refine WC.seq ?_
 refine WC.seq ?_
 refine WC.region ?_
 refine WO.v (R.move rfl) rfl ?_
 refine WO.v (R.eql rfl rfl) rfl ?_
 refine WO.nil ?_
 refine WX.next ?_
 refine WC.cond rfl (fun q=>absurd (of_decide_eq_true q) (by omega)) (fun _=>?_)
 refine WC.skip ?_
 refine WX.next ?_
 refine WC.seq ?_
 refine WC.region ?_
 refine WO.v (R.move rfl) rfl ?_
 refine WO.v (R.len rfl Try.underlying26) rfl ?_
 refine WO.v (R.assign rfl) rfl ?_
 refine WO.nil ?_
 refine WX.next ?_
 refine WC.seq ?_
 refine WC.seq ?_
 refine WC.region ?_
 refine WO.v (R.move rfl) rfl ?_
 refine WO.v (R.move rfl) rfl ?_
 refine WO.v (R.eql rfl rfl) rfl ?_
 refine WO.nil ?_
 refine WX.next ?_
 refine WC.cond rfl (fun _=>?_) (fun q=>absurd rfl (of_decide_eq_false q))
 refine WC.seq ?_
 refine WC.region ?_
 refine WO.v (R.move rfl) rfl ?_
 refine WO.v (R.move rfl) rfl ?_
 refine WO.ve (happ _ _ _ _ rfl rfl) rfl fun v2 w2 hv2=>?_
 refine WO.v (R.assign rfl) rfl ?_
 refine WO.nil ?_
 refine WX.next ?_
 refine WC.ret ?_
 refine WX.gm ?_
 refine WX.rV rfl rfl ?_
 exact hv2
set_option maxRecDepth 100000 in
set_option maxHeartbeats 1000000 in
theorem rA {w W1:World} {g b n i c vc G:Nat} {ad:Addr} {cur vs ds:List Value} (hi:i<n) (hnc:n<=c) (hc:c<n+1) (hcm:c<=maxLen) (hG:n+1<=G) (hGm:G<=maxLen)
  (happ:∀ (F:Fr) (x y:Operand) (ty:TypeId),ev F x=some (.slice (some ⟨g,0*2,none⟩) i c)->ev F y=some (.int .i64 ((n+1 - i:Nat):Int))->aK Try.prog 95 F w (.call { callee:=.builtin .append,args:=#[x,y],argTypes:=#[26,3] }) ty (.slice (some ⟨b,0,none⟩) (n+1) G) W1)
  (hrow:W1.heap[b]? = some (.cells cur.toArray 48 (0,0))) (hcur:(n+1)*2<=cur.length) (hv:CellsAt W1 ad vs) (hvl:vs.length=2) (hd:CellsAt W1 ⟨g,i*2,none⟩ ds) (hgb:g≠b) (hgl:g<W1.heap.size) (hdl:ds.length=(n - i)*2)
  (h1v:∀ u ∈ vs,u.oneCell' = true) (h1d:∀ u ∈ ds,u.oneCell' = true) :
  gw Try.prog 80 [.slice (some ⟨g,0,none⟩) n c,.int .i64 (i:Int),.slice (some ad) 1 vc].toArray w fun v w'=>v = .slice (some ⟨b,0,none⟩) (n+1) G/\∃ w1,Kp [] (W1.setRow b (cur.take (i*2)++vs++cur.drop (i*2+vs.length)).toArray) w1/\w' = w1.setRow b ((cur.take (i*2)++vs++cur.drop (i*2+vs.length)).take ((i+1)*2)++ds++(cur.take (i*2)++vs++cur.drop (i*2+vs.length)).drop ((i+1)*2+ds.length)).toArray:=by
 have hGm:G<=9223372036854775807:=hGm
 have hcm:c<=9223372036854775807:=hcm
 have hn1:vs.length=Nat.min 1 (n+1 - i)*2:=by rw [show Nat.min 1 (n+1 - i)=1 from Nat.min_eq_left (by omega),Nat.one_mul]; exact hvl
 have hn2:ds.length=Nat.min (n - i) (n+1 - (i+1))*2:=by rw [show Nat.min (n - i) (n+1 - (i+1))=n - i from Nat.min_eq_left (by omega)]; exact hdl
 refine gw.enter Try.func80 rfl rfl rfl rfl ?_
 refine WC.seq ?_
 refine WC.region ?_
 refine WO.v (R.assign rfl) rfl ?_
 refine WO.nil ?_
 refine WX.next ?_
 refine WC.seq ?_
 refine WC.region ?_
 refine WO.v (R.move rfl) rfl ?_
 refine WO.v (R.move rfl) rfl ?_
 refine WO.v (R.bX rfl rfl Try.underlying26 cd rfl (by omega)) rfl ?_
 refine WO.nil ?_
 refine WX.next ?_
 refine WC.seq ?_
 refine WC.region ?_
 refine WO.v (R.move rfl) rfl ?_
 refine WO.v (R.len rfl Try.underlying26) rfl ?_
 refine WO.v (R.assign rfl) rfl ?_
 refine WO.nil ?_
 refine WX.next ?_
 refine WC.seq ?_
 refine WC.seq ?_
 refine WC.region ?_
 refine WO.v (R.move rfl) rfl ?_
 refine WO.v (R.eql rfl rfl) rfl ?_
 refine WO.nil ?_
 refine WX.next ?_
 refine WC.cond rfl (fun q=>absurd (of_decide_eq_true q) (by omega)) (fun _=>?_)
 refine WC.skip ?_
 refine WX.next ?_
 refine WC.seq ?_
 refine WC.region ?_
 refine WO.v (R.move rfl) rfl ?_
 refine WO.v (R.len rfl Try.underlying26) rfl ?_
 refine WO.v (R.assign rfl) rfl ?_
 refine WO.nil ?_
 refine WX.next ?_
 refine WC.seq ?_
 refine WC.seq ?_
 refine WC.region ?_
 refine WO.v (R.move rfl) rfl ?_
 refine WO.v (R.move rfl) rfl ?_
 refine WO.v (R.eql rfl rfl) rfl ?_
 refine WO.nil ?_
 refine WX.next ?_
 refine WC.cond rfl (fun q=>absurd (of_decide_eq_true q) (by omega)) (fun _=>?_)
 refine WC.skip ?_
 refine WX.next ?_
 refine WC.seq ?_
 refine WC.seq ?_
 refine WC.region ?_
 refine WO.v (R.move rfl) rfl ?_
 refine WO.v (R.move rfl) rfl ?_
 refine WO.v (R.iT rfl rfl (by omega)) rfl ?_
 refine WO.v (R.move rfl) rfl ?_
 refine WO.v (R.BL rfl Try.underlying26) rfl ?_
 refine WO.v (R.gtr rfl rfl) rfl ?_
 refine WO.nil ?_
 refine WX.next ?_
 refine WC.cond rfl (fun _=>?_) (fun q=>absurd (by omega) (of_decide_eq_false q))
 refine WC.seq ?_
 refine WC.region ?_
 refine WO.v (R.move rfl) rfl ?_
 refine WO.v (R.move rfl) rfl ?_
 refine WO.v (R.jt rfl rfl Try.underlying26 cd (dg (i:=0) (by omega)) (by omega)) rfl ?_
 refine WO.v (R.move rfl) rfl ?_
 refine WO.v (R.move rfl) rfl ?_
 refine WO.v (R.iT rfl rfl (by omega)) rfl ?_
 refine WO.v (R.move rfl) rfl ?_
 refine WO.v (R.Ff rfl rfl (by omega) (by omega)) rfl ?_
 refine WO.v (happ _ _ _ _ rfl rfl) rfl ?_
 refine WO.v (R.assign rfl) rfl ?_
 refine WO.nil ?_
 refine WX.next ?_
 refine WC.seq ?_
 refine WC.region ?_
 refine WO.v (R.move rfl) rfl ?_
 refine WO.v (R.move rfl) rfl ?_
 refine WO.v (R.bX rfl rfl Try.underlying26 cd (dg (by omega)) (by omega)) rfl ?_
 refine WO.v (R.move rfl) rfl ?_
 refine WO.v (R.jS rfl rfl Try.underlying26 cd hrow hn1 hv (by omega) h1v) rfl ?_
 refine WO.nil ?_
 refine WX.next ?_
 refine WC.seq ?_
 refine WC.nw fG [.ex [] (.slice (some ⟨b,0,none⟩) (n+1) G),.ex [] (.int .i64 ((i:Nat):Int)),.ex [] (.int .i64 ((1:Nat):Int)),.ex [1,2] (.int .i64 ((i+1:Nat):Int)),.ex [0,3] (.slice (some ⟨b,(i+1)*2,none⟩) (n+1 - (i+1)) (G - (i+1))),.ex [] (.slice (some ⟨g,0,none⟩) n c),.ex [] (.int .i64 ((i:Nat):Int)),.ex [5,6] (.slice (some ⟨g,i*2,none⟩) (n - i) (c - i))] 8 (by kernel_rfl) ⟨fun _ _ _ h _=>h,fun _ _ _ h _=>h,fun _ _ _ h _=>h,fun _ _ _ h _=>h,fun _ _ _ h _=>h,fun _ _ _ h _=>h,fun _ _ _ h _=>h,fun _ _ _ h _=>h,trivial⟩ ⟨?_,?_,?_,?_,?_,?_,?_,?_,trivial⟩ ?_
 ·rintro vs wd kd ⟨-⟩
  refine WO.bj (fr':=[(9,.slice (some ⟨b,0,none⟩) (n+1) G)]) ⟨⟨_,rfl,rfl⟩,trivial⟩ ?_
  refine WO.v (R.move rfl) rfl ?_
  refine WO.nil ?_
  exact WX.aG rfl rfl (Kp.refl _)
 ·rintro vs wd kd ⟨-⟩
  refine WO.bj (fr':=[(1,.int .i64 ((i:Nat):Int))]) ⟨⟨_,rfl,rfl⟩,trivial⟩ ?_
  refine WO.v (R.move rfl) rfl ?_
  refine WO.nil ?_
  exact WX.aG rfl rfl (Kp.refl _)
 ·rintro vs wd kd ⟨-⟩
  refine WO.bj (fr':=[(7,.int .i64 ((1:Nat):Int))]) ⟨⟨_,rfl,rfl⟩,trivial⟩ ?_
  refine WO.v (R.move rfl) rfl ?_
  refine WO.nil ?_
  exact WX.aG rfl rfl (Kp.refl _)
 ·rintro vs wd kd ⟨e1,e2,-⟩
  refine WO.bj (fr':=[(47,.int .i64 ((i:Nat):Int)),(48,.int .i64 ((1:Nat):Int))]) ⟨⟨_,rfl,e1⟩,⟨_,rfl,e2⟩,trivial⟩ ?_
  refine WO.v (R.iT rfl rfl (by omega)) rfl ?_
  refine WO.nil ?_
  exact WX.aG rfl rfl (Kp.refl _)
 ·rintro vs wd kd ⟨e0,e3,-⟩
  refine WO.bj (fr':=[(46,.slice (some ⟨b,0,none⟩) (n+1) G),(49,.int .i64 ((i+1:Nat):Int))]) ⟨⟨_,rfl,e0⟩,⟨_,rfl,e3⟩,trivial⟩ ?_
  refine WO.v (R.bX rfl rfl Try.underlying26 cd (dg (by omega)) (by omega)) rfl ?_
  refine WO.nil ?_
  exact WX.aG rfl rfl (Kp.refl _)
 ·rintro vs wd kd ⟨-⟩
  refine WO.bj (fr':=[(0,.slice (some ⟨g,0,none⟩) n c)]) ⟨⟨_,rfl,rfl⟩,trivial⟩ ?_
  refine WO.v (R.move rfl) rfl ?_
  refine WO.nil ?_
  exact WX.aG rfl rfl (Kp.refl _)
 ·rintro vs wd kd ⟨-⟩
  refine WO.bj (fr':=[(1,.int .i64 ((i:Nat):Int))]) ⟨⟨_,rfl,rfl⟩,trivial⟩ ?_
  refine WO.v (R.move rfl) rfl ?_
  refine WO.nil ?_
  exact WX.aG rfl rfl (Kp.refl _)
 ·rintro vs wd kd ⟨e5,e6,-⟩
  refine WO.bj (fr':=[(51,.slice (some ⟨g,0,none⟩) n c),(52,.int .i64 ((i:Nat):Int))]) ⟨⟨_,rfl,e5⟩,⟨_,rfl,e6⟩,trivial⟩ ?_
  refine WO.v (R.bX rfl rfl Try.underlying26 cd (dg (by omega)) (by omega)) rfl ?_
  refine WO.nil ?_
  exact WX.aG rfl rfl (Kp.refl _)
 rintro vsx w1 k1 ⟨-,-,-,-,e4,-,-,e7,-⟩
 replace k1:Kp [] (W1.setRow b (cur.take (i*2)++vs++cur.drop (i*2+vs.length)).toArray) w1:=k1
 refine WO.bj (fr':=[(50,.slice (some ⟨b,(i+1)*2,none⟩) (n+1 - (i+1)) (G - (i+1))),(53,.slice (some ⟨g,i*2,none⟩) (n - i) (c - i)),(9,.slice (some ⟨b,0,none⟩) (n+1) G)]) ⟨⟨_,rfl,e4⟩,⟨_,rfl,e7⟩,⟨_,rfl,rfl⟩,trivial⟩ ?_
 have hb2:w1.heap[b]? = some (.cells (List.toArray (cur.take (i*2)++vs++cur.drop (i*2+vs.length))) 48 (0,0)):=by rw [k1.block b (by simpa using aV hrow) (by simp)]; exact setRow_heap W1 b _ _ 48 _ hrow
 have hd2:CellsAt w1 ⟨g,i*2,none⟩ ds:=(hd.kp (Kp.setRow W1 b _) hgl (by simpa using hgb.symm)).kp k1 (by simpa using hgl) (by simp)
 refine WO.v (R.jS rfl rfl Try.underlying26 cd hb2 hn2 hd2 (by simp only [List.length_append,List.length_take,List.length_drop]; omega) h1d) rfl ?_
 refine WO.nil ?_
 refine WX.next ?_
 refine WC.seq ?_
 refine WC.region ?_
 refine WO.v (R.move rfl) rfl ?_
 refine WO.v (R.assign rfl) rfl ?_
 refine WO.nil ?_
 refine WX.next ?_
 refine WC.ret ?_
 refine WX.gm ?_
 refine WX.rV rfl rfl ?_
 exact ⟨rfl,w1,k1,rfl⟩
set_option maxRecDepth 100000 in
set_option maxHeartbeats 1000000 in
theorem ow {w:World} {g n i c vc:Nat} {ad:Addr} {cur vs ds:List Value} {curA:Array Value} {tA:TypeId} {fA:Nat × Nat} (hi:i<n) (hc:n+1<=c) (hcm:c<=maxLen)
  (hrow:w.heap[g]? = some (.cells cur.toArray 48 (0,0))) (hcur:(n+1)*2<=cur.length) (hv:CellsAt w ad vs) (hvb:w.heap[ad.block]? = some (.cells curA tA fA)) (hvb0:curA.size≠0) (hne:ad.block≠g) (hvl:vs.length=2) (hd:CellsAt w ⟨g,i*2,none⟩ ds) (hdl:ds.length=(n - i)*2)
  (h1v:∀ u ∈ vs,u.oneCell' = true) (h1d:∀ u ∈ ds,u.oneCell' = true) :
  gw Try.prog 80 [.slice (some ⟨g,0,none⟩) n c,.int .i64 (i:Int),.slice (some ad) 1 vc].toArray w fun v w'=>v = .slice (some ⟨g,0,none⟩) (n+1) c/\∃ w1,Kp [] w w1/\w' = (w1.setRow g (cur.take ((i+1)*2)++ds++cur.drop ((i+1)*2+ds.length)).toArray).setRow g ((cur.take ((i+1)*2)++ds++cur.drop ((i+1)*2+ds.length)).take (i*2)++vs++(cur.take ((i+1)*2)++ds++cur.drop ((i+1)*2+ds.length)).drop (i*2+vs.length)).toArray:=by
 have hcm:c<=9223372036854775807:=hcm
 have hn1:vs.length=Nat.min 1 (n+1 - i)*2:=by rw [show Nat.min 1 (n+1 - i)=1 from Nat.min_eq_left (by omega),Nat.one_mul]; exact hvl
 have hn2:ds.length=Nat.min (n+1 - i) (n+1 - (i+1))*2:=by rw [show Nat.min (n+1 - i) (n+1 - (i+1))=n+1 - (i+1) from Nat.min_eq_right (by omega),hdl]; congr 1; omega
 refine gw.enter Try.func80 rfl rfl rfl rfl ?_
 refine WC.seq ?_
 refine WC.region ?_
 refine WO.v (R.assign rfl) rfl ?_
 refine WO.nil ?_
 refine WX.next ?_
 refine WC.seq ?_
 refine WC.region ?_
 refine WO.v (R.move rfl) rfl ?_
 refine WO.v (R.move rfl) rfl ?_
 refine WO.v (R.bX rfl rfl Try.underlying26 cd rfl (by omega)) rfl ?_
 refine WO.nil ?_
 refine WX.next ?_
 refine WC.seq ?_
 refine WC.region ?_
 refine WO.v (R.move rfl) rfl ?_
 refine WO.v (R.len rfl Try.underlying26) rfl ?_
 refine WO.v (R.assign rfl) rfl ?_
 refine WO.nil ?_
 refine WX.next ?_
 refine WC.seq ?_
 refine WC.seq ?_
 refine WC.region ?_
 refine WO.v (R.move rfl) rfl ?_
 refine WO.v (R.eql rfl rfl) rfl ?_
 refine WO.nil ?_
 refine WX.next ?_
 refine WC.cond rfl (fun q=>absurd (of_decide_eq_true q) (by omega)) (fun _=>?_)
 refine WC.skip ?_
 refine WX.next ?_
 refine WC.seq ?_
 refine WC.region ?_
 refine WO.v (R.move rfl) rfl ?_
 refine WO.v (R.len rfl Try.underlying26) rfl ?_
 refine WO.v (R.assign rfl) rfl ?_
 refine WO.nil ?_
 refine WX.next ?_
 refine WC.seq ?_
 refine WC.seq ?_
 refine WC.region ?_
 refine WO.v (R.move rfl) rfl ?_
 refine WO.v (R.move rfl) rfl ?_
 refine WO.v (R.eql rfl rfl) rfl ?_
 refine WO.nil ?_
 refine WX.next ?_
 refine WC.cond rfl (fun q=>absurd (of_decide_eq_true q) (by omega)) (fun _=>?_)
 refine WC.skip ?_
 refine WX.next ?_
 refine WC.seq ?_
 refine WC.seq ?_
 refine WC.region ?_
 refine WO.v (R.move rfl) rfl ?_
 refine WO.v (R.move rfl) rfl ?_
 refine WO.v (R.iT rfl rfl (by omega)) rfl ?_
 refine WO.v (R.move rfl) rfl ?_
 refine WO.v (R.BL rfl Try.underlying26) rfl ?_
 refine WO.v (R.gtr rfl rfl) rfl ?_
 refine WO.nil ?_
 refine WX.next ?_
 refine WC.cond rfl (fun q=>absurd (of_decide_eq_true q) (by omega)) (fun _=>?_)
 refine WC.skip ?_
 refine WX.next ?_
 refine WC.seq ?_
 refine WC.region ?_
 refine WO.v (R.move rfl) rfl ?_
 refine WO.v (R.move rfl) rfl ?_
 refine WO.v (R.move rfl) rfl ?_
 refine WO.v (R.iT rfl rfl (by omega)) rfl ?_
 refine WO.v (R.jt rfl rfl Try.underlying26 cd (dg (i:=0) (by omega)) (by omega)) rfl ?_
 refine WO.v (R.assign rfl) rfl ?_
 refine WO.nil ?_
 refine WX.next ?_
 refine WC.seq ?_
 refine WC.seq ?_
 refine WC.region ?_
 refine WO.v (R.move rfl) rfl ?_
 refine WO.v (R.move rfl) rfl ?_
 refine WO.v (R.move rfl) rfl ?_
 refine WO.v (R.move rfl) rfl ?_
 refine WO.v (R.iT rfl rfl (by omega)) rfl ?_
 refine WO.v (R.bX rfl rfl Try.underlying26 cd (dg (by omega)) (by omega)) rfl ?_
 refine WO.v (R.Hk (tS:=26) (tR:=4) Try.func92 rfl rfl (by kernel_rfl) (by kernel_rfl) Try.underlying26 cd hne hvb hvb0 hrow rfl rfl) rfl ?_
 refine WO.v (R.not rfl) rfl ?_
 refine WO.nil ?_
 refine WX.next ?_
 refine WC.wX rfl ?_
 refine WC.seq ?_
 refine WC.nw fG [.ex [] (.slice (some ⟨g,0,none⟩) (n+1) c),.ex [] (.int .i64 ((i:Nat):Int)),.ex [] (.int .i64 ((1:Nat):Int)),.ex [1,2] (.int .i64 ((i+1:Nat):Int)),.ex [0,3] (.slice (some ⟨g,(i+1)*2,none⟩) (n+1 - (i+1)) (c - (i+1))),.ex [] (.slice (some ⟨g,0,none⟩) (n+1) c),.ex [] (.int .i64 ((i:Nat):Int)),.ex [5,6] (.slice (some ⟨g,i*2,none⟩) (n+1 - i) (c - i))] 8 (by kernel_rfl) ⟨fun _ _ _ h _=>h,fun _ _ _ h _=>h,fun _ _ _ h _=>h,fun _ _ _ h _=>h,fun _ _ _ h _=>h,fun _ _ _ h _=>h,fun _ _ _ h _=>h,fun _ _ _ h _=>h,trivial⟩ ⟨?_,?_,?_,?_,?_,?_,?_,?_,trivial⟩ ?_
 ·rintro vs wd kd ⟨-⟩
  refine WO.bj (fr':=[(0,.slice (some ⟨g,0,none⟩) (n+1) c)]) ⟨⟨_,rfl,rfl⟩,trivial⟩ ?_
  refine WO.v (R.move rfl) rfl ?_
  refine WO.nil ?_
  exact WX.aG rfl rfl (Kp.refl _)
 ·rintro vs wd kd ⟨-⟩
  refine WO.bj (fr':=[(1,.int .i64 ((i:Nat):Int))]) ⟨⟨_,rfl,rfl⟩,trivial⟩ ?_
  refine WO.v (R.move rfl) rfl ?_
  refine WO.nil ?_
  exact WX.aG rfl rfl (Kp.refl _)
 ·rintro vs wd kd ⟨-⟩
  refine WO.bj (fr':=[(7,.int .i64 ((1:Nat):Int))]) ⟨⟨_,rfl,rfl⟩,trivial⟩ ?_
  refine WO.v (R.move rfl) rfl ?_
  refine WO.nil ?_
  exact WX.aG rfl rfl (Kp.refl _)
 ·rintro vs wd kd ⟨e1,e2,-⟩
  refine WO.bj (fr':=[(70,.int .i64 ((i:Nat):Int)),(71,.int .i64 ((1:Nat):Int))]) ⟨⟨_,rfl,e1⟩,⟨_,rfl,e2⟩,trivial⟩ ?_
  refine WO.v (R.iT rfl rfl (by omega)) rfl ?_
  refine WO.nil ?_
  exact WX.aG rfl rfl (Kp.refl _)
 ·rintro vs wd kd ⟨e0,e3,-⟩
  refine WO.bj (fr':=[(69,.slice (some ⟨g,0,none⟩) (n+1) c),(72,.int .i64 ((i+1:Nat):Int))]) ⟨⟨_,rfl,e0⟩,⟨_,rfl,e3⟩,trivial⟩ ?_
  refine WO.v (R.bX rfl rfl Try.underlying26 cd (dg (by omega)) (by omega)) rfl ?_
  refine WO.nil ?_
  exact WX.aG rfl rfl (Kp.refl _)
 ·rintro vs wd kd ⟨-⟩
  refine WO.bj (fr':=[(0,.slice (some ⟨g,0,none⟩) (n+1) c)]) ⟨⟨_,rfl,rfl⟩,trivial⟩ ?_
  refine WO.v (R.move rfl) rfl ?_
  refine WO.nil ?_
  exact WX.aG rfl rfl (Kp.refl _)
 ·rintro vs wd kd ⟨-⟩
  refine WO.bj (fr':=[(1,.int .i64 ((i:Nat):Int))]) ⟨⟨_,rfl,rfl⟩,trivial⟩ ?_
  refine WO.v (R.move rfl) rfl ?_
  refine WO.nil ?_
  exact WX.aG rfl rfl (Kp.refl _)
 ·rintro vs wd kd ⟨e5,e6,-⟩
  refine WO.bj (fr':=[(74,.slice (some ⟨g,0,none⟩) (n+1) c),(75,.int .i64 ((i:Nat):Int))]) ⟨⟨_,rfl,e5⟩,⟨_,rfl,e6⟩,trivial⟩ ?_
  refine WO.v (R.bX rfl rfl Try.underlying26 cd (dg (by omega)) (by omega)) rfl ?_
  refine WO.nil ?_
  exact WX.aG rfl rfl (Kp.refl _)
 rintro vsx w1 k1 ⟨-,-,-,-,e4,-,-,e7,-⟩
 replace k1:Kp [] w w1:=k1
 refine WO.bj (fr':=[(73,.slice (some ⟨g,(i+1)*2,none⟩) (n+1 - (i+1)) (c - (i+1))),(76,.slice (some ⟨g,i*2,none⟩) (n+1 - i) (c - i)),(0,.slice (some ⟨g,0,none⟩) (n+1) c),(1,.int .i64 ((i:Nat):Int)),(2,.slice (some ad) 1 vc)]) ⟨⟨_,rfl,e4⟩,⟨_,rfl,e7⟩,⟨_,rfl,rfl⟩,⟨_,rfl,rfl⟩,⟨_,rfl,rfl⟩,trivial⟩ ?_
 have hg1:w1.heap[g]? = some (.cells (List.toArray cur) 48 (0,0)):=by rw [k1.block g (aV hrow) (by simp)]; exact hrow
 refine WO.v (R.jS rfl rfl Try.underlying26 cd hg1 hn2 (hd.kp k1 (aV hrow) (by simp)) (by omega) h1d) rfl ?_
 refine WO.nil ?_
 refine WX.next ?_
 have hg2:(w1.setRow g (cur.take ((i+1)*2)++ds++cur.drop ((i+1)*2+ds.length)).toArray).heap[g]? = some (.cells (List.toArray (cur.take ((i+1)*2)++ds++cur.drop ((i+1)*2+ds.length))) 48 (0,0)):=setRow_heap w1 g _ _ 48 _ hg1
 have hv2:CellsAt (w1.setRow g (cur.take ((i+1)*2)++ds++cur.drop ((i+1)*2+ds.length)).toArray) ad vs:=(hv.kp k1 (aV hvb) (by simp)).kp (Kp.setRow w1 g _) (Nat.lt_of_lt_of_le (aV hvb) k1.size) (by simpa using fun h=>hne h.symm)
 refine WC.seq ?_
 refine WC.region ?_
 refine WO.v (R.move rfl) rfl ?_
 refine WO.v (R.move rfl) rfl ?_
 refine WO.v (R.bX rfl rfl Try.underlying26 cd (dg (by omega)) (by omega)) rfl ?_
 refine WO.v (R.move rfl) rfl ?_
 refine WO.v (R.jS rfl rfl Try.underlying26 cd hg2 hn1 hv2 (by simp only [List.length_append,List.length_take,List.length_drop]; omega) h1v) rfl ?_
 refine WO.nil ?_
 refine WX.next ?_
 refine WC.seq ?_
 refine WC.region ?_
 refine WO.v (R.move rfl) rfl ?_
 refine WO.v (R.assign rfl) rfl ?_
 refine WO.nil ?_
 refine WX.next ?_
 refine WC.ret ?_
 refine WX.gm ?_
 refine WX.rV rfl rfl ?_
 exact ⟨rfl,w1,k1,rfl⟩
theorem rJ {G:Gl} {ρ:List RE} {H:AH} {w:World} (hs:G.shp=aq aI) (hR:Rep G ρ H w) {l m:List (den (.nm .opn))} (hH:getO H 0 = .row 48 (.nm .opn) l) (hl:l.length<1048576) {i:Nat} (hi:i<=l.length) {v0:Value} (h0:Rd (cx G ρ w) ρ (.own 0) v0)
  {ad:Addr} {k:Nat} {cys:List Value} {bAV:AV} (hm:m.length=1) (hb:Rd (cx G ρ w) ρ bAV (.slice (some ad) 1 k)) (hbv:(bAV.vw H).eO (.nm .opn)=some m) (hv:CellsAt w ad cys) (hvl:cys.length=2) (h1v:∀ u ∈ cys,u.oneCell' = true) (hp:Pds (cx G ρ w) (m.flatMap (cellsOf (.nm .opn))) cys)
  (hne:∀ g c n z,ρ[0]? = some (.row g c n z)->ad.block≠g) {curA:Array Value} {tA:TypeId} {fA:Nat × Nat} (hvb:w.heap[ad.block]? = some (.cells curA tA fA)) (hvb0:curA.size≠0) :
  gw Try.prog 80 [v0,.int .i64 (i:Int),.slice (some ad) 1 k].toArray w fun v w'=>∃ ρ',Stp (vT 0) ρ w ρ' w' /\ Rep G ρ' ((ep (AV.kill 0) H).set 0 (.row 48 (.nm .opn) (l.take i++m++l.drop i))) w' /\ Rd (cx G ρ' w') ρ' (.own 0) v:=by
 have hT:bf Try.prog G.shp aI:=hs ▸ ga
 obtain ⟨hshp,hlen⟩:=cJ hR hH
 have hl64:l.length<=9223372036854775807:=by omega
 have hin:((l.length:Nat):Int)<=9223372036854775807:=by omega
 by_cases hie:i=l.length
 ·subst hie
  have hc:∃ A c,v0 = .slice A l.length c:=by
   rcases h0 with ⟨g,cap,len,z,h1,rfl⟩ | ⟨h1,a,rfl⟩
   ·rcases bk hR hH with ⟨h2,_⟩ | ⟨g',cap',cells,sp,h2,_⟩
    ·rw [h1] at h2; cases h2
    ·rw [h1] at h2; cases h2; exact ⟨_,_,rfl⟩
   ·rcases bk hR hH with ⟨_,h2⟩ | ⟨g',cap',cells,sp,h2,_⟩
    ·subst h2; exact ⟨_,_,rfl⟩
    ·rw [h1] at h2; cases h2
  obtain ⟨A,c,rfl⟩:=hc
  refine sq fun F x y ty hx hy=>?_
  have happ:fk aI (vT 0) ([]:AFr) H 26 (.own 0) bAV=some ⟨one (.own 0),[],(ep (AV.kill 0) H).set 0 (.row 48 (.nm .opn) (l++m)),[(l.length+m.length)*(Sh.nm NT.opn).bytes<=140737488355328],[]⟩:=by
   unfold fk
   rw [show bl aI 26=some ⟨.sl 48 (some (.nm .opn)),1,[.em true]⟩ from by kernel_rfl]
   simp only [hbv,hH]
   rfl
  obtain ⟨v,w',h1,ρ',h2,h3,_,h5,_⟩:=fh (P:=Try.prog) (n:=95) (F:=[]) (ty:=ty) (fr:=[]) (x:=.const (.slice A l.length c)) (y:=.const (.slice (some ad) 1 k)) hT hR .nil happ (by
   intro p hp
   rw [List.mem_singleton] at hp; subst hp
   show (l.length+m.length)*16<=_
   omega) h0 hb rfl rfl
  refine ⟨v,w',R.tx h1 hx hy,ρ',h2,?_,h5⟩
  rw [List.take_length,List.drop_length,List.append_nil]
  exact h3
 ·have hlt:i<l.length:=by omega
  rcases bk hR hH with ⟨_,h2⟩ | ⟨g,cap,cells,sp,hρ,hg,hpd,hsz,hcap,hmax⟩
  ·subst h2; simp at hlt
  obtain ⟨hnb,hil,hiH⟩:=jF hR hH
  have hv0:v0 = .slice (some ⟨g,0,none⟩) l.length cap:=by
   rcases h0 with ⟨g',cap',len,z,h1,rfl⟩ | ⟨h1,a,rfl⟩
   ·rw [hρ] at h1; cases h1; rfl
   ·rw [hρ] at h1; cases h1
  subst hv0
  have hz:(Sh.nm NT.opn).size=2:=rfl
  have hby:(Sh.nm NT.opn).bytes=16:=rfl
  have hcl:cells.length=l.length*2:=by rw [<- hpd.length,bC,hz]
  rw [hz,List.length_append] at hsz
  have hone:∀ u ∈ cells.drop (i*2),u.oneCell' = true:=fun u hu=>hpd.yb u (List.mem_of_mem_drop hu)
  have hd:CellsAt w ⟨g,i*2,none⟩ (cells.drop (i*2)):=by
   have:=(bP hg).shift (i*2)
   rwa [add_lit,Nat.zero_add] at this
  have hdl:(cells.drop (i*2)).length=(l.length - i)*2:=by rw [List.length_drop,hcl]; omega
  have hgl:=aV hg
  have hzl:(l.take i++m++l.drop i).length=l.length+1:=by
   rw [List.length_append,List.length_append,List.length_take,List.length_drop,hm]; omega
  have hnew:∀ {c:Cx},(cx G ρ w).le c->Pds c ((l.take i++m++l.drop i).flatMap (cellsOf (.nm .opn))) (cells.take (i*2)++cys++cells.drop (i*2)):=fun {c} hle=>by
   rw [List.flatMap_append,List.flatMap_append]
   exact (((bt hpd i).append hp).append (bH hpd i)).carry hle
  have hnl:(cells.take (i*2)++cys++cells.drop (i*2)).length=(l.length+1)*2:=by
   rw [List.length_append,List.length_append,List.length_take,List.length_drop,hcl,hvl]; omega
  have hbig:(l.take i++m++l.drop i).length*(Sh.nm NT.opn).bytes<=140737488355328:=by rw [hzl,hby]; omega
  -- what is shown of any way
  have fin:∀ (S:List Nat) (g2 cap2:Nat) (sp2:List Value) (w':World),Kp S w w' -> (∀ b ∈ S,b=g)->(g2=g\/w.heap.size<=g2)->w'.heap[g2]? = some (.cells (List.toArray (cells.take (i*2)++cys++cells.drop (i*2)++sp2)) 48 (0,0))->(l.length+1)*2+sp2.length=cap2*2->l.length+1<=cap2->cap2<=maxLen ->
    ∃ ρ',Stp (vT 0) ρ w ρ' w' /\ Rep G ρ' ((ep (AV.kill 0) H).set 0 (.row 48 (.nm .opn) (l.take i++m++l.drop i))) w' /\ Rd (cx G ρ' w') ρ' (.own 0) (.slice (some ⟨g2,0,none⟩) (l.length+1) cap2):=by
   intro S g2 cap2 sp2 w' hk hS hg2 hh hlen2 hle2 hmax2
   obtain ⟨k1,k2,_⟩:=hL (ro:=vT 0) (s':=.nm .opn) (e':=48) (zs:=l.take i++m++l.drop i) hR hH ⟨rfl,rfl⟩ hk (fun b hb=>⟨_,hρ,by rw [hS b hb]; rfl⟩) (r':=.row g2 cap2 (l.take i++m++l.drop i).length (Sh.nm NT.opn).size) (fun b hb=>by
    cases hb
    rcases hg2 with rfl | hg2
    ·exact .inl ⟨_,hρ,rfl⟩
    ·exact .inr ⟨hg2,aV hh⟩) (fun hle=>⟨hshp,hbig,.inr ⟨g2,cap2,_,sp2,rfl,hh,hnew hle,by rw [List.length_append,hnl,hz]; exact hlen2,by rw [hzl]; exact hle2,hmax2⟩⟩)
   exact ⟨_,k1,k2,.inl ⟨g2,cap2,_,_,List.getElem?_set_self hil,by rw [hzl]⟩⟩
  have eo:(i+1)*2=i*2+2:=by omega
  by_cases hroom:l.length+1<=cap
  ·refine (ow hlt hroom hmax hg (by rw [List.length_append]; omega) hv hvb hvb0 (hne _ _ _ _ hρ) hvl hd hdl h1v hone).mono fun v w' ⟨e1,w1,k1,e2⟩=>?_
   subst e1; subst e2
   rw [eo,CP (by omega) hvl]
   have hk:Kp [g] w ((w1.setRow g ((cells++sp).take (i*2+2)++cells.drop (i*2)++(cells++sp).drop (i*2+2+(cells.drop (i*2)).length)).toArray).setRow g (cells.take (i*2)++cys++cells.drop (i*2)++sp.drop 2).toArray):=((k1.sub (by simp)).step (Kp.setRow w1 g _) (by simp)).step (Kp.setRow _ g _) (by simp)
   have hg1:w1.heap[g]? = some (.cells (List.toArray (cells++sp)) 48 (0,0)):=by rw [k1.block g hgl (by simp)]; exact hg
   exact fin [g] g cap (sp.drop 2) _ hk (by simp) (.inl rfl) (setRow_heap _ g _ _ 48 _ (setRow_heap w1 g _ _ 48 _ hg1)) (by rw [List.length_drop]; omega) hroom hmax
  ·obtain ⟨ti,hi0,hz0,hz1,hz2⟩:=info_parts ub
   have eik:i+(l.length+1 - i)=l.length+1:=by omega
   have hge:=grownCap_ge w (l.length+1) cap 48
   have hgm:=grownCap_le_maxLen w (l.length+1) cap 48 (by simp [maxLen]; omega)
   have hold:(Builtin.firstCells ti.size i (.slice (some ⟨g,0*2,none⟩) i cap)).run Try.prog w.drew = .ok (cells.take (i*2)).toArray w.drew:=by
    have h:=run_loadCells_list (P:=Try.prog) w.drew ⟨g,0*2,none⟩ (cells.take (i*2)) (by rw [Nat.zero_mul]; exact (bP hg).take _)
    rw [List.length_take,Nat.min_eq_left (by omega)] at h
    rw [hz1]; exact h
   have happ:∀ (F:Fr) (x y:Operand) (ty:TypeId),ev F x=some (.slice (some ⟨g,0*2,none⟩) i cap)->ev F y=some (.int .i64 ((l.length+1 - i:Nat):Int))->aK Try.prog 95 F w (.call { callee:=.builtin .append,args:=#[x,y],argTypes:=#[26,3] }) ty (.slice (some ⟨w.heap.size,0,none⟩) (l.length+1) (grownCap w (l.length+1) cap 48)) (w.drew.alloc (.cells (List.toArray (cells.take (i*2)++((Builtin.zeroCells (Value.agg #[.int .i64 0,.int .i64 0]).cells (l.length+1 - i)).toList++(Builtin.zeroCells (Value.agg #[.int .i64 0,.int .i64 0]).cells (grownCap w (l.length+1) cap 48 - (l.length+1))).toList))) 48)):=fun F x y ty hx hy=>by
    have h:=R.EZ (P:=Try.prog) (n:=95) (ty:=ty) hx hy Try.underlying26 Try.underlying3 hi0 hz0 hold (by omega) (by rw [hz1]; decide) (by omega) (by omega) (by rw [hz2]; omega) (by rw [hz2,eik]; exact growslice_fits (by omega) (by omega))
    rw [eik] at h
    have e:∀ (a:List Value) (b c:Array Value),a.toArray++b++c=(a++(b.toList++c.toList)).toArray:=fun a b c=>by apply Array.ext'; simp
    rw [e] at h
    exact h
   have hcurl:(cells.take (i*2)++((Builtin.zeroCells (Value.agg #[.int .i64 0,.int .i64 0]).cells (l.length+1 - i)).toList++(Builtin.zeroCells (Value.agg #[.int .i64 0,.int .i64 0]).cells (grownCap w (l.length+1) cap 48 - (l.length+1))).toList)).length=grownCap w (l.length+1) cap 48*2:=by
    rw [List.length_append,List.length_append,List.length_take,k_,k_]
    show min _ _+((l.length+1 - i)*2+(grownCap w (l.length+1) cap 48 - (l.length+1))*2)=_
    omega
   have htk:(cells.take (i*2)++((Builtin.zeroCells (Value.agg #[.int .i64 0,.int .i64 0]).cells (l.length+1 - i)).toList++(Builtin.zeroCells (Value.agg #[.int .i64 0,.int .i64 0]).cells (grownCap w (l.length+1) cap 48 - (l.length+1))).toList)).take (i*2)=cells.take (i*2):=List.take_left' (by rw [List.length_take]; omega)
   generalize grownCap w (l.length+1) cap 48=GC at *
   generalize cells.take (i*2)++((Builtin.zeroCells (Value.agg #[.int .i64 0,.int .i64 0]).cells (l.length+1 - i)).toList++(Builtin.zeroCells (Value.agg #[.int .i64 0,.int .i64 0]).cells (GC - (l.length+1))).toList)=cur at *
   have hK1:Kp [] w (w.drew.alloc (.cells (List.toArray cur) 48)):=((Kp.refl w).drew).step (Kp.alloc w.drew _) (by simp)
   have hrow:(w.drew.alloc (.cells (List.toArray cur) 48)).heap[w.heap.size]? = some (.cells (List.toArray cur) 48 (0,0)):=heap_alloc_new w.drew _
   generalize w.drew.alloc (.cells (List.toArray cur) 48)=W1 at *
   refine (rA hlt hcap (by omega) hmax hge hgm happ hrow (by omega) (hv.kp hK1 (aV hvb) (by simp)) hvl (hd.kp hK1 hgl (by simp)) (by omega) (Nat.lt_of_lt_of_le hgl hK1.size) hdl h1v hone).mono fun v w' ⟨e1,w1,k1,e2⟩=>?_
   subst e1; subst e2
   rw [eo,Ck (cells:=cells) (by omega) hvl htk]
   have hs1:∀ b ∈ [w.heap.size],b ∈ ([]:List Nat)\/w.heap.size<=b:=fun b hb=>.inr (by rw [List.mem_singleton] at hb; omega)
   have hk:Kp [] w (w1.setRow w.heap.size (cells.take (i*2)++cys++cells.drop (i*2)++cur.drop (i*2+2+(cells.drop (i*2)).length)).toArray):=((hK1.step (Kp.setRow W1 w.heap.size _) hs1).step k1 (by simp)).step (Kp.setRow w1 w.heap.size _) hs1
   have hg1:=(k1.block w.heap.size (by simpa using aV hrow) (by simp)).trans (setRow_heap W1 w.heap.size _ (cur.take (i*2)++cys++cur.drop (i*2+cys.length)).toArray 48 _ hrow)
   exact fin [] w.heap.size GC _ _ hk (by simp) (.inr (Nat.le_refl _)) (setRow_heap w1 w.heap.size _ _ 48 _ hg1) (by rw [List.length_drop]; omega) hge hgm
theorem nK (i:Int) (l m:List (den (.nm .opn))) (h:0<=i/\i<=(l.length:Int)) (hl:l.length<1048576) (hm:m.length=1):Sat Try.prog (aq aI) 80 [.c (.own 0),.c (.int i),.c (.fz (.nm .opn) m)] [.row 48 (.nm .opn) l] ⟨[0<=i/\i<=(l.length:Int),l.length<1048576,m.length=1],[.c (.own 0)],some [.row 48 (.nm .opn) (l.take i.toNat++m++l.drop i.toNat)],false⟩:=by
 refine ⟨⟨_,Try.func80,by decide,rfl⟩,fun G ρ w vs hs hR hvs=>?_⟩
 obtain ⟨i,rfl⟩:=Int.eq_ofNat_of_zero_le h.1
 cases hvs with | cons h0 hvs=>
 cases hvs with | cons h1 hvs=>
 cases hvs with | cons h2 hvs=>
 cases hvs
 have h1:Pd (cx G ρ w) (.int (i:Int)) _:=h1
 cases h1
 have h0:Rd (cx G ρ w) ρ (.own 0) _:=h0
 have h2:Rd (cx G ρ w) ρ (.fz (.nm .opn) m) _:=h2
 have hH:getO [AO.row 48 (.nm .opn) l] 0 = .row 48 (.nm .opn) l:=rfl
 have hbv:(AV.vw [AO.row 48 (.nm .opn) l] (.fz (.nm .opn) m)).eO (.nm .opn)=some m:=by simp [AV.vw,AV.eO,getO]
 obtain ⟨A,k,cys,rfl,s1,s2,s3,s4⟩:=lI hR hbv h2
 rw [hm] at h2 s1 s3
 rw [hm]
 obtain ⟨ad,rfl,s5⟩:∃ ad,A=some ad/\CellsAt w ad cys:=s3.resolve_left (by decide)
 have hz:(Sh.nm NT.opn).size=2:=rfl
 rw [hz] at s1
 obtain ⟨u,hu⟩:∃ u,cys[0]? = some u:=⟨_,List.getElem?_eq_getElem (by omega)⟩
 obtain ⟨cur,t,f,hc,hc0⟩:=nb (s5 0 u hu)
 have hne:∀ g c n z,ρ[0]? = some (.row g c n z)->ad.block≠g:=fun g c n z hg e=>by
  have h2:Pd (cx G ρ w) (.fz (.nm .opn) m) (.slice (some ad) 1 k):=h2
  have h3:=DH h2 (by rw [hm]; decide)
  exact h3.1.2.1 ⟨0,_,hg,by rw [e]; rfl⟩
 rw [eR] at hc
 refine (rJ hs hR hH hl (by omega) h0 hm h2 hbv s5 s1 s2 s4 hne hc hc0).mono fun v w' ⟨ρ',k1,k2,k3⟩=>?_
 exact ⟨[v],rfl,ρ',k2,k1.ext,k1.bx,.cons k3 .nil,fun hb=>by cases hb⟩
theorem xU:(Builtin.zeroCells (Value.agg #[.int .i64 0,.int .i64 0]).cells 1).toList=[.int .i64 0,.int .i64 0]:=by kernel_rfl
set_option maxRecDepth 100000 in
set_option maxHeartbeats 1000000 in
theorem xD {w:World} {g n i c:Nat} {cur ds:List Value} {ti:TypeInfo} (hi:i<n) (hnc:n<=c) (hcm:c<=maxLen) (hg:w.heap[g]? = some (.cells cur.toArray 48 (0,0))) (hcur:n*2<=cur.length) (hdl:ds.length=(n - (i+1))*2) (hd:CellsAt w (if c=i+1 then ⟨g,0,none⟩ else (⟨g,0,none⟩:Addr).add ((i+1)*2)) ds) (h1d:∀ u ∈ ds,u.oneCell' = true)
  (hi0:Try.prog.info? 48=some ti) (hz0:ti.zero=some (.agg #[.int .i64 0,.int .i64 0])) (hz1:ti.size=2) :
  gw Try.prog 83 [.slice (some ⟨g,0,none⟩) n c,.int .i64 (i:Int),.int .i64 ((i+1:Nat):Int)].toArray w fun v w'=>v = .slice (some ⟨g,0,none⟩) (i+(n - (i+1))) c/\∃ w1,Kp [] w w1/\w' = (w1.setRow g (cur.take (i*ti.size)++ds++cur.drop (i*ti.size+ds.length)).toArray).setRow g ((cur.take (i*ti.size)++ds++cur.drop (i*ti.size+ds.length)).take ((i+(n - (i+1)))*2)++(Builtin.zeroCells (Value.agg #[.int .i64 0,.int .i64 0]).cells 1).toList++(cur.take (i*ti.size)++ds++cur.drop (i*ti.size+ds.length)).drop ((i+(n - (i+1)))*2+(Builtin.zeroCells (Value.agg #[.int .i64 0,.int .i64 0]).cells 1).toList.length)).toArray:=by
 have hcm:c<=9223372036854775807:=hcm
 refine gw.enter Try.func83 rfl rfl rfl rfl ?_
 refine WC.seq ?_
 refine WC.region ?_
 refine WO.v (R.assign rfl) rfl ?_
 refine WO.nil ?_
 refine WX.next ?_
 refine WC.seq ?_
 refine WC.region ?_
 refine WO.v (R.move rfl) rfl ?_
 refine WO.v (R.move rfl) rfl ?_
 refine WO.v (R.move rfl) rfl ?_
 refine WO.v (R.move rfl) rfl ?_
 refine WO.v (R.len rfl Try.underlying26) rfl ?_
 refine WO.v (R.slice3 rfl rfl rfl rfl Try.underlying26 cd (by omega) (by omega) (by omega)) rfl ?_
 refine WO.nil ?_
 refine WX.next ?_
 refine WC.seq ?_
 refine WC.seq ?_
 refine WC.region ?_
 refine WO.v (R.move rfl) rfl ?_
 refine WO.v (R.move rfl) rfl ?_
 refine WO.v (R.eql rfl rfl) rfl ?_
 refine WO.nil ?_
 refine WX.next ?_
 refine WC.cond rfl (fun q=>absurd (of_decide_eq_true q) (by omega)) (fun _=>?_)
 refine WC.skip ?_
 refine WX.next ?_
 refine WC.seq ?_
 refine WC.region ?_
 refine WO.v (R.move rfl) rfl ?_
 refine WO.v (R.len rfl Try.underlying26) rfl ?_
 refine WO.v (R.assign rfl) rfl ?_
 refine WO.nil ?_
 refine WX.next ?_
 refine WC.seq ?_
 refine WC.nw fG [.ex [] (.slice (some ⟨g,0,none⟩) n c),.ex [] (.int .i64 ((i:Nat):Int)),.ex [0,1] (.slice (some ⟨g,0*2,none⟩) (i - 0) (c - 0)),.ex [] (.slice (some ⟨g,0,none⟩) n c),.ex [] (.int .i64 ((i+1:Nat):Int)),.ex [3,4] (.slice (some (if c=i+1 then ⟨g,0,none⟩ else (⟨g,0,none⟩:Addr).add ((i+1)*2))) (n - (i+1)) (c - (i+1)))] 6 (by kernel_rfl) ⟨fun _ _ _ h _=>h,fun _ _ _ h _=>h,fun _ _ _ h _=>h,fun _ _ _ h _=>h,fun _ _ _ h _=>h,fun _ _ _ h _=>h,trivial⟩ ⟨?_,?_,?_,?_,?_,?_,trivial⟩ ?_
 ·rintro vs wd kd ⟨-⟩
  refine WO.bj (fr':=[(0,.slice (some ⟨g,0,none⟩) n c)]) ⟨⟨_,rfl,rfl⟩,trivial⟩ ?_
  refine WO.v (R.move rfl) rfl ?_
  refine WO.nil ?_
  exact WX.aG rfl rfl (Kp.refl _)
 ·rintro vs wd kd ⟨-⟩
  refine WO.bj (fr':=[(1,.int .i64 ((i:Nat):Int))]) ⟨⟨_,rfl,rfl⟩,trivial⟩ ?_
  refine WO.v (R.move rfl) rfl ?_
  refine WO.nil ?_
  exact WX.aG rfl rfl (Kp.refl _)
 ·rintro vs wd kd ⟨e0,e1,-⟩
  refine WO.bj (fr':=[(20,.slice (some ⟨g,0,none⟩) n c),(21,.int .i64 ((i:Nat):Int))]) ⟨⟨_,rfl,e0⟩,⟨_,rfl,e1⟩,trivial⟩ ?_
  refine WO.v (R.jt rfl rfl Try.underlying26 cd (dg (i:=0) (by omega)) (by omega)) rfl ?_
  refine WO.nil ?_
  exact WX.aG rfl rfl (Kp.refl _)
 ·rintro vs wd kd ⟨-⟩
  refine WO.bj (fr':=[(0,.slice (some ⟨g,0,none⟩) n c)]) ⟨⟨_,rfl,rfl⟩,trivial⟩ ?_
  refine WO.v (R.move rfl) rfl ?_
  refine WO.nil ?_
  exact WX.aG rfl rfl (Kp.refl _)
 ·rintro vs wd kd ⟨-⟩
  refine WO.bj (fr':=[(2,.int .i64 ((i+1:Nat):Int))]) ⟨⟨_,rfl,rfl⟩,trivial⟩ ?_
  refine WO.v (R.move rfl) rfl ?_
  refine WO.nil ?_
  exact WX.aG rfl rfl (Kp.refl _)
 ·rintro vs wd kd ⟨e3,e4,-⟩
  refine WO.bj (fr':=[(23,.slice (some ⟨g,0,none⟩) n c),(24,.int .i64 ((i+1:Nat):Int))]) ⟨⟨_,rfl,e3⟩,⟨_,rfl,e4⟩,trivial⟩ ?_
  refine WO.v (R.bX rfl rfl Try.underlying26 cd Eb (by omega)) rfl ?_
  refine WO.nil ?_
  exact WX.aG rfl rfl (Kp.refl _)
 rintro vsx w1 k1 ⟨-,-,e2,-,-,e5,-⟩
 replace k1:Kp [] w w1:=k1
 refine WO.bj (fr':=[(22,.slice (some ⟨g,0*2,none⟩) (i - 0) (c - 0)),(25,.slice (some (if c=i+1 then ⟨g,0,none⟩ else (⟨g,0,none⟩:Addr).add ((i+1)*2))) (n - (i+1)) (c - (i+1))),(7,.int .i64 ((n:Nat):Int))]) ⟨⟨_,rfl,e2⟩,⟨_,rfl,e5⟩,⟨_,rfl,rfl⟩,trivial⟩ ?_
 have hg1:w1.heap[g]? = some (.cells (List.toArray cur) 48 (0,0)):=by rw [k1.block g (aV hg) (by simp)]; exact hg
 have hd1:CellsAt w1 (if c=i+1 then ⟨g,0,none⟩ else (⟨g,0,none⟩:Addr).add ((i+1)*2)) ds:=hd.keep (k1.block _ (by split <;> exact aV hg) (by simp))
 refine WO.v (R.AK (sl:=i) (sc:=c) rfl rfl Try.underlying26 hi0 hg1 (by rw [hz1]; exact hdl) hd1 h1d (by omega) (by rw [hz1]; omega)) rfl ?_
 refine WO.v (R.assign rfl) rfl ?_
 refine WO.nil ?_
 refine WX.next ?_
 have hg2:=setRow_heap w1 g _ (cur.take (i*ti.size)++ds++cur.drop (i*ti.size+ds.length)).toArray 48 _ hg1
 refine WC.seq ?_
 refine WC.region ?_
 refine WO.v (R.move rfl) rfl ?_
 refine WO.v (R.move rfl) rfl ?_
 refine WO.v (R.len rfl Try.underlying26) rfl ?_
 refine WO.v (R.move rfl) rfl ?_
 refine WO.v (R.tp rfl rfl rfl Try.underlying26 cd (dg (by omega)) (by omega) (by omega)) rfl ?_
 refine WO.v0 (R.Hz rfl (by omega) Try.underlying26 hi0 hz0 (by rw [xU]; simp [Value.oneCell']) hg2 (by rw [k_,hz1]; simp only [List.length_append,List.length_take,List.length_drop]; show _+1*2<=_; omega)) ?_
 refine WO.nil ?_
 refine WX.next ?_
 refine WC.seq ?_
 refine WC.region ?_
 refine WO.v (R.move rfl) rfl ?_
 refine WO.v (R.assign rfl) rfl ?_
 refine WO.nil ?_
 refine WX.next ?_
 refine WC.ret ?_
 refine WX.rV rfl rfl ?_
 exact ⟨rfl,w1,k1,rfl⟩
theorem qm (i j:Int) (l:List (den (.nm .opn))) (h:0<=i/\i<(l.length:Int)/\j=i+1):Sat Try.prog (aq aI) 83 [.c (.own 0),.c (.int i),.c (.int j)] [.row 48 (.nm .opn) l] ⟨[0<=i/\i<(l.length:Int)/\j=i+1],[.c (.own 0)],some [.row 48 (.nm .opn) (l.take i.toNat++l.drop j.toNat)],false⟩:=by
 refine ⟨⟨_,Try.func83,by decide,rfl⟩,fun G ρ w vs hs hR hvs=>?_⟩
 obtain ⟨hi0,hi1,rfl⟩:=h
 obtain ⟨i,rfl⟩:=Int.eq_ofNat_of_zero_le hi0
 have hlt:i<l.length:=by omega
 cases hvs with | cons h0 hvs=>
 cases hvs with | cons h1 hvs=>
 cases hvs with | cons h2 hvs=>
 cases hvs
 have h1:Pd (cx G ρ w) (.int (i:Int)) _:=h1
 have h2:Pd (cx G ρ w) (.int ((i:Int)+1)) _:=h2
 cases h1
 cases h2
 have h0:Rd (cx G ρ w) ρ (.own 0) _:=h0
 have hH:getO [AO.row 48 (.nm .opn) l] 0 = .row 48 (.nm .opn) l:=rfl
 obtain ⟨hshp,hlen⟩:=cJ hR hH
 rcases bk hR hH with ⟨_,h2⟩ | ⟨g,cap,cells,sp,hρ,hg,hpd,hsz,hcap,hmax⟩
 ·subst h2; simp at hlt
 obtain ⟨hnb,hil,hiH⟩:=jF hR hH
 have hz:(Sh.nm NT.opn).size=2:=rfl
 have hby:(Sh.nm NT.opn).bytes=16:=rfl
 have hcl:cells.length=l.length*2:=by rw [<- hpd.length,bC,hz]
 rw [hz,List.length_append] at hsz
 rw [hby] at hlen
 obtain ⟨ti,hi0,hz0,hz1,hz2⟩:=info_parts ub
 have hone:∀ u ∈ cells.drop ((i+1)*2),u.oneCell' = true:=fun u hu=>hpd.yb u (List.mem_of_mem_drop hu)
 have hd:CellsAt w (if cap=i+1 then ⟨g,0,none⟩ else (⟨g,0,none⟩:Addr).add ((i+1)*2)) (cells.drop ((i+1)*2)):=by
  split
  ·rw [List.drop_of_length_le (by omega)]; exact CellsAt.nil
  ·exact (bP hg).shift _
 have hv0:∀ v,Rd (cx G ρ w) ρ (.own 0) v->v = .slice (some ⟨g,0,none⟩) l.length cap:=fun v h0=>by
  rcases h0 with ⟨g',cap',len,z,h1,rfl⟩ | ⟨h1,a,rfl⟩
  ·rw [hρ] at h1; cases h1; rfl
  ·rw [hρ] at h1; cases h1
 obtain rfl:=hv0 _ h0
 have e0:((i:Int)+1)=((i+1:Nat):Int):=by omega
 rw [e0]
 refine (xD hlt hcap hmax hg (by rw [List.length_append]; omega) (by rw [List.length_drop,hcl]; omega) hd hone hi0 hz0 hz1).mono fun v w' ⟨e1,w1,k1,e2⟩=>?_
 subst e1
 have hq:i+(l.length - (i+1))=l.length - 1:=by omega
 rw [hq,hz1,xU] at e2
 rw [hq]
 have hzl:(l.take i++l.drop (i+1)).length=l.length - 1:=by rw [List.length_append,List.length_take,List.length_drop]; omega
 have hnl:(cells.take (i*2)++cells.drop ((i+1)*2)).length=(l.length - 1)*2:=by rw [List.length_append,List.length_take,List.length_drop]; omega
 have htk:((cells++sp).take (i*2)++cells.drop ((i+1)*2)++(cells++sp).drop (i*2+(cells.drop ((i+1)*2)).length)).take ((l.length - 1)*2)=cells.take (i*2)++cells.drop ((i+1)*2):=by
  rw [List.take_append_of_le_length (l₁:=cells) (by omega)]
  exact List.take_left' hnl
 have hr1l:((cells++sp).take (i*2)++cells.drop ((i+1)*2)++(cells++sp).drop (i*2+(cells.drop ((i+1)*2)).length)).length=cap*2:=by
  simp only [List.length_append,List.length_drop,List.length_take]
  omega
 generalize (cells++sp).take (i*2)++cells.drop ((i+1)*2)++(cells++sp).drop (i*2+(cells.drop ((i+1)*2)).length)=r1 at e2 htk hr1l
 rw [htk,List.append_assoc] at e2
 generalize hsp2:([.int .i64 0,.int .i64 0]:List Value)++List.drop ((l.length - 1)*2+([.int .i64 0,.int .i64 0]:List Value).length) r1=sp2 at e2
 have hlen2:(l.length - 1)*2+sp2.length=cap*2:=by
  rw [<- hsp2]
  simp only [List.length_append,List.length_cons,List.length_nil,List.length_drop]
  omega
 have hg1:w1.heap[g]? = some (.cells (List.toArray (cells++sp)) 48 (0,0)):=by rw [k1.block g (aV hg) (by simp)]; exact hg
 have hh:=setRow_heap _ g _ (cells.take (i*2)++cells.drop ((i+1)*2)++sp2).toArray 48 _ (setRow_heap w1 g _ r1.toArray 48 _ hg1)
 have hk:=((k1.sub (T:=[g]) (by simp)).step (Kp.setRow w1 g r1.toArray) (by simp)).step (Kp.setRow _ g (cells.take (i*2)++cells.drop ((i+1)*2)++sp2).toArray) (by simp)
 subst e2
 obtain ⟨k2,k3,_⟩:=hL (ro:=vT 0) (s':=.nm .opn) (e':=48) (zs:=l.take i++l.drop (i+1)) hR hH ⟨rfl,rfl⟩ hk (fun b hb=>⟨_,hρ,by rw [List.mem_singleton] at hb; subst hb; rfl⟩) (r':=.row g cap (l.take i++l.drop (i+1)).length (Sh.nm NT.opn).size) (fun b hb=>by
  cases hb; exact .inl ⟨_,hρ,rfl⟩) (fun hle=>⟨hshp,by rw [hzl,hby]; omega,.inr ⟨g,cap,_,sp2,rfl,hh,by
   rw [List.flatMap_append]; exact ((bt hpd i).append (bH hpd (i+1))).carry hle,by rw [List.length_append,hnl,hz]; exact hlen2,by omega,hmax⟩⟩)
 exact ⟨[_],rfl,_,k3,k2.ext,k2.bx,.cons (.inl ⟨g,cap,_,_,List.getElem?_set_self hil,by rw [hzl]⟩) .nil,fun hb=>by cases hb⟩
end Go.Proofs.Ytdggohppeeaipaa
namespace Go.Proofs.Ytdggohppeeaipaa
open Go.RowKit
def nq {β:Type} (z:β) (k:Int):List (Int × β)->β
 | []=>z
 | p :: r=>if k=p.1 then p.2 else nq z k r
end Go.Proofs.Ytdggohppeeaipaa
namespace Go.Proofs.Ytdggohppeeaipaa
open Go.RowKit
theorem aL {α:Type} {l:List α} {k:Nat} {x:α} (hx:l[k]? = some x):l.take (k+1)=l.take k++[x]:=by
 rw [List.take_add_one,hx]; rfl
end Go.Proofs.Ytdggohppeeaipaa
namespace Go.Proofs.Ytdggohppeeaipaa
open Go.RowKit
end Go.Proofs.Ytdggohppeeaipaa
namespace Go.Proofs.Ytdggohppeeaipaa
open Go.RowKit
def bU (n a b:Int):Bool:=decide (a<=n) && decide (n<=b)
def ak {α:Type} (key:α->Int) (most:Int):Int->List α->Bool
 | _,[]=>true
 | a,x :: r=>bU (key x) (a+1) most && ak key most (key x) r
def bm {α:Type} (key:α->Int) (a:Int) (l:List α):Int:=l.foldl (fun _ x=>key x) a
theorem fM {α:Type} {key:α->Int} {most:Int} {x:α}:∀ (p:List α) (a:Int),ak key most a (p++[x])=(ak key most a p && bU (key x) (bm key a p+1) most)
 | [],a=>by simp [ak,bm]
 | y :: p,a=>by
  rw [List.cons_append,ak,ak,fM p,Bool.and_assoc]; rfl
theorem gB {α:Type} {key:α->Int} {most:Int} (q:List α):∀ (p:List α) (a:Int),ak key most a (p++q)=true->ak key most a p=true
 | [],a,_=>rfl
 | y :: p,a,h=>by
  rw [List.cons_append,ak,Bool.and_eq_true] at h
  rw [ak,Bool.and_eq_true]
  exact ⟨h.1,gB q p _ h.2⟩
theorem bM {α:Type} {key:α->Int} {a:Int} {l:List α} {k:Nat} {x:α} (hx:l[k]? = some x):key x=bm key a (l.take (k+1)):=by
 rw [aL hx,bm,List.foldl_append]; rfl
theorem j_ {α:Type} {key:α->Int} {most a:Int} {l:List α} {k:Nat} {x:α} (h:ak key most a (l.take k)=true) (hx:l[k]? = some x) (h1:bm key a (l.take k)<key x) (h2:key x<=most):ak key most a (l.take (k+1))=true:=by
 rw [aL hx,fM,h,Bool.true_and,bU,Bool.and_eq_true,decide_eq_true_eq,decide_eq_true_eq]
 exact ⟨by omega,h2⟩
theorem jX {α:Type} {key:α->Int} {most a:Int} {l:List α} {k:Nat} {x:α} (hx:l[k]? = some x) (h:¬ (bm key a (l.take k)<key x/\key x<=most)):ak key most a l=false:=by
 cases hr:ak key most a l with
 | false=>rfl
 | true=>
  have h1:=gB (l.drop (k+1)) (l.take (k+1)) a (by rw [List.take_append_drop]; exact hr)
  rw [aL hx,fM,Bool.and_eq_true,bU,Bool.and_eq_true,decide_eq_true_eq,decide_eq_true_eq] at h1
  exact absurd ⟨by omega,h1.2.2⟩ h
theorem jT {α:Type} {key:α->Int} {most a:Int} {l:List α} {k:Nat} (h:ak key most a (l.take k)=true) (hk:l.length<=k):ak key most a l=true:=by
 rwa [List.take_of_length_le hk] at h
def di (l:List Int):Bool:=(decide ((1:Int)<=((l.length:Nat):Int)) && decide (((l.length:Nat):Int)<=8)) && ak id 64 0 l
theorem ju {l:List Int} {k:Nat} {x:Int} (hx:l[k]? = some x) (h:¬ (bm id 0 (l.take k)<x/\x<=64)):false=di l:=by
 rw [di,jX (key:=id) hx h,Bool.and_false]
theorem gY {l:List Int} {k:Nat} (h:ak id 64 0 (l.take k)=true) (hk:l.length<=k) (hl:1<=l.length/\l.length<=8):true=di l:=by
 rw [di,jT h hk,Bool.and_true]; symm; rw [Bool.and_eq_true,decide_eq_true_eq,decide_eq_true_eq]; omega
theorem mI {l:List Int} (hl:¬ (1<=l.length/\l.length<=8)):false=di l:=by
 symm
 rw [di,Bool.and_eq_false_iff]; left
 rw [Bool.and_eq_false_iff,decide_eq_false_iff_not,decide_eq_false_iff_not]; omega
end Go.Proofs.Ytdggohppeeaipaa
namespace Go.Proofs.Ytdggohppeeaipaa
open Go.RowKit
def bJ (x:Sess):Bool:=(bU x.seq 0 1048576 && bU x.last.code 0 99) && bU x.last.n 0 1048576
def bN (x:Opn):Bool:=bU x.client 1 8
theorem dm {α:Type} {p:α->Bool} {l:List α} {k:Nat} {x:α} (h:(l.take k).all p=true) (hx:l[k]? = some x) (hp:p x=true):(l.take (k+1)).all p=true:=by
 rw [aL hx,List.all_append,h]; simp [hp]
theorem yp {α:Type} {p:α->Bool} {l:List α} {k:Nat} {x:α} (hx:l[k]? = some x) (hp:p x=false):l.all p=false:=by
 rw [List.all_eq_false]; exact ⟨x,List.mem_of_getElem? hx,by simp [hp]⟩
theorem zr {α:Type} {p:α->Bool} {l:List α} {k:Nat} (h:(l.take k).all p=true) (hk:l.length<=k):l.all p=true:=by
 rwa [List.take_of_length_le hk] at h
end Go.Proofs.Ytdggohppeeaipaa
namespace Go.Proofs.Ytdggohppeeaipaa
open Go.RowKit
def aT (n:Nat):Nat:=if h:n<128 then 1 else aT (n / 128)+1
termination_by n
decreasing_by omega
theorem lU {n:Nat} (h:¬ n<128):aT n=aT (n / 128)+1:=by rw [aT,dif_neg h]
theorem gO {n:Nat} (h:n<128):aT n=1:=by rw [aT,dif_pos h]
theorem gu (n:Nat):1<=aT n:=by rw [aT]; split <;> omega
theorem pT:∀ (k n:Nat),n<128 ^ (k+1)->aT n<=k+1
 | 0,n,h=>by rw [gO (by simpa using h)]; omega
 | k+1,n,h=>by
  by_cases hn:n<128
  ·rw [gO hn]; omega
  ·rw [lU hn]
   have:=pT k (n / 128) (by rw [Nat.div_lt_iff_lt_mul (by omega),<- Nat.pow_succ]; exact h)
   omega
theorem kU {n:Nat} (h:n<18446744073709551616):aT n<=10:=pT 9 n (Nat.lt_of_lt_of_le h (by decide))
def BX (n i:Nat):UInt8:=UInt8.ofNat (n / 128 ^ i) ||| 128
def dq (n k:Nat):List UInt8:=(List.range k).map (BX n)++List.replicate (aT n - k) 0
def mA (n:Nat):List UInt8:=(dq n (aT n)).set (aT n - 1) (BX n (aT n - 1) &&& 127)
theorem eX {n k:Nat} (h:k<=aT n):(dq n k).length=aT n:=by simp [dq]; omega
theorem rL {n k:Nat} (h:k<aT n):(dq n k).set k (BX n k)=dq n (k+1):=by
 unfold dq
 rw [List.set_append_right _ _ (by simp),List.range_succ,List.map_append,List.append_assoc]
 congr 1
 obtain ⟨j,hj⟩:∃ j,aT n - k=j+1:=⟨aT n - k - 1,by omega⟩
 rw [hj,show aT n - (k+1)=j by omega]
 simp [List.replicate_succ]
theorem gH (n:Nat):List.replicate (aT n) (0:UInt8)=dq n 0:=by simp [dq]
theorem sx {n:Nat} {x:UInt8} (h:(dq n (aT n))[aT n - 1]? = some x):x=BX n (aT n - 1):=by
 have hp:=gu n
 unfold dq at h
 rw [List.getElem?_append_left (by simp; omega)] at h
 simp only [List.getElem?_map,List.getElem?_range (show aT n - 1<aT n by omega),Option.map_some,Option.some.injEq] at h
 exact h.symm
theorem div_pow {n k:Nat}:n / 128 ^ k / 2 ^ 7=n / 128 ^ (k+1):=by show n / 128 ^ k / 128=_; rw [Nat.div_div_eq_div_mul,Nat.pow_succ]
theorem wP (n:Nat):(mA n).length=aT n:=by rw [mA,List.length_set,eX (Nat.le_refl _)]
theorem l_ {n:Nat} (h:n<18446744073709551616):(mA n).length<=10:=by rw [wP]; exact kU h
def eb (l:List Int):List UInt8:=l.flatMap fun x=>mA x.toNat
theorem jf {l:List Int} {k:Nat} {x:Int} (hx:l[k]? = some x):eb (l.take k)++mA x.toNat=eb (l.take (k+1)):=by
 rw [aL hx]; simp [eb]
theorem wV {l:List Int} (h:∀ x ∈ l,x<=64):(eb l).length<=10*l.length:=by
 induction l with
 | nil=>simp [eb]
 | cons a l ih=>
  have h1:=ih fun x hx=>h x (List.mem_cons_of_mem _ hx)
  have h2:=l_ (n:=a.toNat) (by have:=h a (by simp); omega)
  simp only [eb,List.flatMap_cons,List.length_append,List.length_cons] at *
  omega
theorem rZ {l:List Int} (h:di l=true):∀ x ∈ l,0<x/\x<=64:=by
 rw [di,Bool.and_eq_true] at h
 have:∀ (l:List Int) (a:Int),0<=a->ak id 64 a l=true->∀ x ∈ l,0<x/\x<=64:=by
  intro l
  induction l with
  | nil=>intro a _ _ x hx; cases hx
  | cons y l ih=>
   intro a ha hl x hx
   rw [ak,Bool.and_eq_true,bU,Bool.and_eq_true,decide_eq_true_eq,decide_eq_true_eq] at hl
   have h1:a+1<=y:=hl.1.1
   have h2:y<=64:=hl.1.2
   rcases List.mem_cons.1 hx with rfl | hx
   ·omega
   ·exact ih (id y) (by show 0<=y; omega) hl.2 x hx
 exact this l 0 (by omega) h.2
theorem oY {l:List Int} (h:di l=true):1<=l.length/\l.length<=8:=by
 rw [di,Bool.and_eq_true,Bool.and_eq_true,decide_eq_true_eq,decide_eq_true_eq] at h
 omega
def fj (l:List Int):List UInt8:=if di l then eb l else []
def cW (l:List Int):Int:=if di l then 0 else 1
theorem lL {l:List Int} {k:Nat} (hr:di l=true) (hk:l.length<=k):eb (l.take k)=fj l:=by rw [List.take_of_length_le hk,fj,if_pos hr]
theorem jh {l:List Int} (hr:di l=false):[]=fj l:=by rw [fj,hr]; rfl
theorem eB {l:List Int} (hr:di l=true):0=cW l:=by rw [cW,hr]; rfl
theorem fl {l:List Int} (hr:di l=false):1=cW l:=by rw [cW,hr]; rfl
end Go.Proofs.Ytdggohppeeaipaa
namespace Go.Proofs.Ytdggohppeeaipaa
open Go.RowKit
def bg (v t:Int) (x:Snap):Bool:=((decide (cW x.chunks=0) && bU x.set 1 8) && (!x.held || decide (2<=v))) && decide (((x.tag.b.length:Nat):Int)<=t)
def dB (v:Int):Int:=if v<3 then 0 else 16
def dr (s:State) (v:Int):Bool:=!(decide (16<((s.snaps.length:Nat):Int)) || !(ak Snap.id (s.next - 1) 0 s.snaps)) && s.snaps.all (bg v (dB v))
def cV (s:State) (v:Int):Bool:=((bU s.version 1 3 && bU s.next 1 1048576) && bU s.keep 0 8) && bU s.quota 0 (if v<3 then 0 else 64)
def kZ (s:State):Bool:=ak Sess.client 8 0 s.sess && s.sess.all bJ
def jB (s:State):Bool:=ak Opn.set 8 0 s.opens && s.opens.all bN
def mayF (s:State) (v:Int):Int:=if !(bU v 1 3) then 1 else if (((!cV s v || !kZ s) || !jB s) || !dr s v) then 6 else 0
end Go.Proofs.Ytdggohppeeaipaa
namespace Go.Proofs.Ytdggohppeeaipaa
open Go.RowKit
end Go.Proofs.Ytdggohppeeaipaa
namespace Go.Proofs.Ytdggohppeeaipaa
open Go.RowKit
end Go.Proofs.Ytdggohppeeaipaa
namespace Go.Proofs.Ytdggohppeeaipaa
open Go.RowKit
end Go.Proofs.Ytdggohppeeaipaa
namespace Go.Proofs.Ytdggohppeeaipaa
open Go.RowKit
def cN (k:Int):Int:=nq 0 k [((1:Int),(1:Int)),((2:Int),(1:Int)),((3:Int),(1:Int)),((4:Int),(1:Int)),((5:Int),(1:Int)),((6:Int),(1:Int)),((7:Int),(1:Int)),((8:Int),(1:Int)),((9:Int),(2:Int)),((10:Int),(2:Int)),((11:Int),(3:Int)),((12:Int),(3:Int))]
theorem Cc {k:Int} (h:1<=k/\k<=12):cN k=if k<=8 then 1 else if k<=10 then 2 else 3:=by
 have:k=1\/k=2\/k=3\/k=4\/k=5\/k=6\/k=7\/k=8\/k=9\/k=10\/k=11\/k=12:=by omega
 rcases this with rfl | rfl | rfl | rfl | rfl | rfl | rfl | rfl | rfl | rfl | rfl | rfl <;> rfl
theorem Ai {k:Int} (h:¬ (1<=k/\k<=12)):cN k=0:=by
 unfold cN
 simp only [nq]
 repeat rw [if_neg (by omega)]
theorem mJ {n a b:Int} (h:bU n a b=true):a<=n/\n<=b:=by unfold bU at h; rw [Bool.and_eq_true,decide_eq_true_eq,decide_eq_true_eq] at h; exact h
theorem Hx {n a b:Int} (h:bU n a b=false):¬ (a<=n/\n<=b):=fun h2=>by
 have:bU n a b=true:=by unfold bU; rw [Bool.and_eq_true,decide_eq_true_eq,decide_eq_true_eq]; exact h2
 rw [h] at this; cases this
def gQ (c:Command):Command:={ c with chunks:=c.chunks.take 12,text:=c.text.cut 0 40 }
def eS (x:Int) (l:List Int):Int:=match l.findIdx? (fun y=>decide (x=y)) with | some i=>(i:Int) | none=>-1
theorem xg {x y:Int} {l:List Int} {k:Nat} (h:∀ j y,j<k->l[j]? = some y->¬ x=y) (hy:l[k]? = some y) (hxy:x=y):(k:Int)=eS x l:=by
 have:l.findIdx? (fun y=>decide (x=y))=some k:=by
  obtain ⟨hk,rfl⟩:=List.getElem?_eq_some_iff.1 hy
  rw [List.findIdx?_eq_some_iff_getElem]
  exact ⟨hk,decide_eq_true hxy,fun j hj=>by simpa using h j _ hj (List.getElem?_eq_getElem (by omega))⟩
 simp [eS,this]
theorem uu (x:Int) (l:List Int):decide (0<=eS x l)=l.contains x:=by
 unfold eS
 cases h:l.findIdx? (fun y=>decide (x=y)) with
 | none=>
  rw [List.findIdx?_eq_none_iff] at h
  have:l.contains x=false:=by
   rw [<- Bool.not_eq_true,List.contains_iff_mem]
   intro hm; have:=h x hm; simp at this
  rw [this]; rfl
 | some i=>
  rw [List.findIdx?_eq_some_iff_getElem] at h
  obtain ⟨hi,hp,_⟩:=h
  have:l.contains x=true:=by
   rw [List.contains_iff_mem,of_decide_eq_true hp]; exact List.getElem_mem hi
  rw [this]; simp
def fE (n most:Int) (named:Bool):Bool:=if named then (decide (1<=n) && decide (n<=most)) else decide (n=0)
def kN (k:Int):Int × Int:=nq (0,0) k [((6:Int),((0:Int),(8:Int))),((8:Int),((2:Int),(3:Int))),((12:Int),((0:Int),(64:Int)))]
def Gd (c:Command):Bool:=if c.kind=3 then di c.chunks else decide (((c.chunks.length:Nat):Int)=0)
def Ge (c:Command):Bool:=if c.kind=11 then decide (((c.text.b.length:Nat):Int)<=16) else decide (c.text=⟨[]⟩)
def eg (c:Command):Bool:=((((((((decide ((kN c.kind).1<=c.n) && decide (c.n<=(kN c.kind).2)) && Gd c) && Ge c) && fE c.client 8 (!([(8:Int)].contains c.kind))) && fE c.seq 1048576 (!([(1:Int),8].contains c.kind))) && fE c.set 8 ([(2:Int),3,4].contains c.kind)) && fE c.id 1048576 ([(5:Int),7,9,10,11].contains c.kind)))
def bD (c:Command) (v:Int):Int:=if !(bU v 1 3) || decide (cN c.kind=0) then 1 else if v<cN c.kind then 10 else if !eg c then 1 else 0
end Go.Proofs.Ytdggohppeeaipaa
namespace Go.Proofs.Ytdggohppeeaipaa
open Go.RowKit
end Go.Proofs.Ytdggohppeeaipaa
namespace Go.Proofs.Ytdggohppeeaipaa
open Go.RowKit
end Go.Proofs.Ytdggohppeeaipaa
namespace Go.Proofs.Ytdggohppeeaipaa
open Go.RowKit
def jv (k:Int):Bool:=decide (1<=k) && decide (k<=3)
theorem yR {s:Str} {n:Nat} (h:(s.b.length:Int)<=n):s=⟨s.b.take n⟩:=by
 cases s; rw [List.take_of_length_le (by simpa using h)]
theorem El {l:List Int} {k:Nat} {x:Int} (hx:l[k]? = some x):x=bm id 0 (l.take (k+1)):=bM (key:=id) hx
theorem xV {l:List Int} {k:Nat} {x:Int} (h:ak id 64 0 (l.take k)=true) (hx:l[k]? = some x) (h1:bm id 0 (l.take k)<x) (h2:x<=64):ak id 64 0 (l.take (k+1))=true:=j_ (key:=id) h hx (by dsimp only [id]; omega) (by dsimp only [id]; omega)
def FI (l:List Int):List (Nat × LI):=[(5,{ σ:=Nat,F:=fun k=>([(3,one (.int (bm id 0 (l.take k)))),(14,one (.fz .int (l))),(15,one (.int (l).length)),(16,one (.int k))],[]),J:=fun k=>k<=l.length/\ak id 64 0 (l.take k)=true/\1<=l.length/\l.length<=8,μ:=fun k=>(l).length - k })]
theorem BC (k:Int) (r0:Bool):dx aI kj [] Try.f46 [.c (.int (k))] [] [.c (.bool (.atom (r0)))]=(I64 k->(decide ((1:Int)<=k) && decide (k<=(3:Int)))=r0):=by kernel_rfl
theorem Az (k:Int):Sat Try.prog (aq aI) 46 [.c (.int (k))] [] ⟨[],[.c (.bool (.atom ((jv k))))],none,false⟩:=by
 refine aX dj [] Try.func46 (by decide) (by kernel_rfl) ?_
 rw [BC]
 grind [jv]
theorem FU (l:List Int) (r0:Bool):dx aI kj (FI l) Try.f76 [.c (.fz .int (l))] [] [.c (.bool (.atom (r0)))]=((fun (q3:Int)=>(fun (q2:Int)=>(fun (q1:Nat)=>(fun (q0:Prop)=>l.length*(8:Nat)<=(140737488355328:Nat)->(q3<(1:Int)\/(8:Int)<q3->false=r0)/\((1:Int)<=q3/\q3<=(8:Int)->∃ (s0:Nat),(q2=bm id q2 (List.take s0 l)/\l=l/\q3=(↑q1:Int)/\q2=(↑s0:Int))/\(s0<=q1/\ak id (64:Int) q2 (List.take s0 l)=true/\q0)/\∀ (s:Nat),s<=q1/\ak id (64:Int) q2 (List.take s l)=true/\q0->((↑s:Int)<(↑q1:Int)->q2<=(↑s:Int)/\(↑s:Int)<q3/\∀ (x:Int),l[s]? = some x->I64 x->(x<=bm id q2 (List.take s l)\/(64:Int)<x->false=r0)/\(bm id q2 (List.take s l)<x/\x<=(64:Int)->I64 ((↑s:Int)+(1:Int))/\∃ (s':Nat),(x=bm id q2 (List.take s' l)/\l=l/\(↑q1:Int)=(↑q1:Int)/\(↑s:Int)+(1:Int)=(↑s':Int))/\(s' <= q1/\ak id (64:Int) q2 (List.take s' l)=true/\q0)/\q1 - s' < q1 - s))/\((↑q1:Int)<=(↑s:Int)->true=r0))) ((1:Nat)<=q1/\q1<=(8:Nat))) l.length) (0:Int)) (↑l.length:Int)):=by kernel_rfl
theorem Fw (l:List Int):Sat Try.prog (aq aI) 76 [.c (.fz .int (l))] [] ⟨[],[.c (.bool (.atom ((di l))))],none,false⟩:=by
 refine aX dj (FI l) Try.func76 (by decide) (by kernel_rfl) ?_
 rw [FU]
 (repeat' (first | refine And.intro ?_ ?_ | intro))
 all_goals try (grind [mI,ju,gY,El,xV,ak,bm])
 all_goals (refine ⟨0,?_⟩; (repeat' (first | refine And.intro ?_ ?_ | intro)))
 all_goals try (grind [mI,ju,gY,El,xV,ak,bm])
 all_goals (refine ⟨‹Nat› + 1,?_⟩; (repeat' (first | refine And.intro ?_ ?_ | intro)))
 all_goals grind [mI,ju,gY,El,xV,ak,bm]
theorem EH (x:Int) (r0:Int):dx aI kj [] Try.f45 [.c (.int (x))] [] [.c (.int (r0))]=((fun (q0:Option (den Sh.int))=>I64 x->((fun (j:Int)=>if j=(12:Int) then some (3:Int) else (fun (j:Int)=>if j=(11:Int) then some (3:Int) else (fun (j:Int)=>if j=(10:Int) then some (2:Int) else (fun (j:Int)=>if j=(9:Int) then some (2:Int) else (fun (j:Int)=>if j=(8:Int) then q0 else (fun (j:Int)=>if j=(7:Int) then q0 else (fun (j:Int)=>if j=(6:Int) then q0 else (fun (j:Int)=>if j=(5:Int) then q0 else (fun (j:Int)=>if j=(4:Int) then q0 else (fun (j:Int)=>if j=(3:Int) then q0 else (fun (j:Int)=>if j=(2:Int) then q0 else (fun (j:Int)=>if j=(1:Int) then q0 else (fun (_:Int)=>none) j) j) j) j) j) j) j) j) j) j) j) j) x).getD (dflt Sh.int)=r0) (some (1:Int))):=by kernel_rfl
theorem Ez (x:Int):Sat Try.prog (aq aI) 45 [.c (.int (x))] [] ⟨[],[.c (.int ((cN x)))],none,false⟩:=by
 refine aX dj [] Try.func45 (by decide) (by kernel_rfl) ?_
 rw [EH]
 intro _
 simp only [cN,nq]
 by_cases h:1<=x/\x<=12
 ·have h2:x=1\/x=2\/x=3\/x=4\/x=5\/x=6\/x=7\/x=8\/x=9\/x=10\/x=11\/x=12:=by omega
  rcases h2 with rfl | rfl | rfl | rfl | rfl | rfl | rfl | rfl | rfl | rfl | rfl | rfl <;> rfl
 ·have h1:¬ x=1:=by omega
  have h2:¬ x=2:=by omega
  have h3:¬ x=3:=by omega
  have h4:¬ x=4:=by omega
  have h5:¬ x=5:=by omega
  have h6:¬ x=6:=by omega
  have h7:¬ x=7:=by omega
  have h8:¬ x=8:=by omega
  have h9:¬ x=9:=by omega
  have h10:¬ x=10:=by omega
  have h11:¬ x=11:=by omega
  have h12:¬ x=12:=by omega
  simp [h1,h2,h3,h4,h5,h6,h7,h8,h9,h10,h11,h12,dflt]
theorem Ft (s:Span) (k:Int) (r0:Bool):dx aI kj [] Try.f75 [.agg (cellsOf (.nm .span) s),.c (.int (k))] [] [.c (.bool (.atom (r0)))]=(I64 s.lo->I64 s.hi->I64 k->(decide (s.lo<=k) && decide (k<=s.hi))=r0):=by kernel_rfl
theorem FD (s:Span) (k:Int):Sat Try.prog (aq aI) 75 [.agg (cellsOf (.nm .span) s),.c (.int (k))] [] ⟨[],[.c (.bool (.atom ((decide (s.lo<=k) && decide (k<=s.hi)))))],none,false⟩:=by
 refine aX dj [] Try.func75 (by decide) (by kernel_rfl) ?_
 rw [Ft]
 grind
theorem yw (n:Int) (a:Int) (b:Int) (r0:Bool):dx aI kj [] Try.f36 [.c (.int (n)),.c (.int (a)),.c (.int (b))] [] [.c (.bool (.atom (r0)))]=(I64 n->I64 a->I64 b->(decide (a<=n) && decide (n<=b))=r0):=by kernel_rfl
theorem wg (n:Int) (a:Int) (b:Int):Sat Try.prog (aq aI) 36 [.c (.int (n)),.c (.int (a)),.c (.int (b))] [] ⟨[],[.c (.bool (.atom ((bU n a b))))],none,false⟩:=by
 refine aX dj [] Try.func36 (by decide) (by kernel_rfl) ?_
 rw [yw]
 grind [bU]
theorem Fb (n:Int) (a:Int) (b:Int) (r0:Bool):dx aI kj [] Try.f17 [.c (.int (n)),.c (.int (a)),.c (.int (b))] [] [.c (.bool (.atom (r0)))]=(I64 n->I64 a->I64 b->(decide (a<=n) && decide (n<=b))=r0):=by kernel_rfl
theorem FQ (n:Int) (a:Int) (b:Int):Sat Try.prog (aq aI) 17 [.c (.int (n)),.c (.int (a)),.c (.int (b))] [] ⟨[],[.c (.bool (.atom ((bU n a b))))],none,false⟩:=by
 refine aX dj [] Try.func17 (by decide) (by kernel_rfl) ?_
 rw [Fb]
 grind [bU]
theorem rY (x:Sess) (r0:Int):dx aI kj [] Try.f31 [.agg (cellsOf (.nm .sess) x)] [] [.c (.int (r0))]=(I64 x.client->I64 x.seq->I64 x.last.code->I64 x.last.n->x.client=r0):=by kernel_rfl
theorem rS (x:Sess):Sat Try.prog (aq aI) 31 [.agg (cellsOf (.nm .sess) x)] [] ⟨[],[.c (.int ((x.client)))],none,false⟩:=by
 refine aX dj [] Try.func31 (by decide) (by kernel_rfl) ?_
 rw [rY]
 grind
theorem BV (x:Opn) (r0:Int):dx aI kj [] Try.f41 [.agg (cellsOf (.nm .opn) x)] [] [.c (.int (r0))]=(I64 x.set->I64 x.client->x.set=r0):=by kernel_rfl
theorem Bu (x:Opn):Sat Try.prog (aq aI) 41 [.agg (cellsOf (.nm .opn) x)] [] ⟨[],[.c (.int ((x.set)))],none,false⟩:=by
 refine aX dj [] Try.func41 (by decide) (by kernel_rfl) ?_
 rw [BV]
 grind
theorem DY (x:Snap) (r0:Int):dx aI kj [] Try.f68 [.agg (cellsOf (.nm .snap) x)] [] [.c (.int (r0))]=(I64 x.id->I64 x.set->x.chunks.length*(8:Nat)<=(140737488355328:Nat)->x.tag.b.length<=(140737488355328:Nat)->x.id=r0):=by kernel_rfl
theorem Et (x:Snap):Sat Try.prog (aq aI) 68 [.agg (cellsOf (.nm .snap) x)] [] ⟨[],[.c (.int ((x.id)))],none,false⟩:=by
 refine aX dj [] Try.func68 (by decide) (by kernel_rfl) ?_
 rw [DY]
 grind
theorem uQ (e:Int) (r0:Reply):dx aI kj [] Try.f23 [.c (.int (e))] [] [.agg (cellsOf (.nm .reply) r0)]=(I64 e->e=r0.code/\(0:Int)=r0.n):=by kernel_rfl
theorem uN (e:Int):Sat Try.prog (aq aI) 23 [.c (.int (e))] [] ⟨[],[.agg (cellsOf (.nm .reply) (⟨e,0⟩))],none,false⟩:=by
 refine aX dj [] Try.func23 (by decide) (by kernel_rfl) ?_
 rw [uQ]
 grind
def wj:cu:=(bV 23 (bO (aj (kC cI) aR) aQ fun (e,_) (_)=>⟨[],[.agg (cellsOf (.nm .reply) (⟨e,0⟩))],none,false⟩) (bV 68 (bO (aj (kT (.nm .snap)) aR) aQ fun (x,_) (_)=>⟨[],[.c (.int ((x.id)))],none,false⟩) (bV 41 (bO (aj (kT (.nm .opn)) aR) aQ fun (x,_) (_)=>⟨[],[.c (.int ((x.set)))],none,false⟩) (bV 31 (bO (aj (kT (.nm .sess)) aR) aQ fun (x,_) (_)=>⟨[],[.c (.int ((x.client)))],none,false⟩) (bV 17 (bO (aj (kC cI) (aj (kC cI) (aj (kC cI) aR))) aQ fun (n,a,b,_) (_)=>⟨[],[.c (.bool (.atom ((bU n a b))))],none,false⟩) (bV 36 (bO (aj (kC cI) (aj (kC cI) (aj (kC cI) aR))) aQ fun (n,a,b,_) (_)=>⟨[],[.c (.bool (.atom ((bU n a b))))],none,false⟩) (bV 75 (bO (aj (kT (.nm .span)) (aj (kC cI) aR)) aQ fun (s,k,_) (_)=>⟨[],[.c (.bool (.atom ((decide (s.lo<=k) && decide (k<=s.hi)))))],none,false⟩) (bV 45 (bO (aj (kC cI) aR) aQ fun (x,_) (_)=>⟨[],[.c (.int ((cN x)))],none,false⟩) (bV 76 (bO (aj (kC (cL .int)) aR) aQ fun (l,_) (_)=>⟨[],[.c (.bool (.atom ((di l))))],none,false⟩) (bV 46 (bO (aj (kC cI) aR) aQ fun (k,_) (_)=>⟨[],[.c (.bool (.atom ((jv k))))],none,false⟩) kj))))))))))
theorem ky:aP Try.prog (aq aI) wj:=(aC (aB (ae (aw ax) al) ao fun (e,_) (_) _=>uN e ) (aC (aB (ae b_ al) ao fun (x,_) (_) _=>Et x ) (aC (aB (ae b_ al) ao fun (x,_) (_) _=>Bu x ) (aC (aB (ae b_ al) ao fun (x,_) (_) _=>rS x ) (aC (aB (ae (aw ax) (ae (aw ax) (ae (aw ax) al))) ao fun (n,a,b,_) (_) _=>FQ n a b ) (aC (aB (ae (aw ax) (ae (aw ax) (ae (aw ax) al))) ao fun (n,a,b,_) (_) _=>wg n a b ) (aC (aB (ae b_ (ae (aw ax) al)) ao fun (s,k,_) (_) _=>FD s k ) (aC (aB (ae (aw ax) al) ao fun (x,_) (_) _=>Ez x ) (aC (aB (ae (aw cg) al) ao fun (l,_) (_) _=>Fw l ) (aC (aB (ae (aw ax) al) ao fun (k,_) (_) _=>Az k ) dj))))))))))
end Go.Proofs.Ytdggohppeeaipaa
namespace Go.Proofs.Ytdggohppeeaipaa
open Go.RowKit
theorem av {n:Int} (h1:-9223372036854775808<=n) (h2:n<=9223372036854775807):I64 n:=⟨h1,h2⟩
def ah {α:Type} (key:α->Int) (want:Int) (l:List α):Int:=match l.findIdx? (fun x=>decide (key x=want)) with
 | some i=>(i:Int)
 | none=>-1
section
variable {α:Type} {key:α->Int} {want:Int} {l:List α} {k:Nat} {x:α}
theorem gW:ah key want l = -1↔∀ x ∈ l,¬ key x=want:=by
 unfold ah
 cases h:l.findIdx? (fun x=>decide (key x=want)) with
 | none=>simpa using h
 | some i=>
  rw [List.findIdx?_eq_some_iff_getElem] at h
  obtain ⟨h1,h2,_⟩:=h
  simp only [decide_eq_true_eq] at h2
  constructor
  ·intro h; dsimp only at h; omega
  ·intro h; exact absurd h2 (h _ (List.getElem_mem h1))
theorem dQ:ah key want (l.take 0) = -1:=rfl
theorem dw (h:ah key want (l.take k) = -1) (hx:l[k]? = some x) (hn:¬ key x=want):ah key want (l.take (k+1)) = -1:=by
 rw [gW] at h ⊢
 rw [aL hx]
 intro y hy
 rcases List.mem_append.1 hy with hy | hy
 ·exact h y hy
 ·rw [List.mem_singleton] at hy; subst hy; exact hn
theorem dk (h:ah key want (l.take k) = -1) (hk:l.length<=k):-1=ah key want l:=by
 rw [List.take_of_length_le hk] at h; exact h.symm
theorem cM (h:ah key want (l.take k) = -1) (hx:l[k]? = some x) (he:key x=want):(k:Int)=ah key want l:=by
 have:l.findIdx? (fun x=>decide (key x=want))=some k:=by
  rw [gW] at h
  obtain ⟨hk,rfl⟩:=List.getElem?_eq_some_iff.1 hx
  rw [List.findIdx?_eq_some_iff_getElem]
  refine ⟨hk,decide_eq_true he,fun j hj=>?_⟩
  have:=h l[j] (by rw [List.mem_take_iff_getElem]; exact ⟨j,by omega,rfl⟩)
  simpa using this
 rw [ah,this]
end
def ly (l:List Sess) (want:Int):List (Nat × LI):=[(2,{ σ:=Nat,F:=fun k=>([(1,one (.int (want))),(2,one (.fn 31 [] [])),(9,one (.fz (.nm .sess) (l))),(10,one (.int (l).length)),(11,one (.int k))],[]),J:=fun k=>k<=l.length/\ah Sess.client want (l.take k) = -1,μ:=fun k=>(l).length - k })]
def lF (l:List Opn) (want:Int):List (Nat × LI):=[(2,{ σ:=Nat,F:=fun k=>([(1,one (.int (want))),(2,one (.fn 41 [] [])),(9,one (.fz (.nm .opn) (l))),(10,one (.int (l).length)),(11,one (.int k))],[]),J:=fun k=>k<=l.length/\ah Opn.set want (l.take k) = -1,μ:=fun k=>(l).length - k })]
def lr (l:List Snap) (want:Int):List (Nat × LI):=[(2,{ σ:=Nat,F:=fun k=>([(1,one (.int (want))),(2,one (.fn 68 [] [])),(9,one (.fz (.nm .snap) (l))),(10,one (.int (l).length)),(11,one (.int k))],[]),J:=fun k=>k<=l.length/\ah Snap.id want (l.take k) = -1,μ:=fun k=>(l).length - k })]
theorem pC (l:List Sess) (want:Int) (r0:Int):dx aI wj (ly l want) Try.f30 [.c (.fz (.nm .sess) (l)),.c (.int (want)),.c (.fn 31 [] [])] [] [.c (.int (r0))]=((fun (q1:Int)=>(fun (q0:Nat)=>l.length*(32:Nat)<=(140737488355328:Nat)->I64 want->∃ (s0:Nat),(want=want/\l=l/\(↑l.length:Int)=(↑q0:Int)/\(0:Int)=(↑s0:Int))/\(s0<=q0/\ah Sess.client want (List.take s0 l) = -q1)/\∀ (s:Nat),s<=q0/\ah Sess.client want (List.take s l) = -q1->((↑s:Int)<(↑q0:Int)->(0:Int)<=(↑s:Int)/\(↑s:Int)<(↑l.length:Int)/\∀ (x:Sess),l[s]? = some x->I64 x.client->I64 x.seq->I64 x.last.code->I64 x.last.n->I64 x.client->(x.client=want->(↑s:Int)=r0)/\(¬x.client=want->I64 ((↑s:Int)+q1)/\∃ (s':Nat),(want=want/\l=l/\(↑q0:Int)=(↑q0:Int)/\(↑s:Int)+q1=(↑s':Int))/\(s' <= q0/\ah Sess.client want (List.take s' l) = -q1)/\q0 - s' < q0 - s))/\((↑q0:Int)<=(↑s:Int) -> -q1=r0)) l.length) (1:Int)):=by kernel_rfl
theorem qW (l:List Sess) (want:Int):Sat Try.prog (aq aI) 30 [.c (.fz (.nm .sess) (l)),.c (.int (want)),.c (.fn 31 [] [])] [] ⟨[],[.c (.int ((ah Sess.client want l)))],none,false⟩:=by
 refine aX ky (ly l want) Try.func30 (by decide) (by kernel_rfl) ?_
 rw [pC]
 (repeat' (first | with_reducible refine And.intro ?_ ?_ | with_reducible refine and_imp.2 ?_ | intro))
 all_goals try (first | (first | with_reducible rfl | with_reducible assumption | omega | (refine av ?_ ?_ <;> omega)) | exact (dQ (key:=Sess.client)) | exact (cM (key:=Sess.client) (by with_reducible assumption) (by with_reducible assumption) (by with_reducible assumption)) | exact (dk (key:=Sess.client) (by with_reducible assumption) (by omega)) | exact (dw (key:=Sess.client) (by with_reducible assumption) (by with_reducible assumption) (by with_reducible assumption)))
 all_goals try (refine ⟨0,?_⟩; (repeat' (first | with_reducible refine And.intro ?_ ?_ | with_reducible refine and_imp.2 ?_ | intro)))
 all_goals try (first | (first | with_reducible rfl | with_reducible assumption | omega | (refine av ?_ ?_ <;> omega)) | exact (dQ (key:=Sess.client)) | exact (cM (key:=Sess.client) (by with_reducible assumption) (by with_reducible assumption) (by with_reducible assumption)) | exact (dk (key:=Sess.client) (by with_reducible assumption) (by omega)) | exact (dw (key:=Sess.client) (by with_reducible assumption) (by with_reducible assumption) (by with_reducible assumption)))
 all_goals try (refine ⟨‹Nat› + 1,?_⟩; (repeat' (first | with_reducible refine And.intro ?_ ?_ | with_reducible refine and_imp.2 ?_ | intro)))
 all_goals (first | (first | with_reducible rfl | with_reducible assumption | omega | (refine av ?_ ?_ <;> omega)) | exact (dQ (key:=Sess.client)) | exact (cM (key:=Sess.client) (by with_reducible assumption) (by with_reducible assumption) (by with_reducible assumption)) | exact (dk (key:=Sess.client) (by with_reducible assumption) (by omega)) | exact (dw (key:=Sess.client) (by with_reducible assumption) (by with_reducible assumption) (by with_reducible assumption)))
theorem rz (l:List Opn) (want:Int) (r0:Int):dx aI wj (lF l want) Try.f91 [.c (.fz (.nm .opn) (l)),.c (.int (want)),.c (.fn 41 [] [])] [] [.c (.int (r0))]=((fun (q1:Int)=>(fun (q0:Nat)=>l.length*(16:Nat)<=(140737488355328:Nat)->I64 want->∃ (s0:Nat),(want=want/\l=l/\(↑l.length:Int)=(↑q0:Int)/\(0:Int)=(↑s0:Int))/\(s0<=q0/\ah Opn.set want (List.take s0 l) = -q1)/\∀ (s:Nat),s<=q0/\ah Opn.set want (List.take s l) = -q1->((↑s:Int)<(↑q0:Int)->(0:Int)<=(↑s:Int)/\(↑s:Int)<(↑l.length:Int)/\∀ (x:Opn),l[s]? = some x->I64 x.set->I64 x.client->I64 x.set->(x.set=want->(↑s:Int)=r0)/\(¬x.set=want->I64 ((↑s:Int)+q1)/\∃ (s':Nat),(want=want/\l=l/\(↑q0:Int)=(↑q0:Int)/\(↑s:Int)+q1=(↑s':Int))/\(s' <= q0/\ah Opn.set want (List.take s' l) = -q1)/\q0 - s' < q0 - s))/\((↑q0:Int)<=(↑s:Int) -> -q1=r0)) l.length) (1:Int)):=by kernel_rfl
theorem qM (l:List Opn) (want:Int):Sat Try.prog (aq aI) 91 [.c (.fz (.nm .opn) (l)),.c (.int (want)),.c (.fn 41 [] [])] [] ⟨[],[.c (.int ((ah Opn.set want l)))],none,false⟩:=by
 refine aX ky (lF l want) Try.func91 (by decide) (by kernel_rfl) ?_
 rw [rz]
 (repeat' (first | with_reducible refine And.intro ?_ ?_ | with_reducible refine and_imp.2 ?_ | intro))
 all_goals try (first | (first | with_reducible rfl | with_reducible assumption | omega | (refine av ?_ ?_ <;> omega)) | exact (dQ (key:=Opn.set)) | exact (cM (key:=Opn.set) (by with_reducible assumption) (by with_reducible assumption) (by with_reducible assumption)) | exact (dk (key:=Opn.set) (by with_reducible assumption) (by omega)) | exact (dw (key:=Opn.set) (by with_reducible assumption) (by with_reducible assumption) (by with_reducible assumption)))
 all_goals try (refine ⟨0,?_⟩; (repeat' (first | with_reducible refine And.intro ?_ ?_ | with_reducible refine and_imp.2 ?_ | intro)))
 all_goals try (first | (first | with_reducible rfl | with_reducible assumption | omega | (refine av ?_ ?_ <;> omega)) | exact (dQ (key:=Opn.set)) | exact (cM (key:=Opn.set) (by with_reducible assumption) (by with_reducible assumption) (by with_reducible assumption)) | exact (dk (key:=Opn.set) (by with_reducible assumption) (by omega)) | exact (dw (key:=Opn.set) (by with_reducible assumption) (by with_reducible assumption) (by with_reducible assumption)))
 all_goals try (refine ⟨‹Nat› + 1,?_⟩; (repeat' (first | with_reducible refine And.intro ?_ ?_ | with_reducible refine and_imp.2 ?_ | intro)))
 all_goals (first | (first | with_reducible rfl | with_reducible assumption | omega | (refine av ?_ ?_ <;> omega)) | exact (dQ (key:=Opn.set)) | exact (cM (key:=Opn.set) (by with_reducible assumption) (by with_reducible assumption) (by with_reducible assumption)) | exact (dk (key:=Opn.set) (by with_reducible assumption) (by omega)) | exact (dw (key:=Opn.set) (by with_reducible assumption) (by with_reducible assumption) (by with_reducible assumption)))
theorem pU (l:List Snap) (want:Int) (r0:Int):dx aI wj (lr l want) Try.f78 [.c (.fz (.nm .snap) (l)),.c (.int (want)),.c (.fn 68 [] [])] [] [.c (.int (r0))]=((fun (q1:Int)=>(fun (q0:Nat)=>l.length*(64:Nat)<=(140737488355328:Nat)->I64 want->∃ (s0:Nat),(want=want/\l=l/\(↑l.length:Int)=(↑q0:Int)/\(0:Int)=(↑s0:Int))/\(s0<=q0/\ah Snap.id want (List.take s0 l) = -q1)/\∀ (s:Nat),s<=q0/\ah Snap.id want (List.take s l) = -q1->((↑s:Int)<(↑q0:Int)->(0:Int)<=(↑s:Int)/\(↑s:Int)<(↑l.length:Int)/\∀ (x:Snap),l[s]? = some x->I64 x.id->I64 x.set->x.chunks.length*(8:Nat)<=(140737488355328:Nat)->x.tag.b.length<=(140737488355328:Nat)->I64 x.id->(x.id=want->(↑s:Int)=r0)/\(¬x.id=want->I64 ((↑s:Int)+q1)/\∃ (s':Nat),(want=want/\l=l/\(↑q0:Int)=(↑q0:Int)/\(↑s:Int)+q1=(↑s':Int))/\(s' <= q0/\ah Snap.id want (List.take s' l) = -q1)/\q0 - s' < q0 - s))/\((↑q0:Int)<=(↑s:Int) -> -q1=r0)) l.length) (1:Int)):=by kernel_rfl
theorem pP (l:List Snap) (want:Int):Sat Try.prog (aq aI) 78 [.c (.fz (.nm .snap) (l)),.c (.int (want)),.c (.fn 68 [] [])] [] ⟨[],[.c (.int ((ah Snap.id want l)))],none,false⟩:=by
 refine aX ky (lr l want) Try.func78 (by decide) (by kernel_rfl) ?_
 rw [pU]
 (repeat' (first | with_reducible refine And.intro ?_ ?_ | with_reducible refine and_imp.2 ?_ | intro))
 all_goals try (first | (first | with_reducible rfl | with_reducible assumption | omega | (refine av ?_ ?_ <;> omega)) | exact (dQ (key:=Snap.id)) | exact (cM (key:=Snap.id) (by with_reducible assumption) (by with_reducible assumption) (by with_reducible assumption)) | exact (dk (key:=Snap.id) (by with_reducible assumption) (by omega)) | exact (dw (key:=Snap.id) (by with_reducible assumption) (by with_reducible assumption) (by with_reducible assumption)))
 all_goals try (refine ⟨0,?_⟩; (repeat' (first | with_reducible refine And.intro ?_ ?_ | with_reducible refine and_imp.2 ?_ | intro)))
 all_goals try (first | (first | with_reducible rfl | with_reducible assumption | omega | (refine av ?_ ?_ <;> omega)) | exact (dQ (key:=Snap.id)) | exact (cM (key:=Snap.id) (by with_reducible assumption) (by with_reducible assumption) (by with_reducible assumption)) | exact (dk (key:=Snap.id) (by with_reducible assumption) (by omega)) | exact (dw (key:=Snap.id) (by with_reducible assumption) (by with_reducible assumption) (by with_reducible assumption)))
 all_goals try (refine ⟨‹Nat› + 1,?_⟩; (repeat' (first | with_reducible refine And.intro ?_ ?_ | with_reducible refine and_imp.2 ?_ | intro)))
 all_goals (first | (first | with_reducible rfl | with_reducible assumption | omega | (refine av ?_ ?_ <;> omega)) | exact (dQ (key:=Snap.id)) | exact (cM (key:=Snap.id) (by with_reducible assumption) (by with_reducible assumption) (by with_reducible assumption)) | exact (dk (key:=Snap.id) (by with_reducible assumption) (by omega)) | exact (dw (key:=Snap.id) (by with_reducible assumption) (by with_reducible assumption) (by with_reducible assumption)))
def pE:cu:=(bV 78 (bO (aj (kC (cL (.nm .snap))) (aj (kC cI) (aj (kC (mK 68 [] [])) aR))) aQ fun (l,want,_,_) (_)=>⟨[],[.c (.int ((ah Snap.id want l)))],none,false⟩) (bV 91 (bO (aj (kC (cL (.nm .opn))) (aj (kC cI) (aj (kC (mK 41 [] [])) aR))) aQ fun (l,want,_,_) (_)=>⟨[],[.c (.int ((ah Opn.set want l)))],none,false⟩) (bV 30 (bO (aj (kC (cL (.nm .sess))) (aj (kC cI) (aj (kC (mK 31 [] [])) aR))) aQ fun (l,want,_,_) (_)=>⟨[],[.c (.int ((ah Sess.client want l)))],none,false⟩) wj)))
theorem fp:aP Try.prog (aq aI) pE:=(aC (aB (ae (aw cg) (ae (aw ax) (ae (aw cm) al))) ao fun (l,want,_,_) (_) _=>pP l want ) (aC (aB (ae (aw cg) (ae (aw ax) (ae (aw cm) al))) ao fun (l,want,_,_) (_) _=>qM l want ) (aC (aB (ae (aw cg) (ae (aw ax) (ae (aw cm) al))) ao fun (l,want,_,_) (_) _=>qW l want ) ky)))
end Go.Proofs.Ytdggohppeeaipaa
namespace Go.Proofs.Ytdggohppeeaipaa
open Go.RowKit
theorem Aj {n r m:Nat} (h:aT n+1=aT r+m) (hr:128<=r):aT n+1=aT (r / 128)+(m+1):=by
 have:=lU (n:=r) (by omega); omega
theorem AL {n r m:Nat} (h:aT n+1=aT r+m) (hn:n<18446744073709551616):m<=10:=by
 have:=kU hn; have:=gu r; omega
theorem zN {n r m:Nat} (h:aT n+1=aT r+m) (hr:r<128):m=aT n:=by
 have:=gO hr; omega
section
variable {α:Type} {key:α->Int} {most:Int} {l:List α} {k:Nat} {x:α}
theorem iK (h:ak key most 0 (l.take k)=true) (hx:l[k]? = some x) (hb:bU (key x) (bm key 0 (l.take k)+1) most=true):ak key most 0 (l.take (k+1))=true:=
 j_ h hx (by have:=mJ hb; omega) (mJ hb).2
theorem ir (hx:l[k]? = some x) (hb:bU (key x) (bm key 0 (l.take k)+1) most=false):false=ak key most 0 l:=
 (jX hx (by have:=Hx hb; omega)).symm
theorem iC (h:ak key most 0 (l.take k)=true) (hk:l.length<=k):true=ak key most 0 l:=(jT h hk).symm
theorem iH (hx:l[k]? = some x) (h0:0<=bm key 0 (l.take k)) (hb:bU (key x) (bm key 0 (l.take k)+1) most=true):0<=bm key 0 (l.take (k+1)):=by
 have:=mJ hb; rw [<- bM hx]; omega
theorem ij (hx:l[k]? = some x) (hb:bU (key x) (bm key 0 (l.take k)+1) most=true) (hm:most<=1048576):bm key 0 (l.take (k+1))<=1048576:=by
 have:=mJ hb; rw [<- bM hx]; omega
variable {p:α->Bool}
theorem iw (hx:l[k]? = some x) (hp:p x=false):false=l.all p:=(yp hx hp).symm
theorem iy (h:(l.take k).all p=true) (hk:l.length<=k):true=l.all p:=(zr h hk).symm
end
def CE (n:U64):List (Nat × LI):=[(2,{ σ:=Nat × Nat,F:=fun s=>([(0,one (.u64 s.1)),(3,one (.int s.2))],[]),J:=fun s=>s.1<18446744073709551616/\aT n.n+1=aT s.1+s.2,μ:=fun s=>s.1 })]
def jQ (l:List Sess) (most:Int):List (Nat × LI):=[(3,{ σ:=Nat,F:=fun k=>([(1,one (.int (most))),(2,one (.fn 31 [] [])),(7,one (.int (bm Sess.client 0 (l.take k)))),(10,one (.fz (.nm .sess) (l))),(11,one (.int (l).length)),(12,one (.int k))],[]),J:=fun k=>k<=l.length/\ak Sess.client most 0 (l.take k)=true/\0<=bm Sess.client 0 (l.take k)/\bm Sess.client 0 (l.take k)<=1048576,μ:=fun k=>(l).length - k })]
def jU (l:List Opn) (most:Int):List (Nat × LI):=[(3,{ σ:=Nat,F:=fun k=>([(1,one (.int (most))),(2,one (.fn 41 [] [])),(7,one (.int (bm Opn.set 0 (l.take k)))),(10,one (.fz (.nm .opn) (l))),(11,one (.int (l).length)),(12,one (.int k))],[]),J:=fun k=>k<=l.length/\ak Opn.set most 0 (l.take k)=true/\0<=bm Opn.set 0 (l.take k)/\bm Opn.set 0 (l.take k)<=1048576,μ:=fun k=>(l).length - k })]
def jY (l:List Snap) (most:Int):List (Nat × LI):=[(3,{ σ:=Nat,F:=fun k=>([(1,one (.int (most))),(2,one (.fn 68 [] [])),(7,one (.int (bm Snap.id 0 (l.take k)))),(10,one (.fz (.nm .snap) (l))),(11,one (.int (l).length)),(12,one (.int k))],[]),J:=fun k=>k<=l.length/\ak Snap.id most 0 (l.take k)=true/\0<=bm Snap.id 0 (l.take k)/\bm Snap.id 0 (l.take k)<=1048576,μ:=fun k=>(l).length - k })]
theorem Da (n:U64) (r0:Int):dx aI pE (CE n) Try.f98 [.c (.u64 (n).n)] [] [.c (.int (r0))]=((fun (q0:Nat)=>n.n<(18446744073709551616:Nat)->∃ (s0:Nat × Nat),(n.n=s0.fst/\(1:Int)=(↑s0.snd:Int))/\(s0.fst<(18446744073709551616:Nat)/\q0=aT s0.fst+s0.snd)/\∀ (s:Nat × Nat),s.fst<(18446744073709551616:Nat)/\q0=aT s.fst+s.snd->((↑(128:Nat):Int)<=(↑s.fst:Int)->(7:Nat)<(64:Nat)/\I64 ((↑s.snd:Int)+(1:Int))/\∃ (s':Nat × Nat),(s.fst / (2:Nat) ^ (7:Nat)=s'.fst/\(↑s.snd:Int)+(1:Int)=(↑s'.snd:Int))/\(s'.fst<(18446744073709551616:Nat)/\q0=aT s'.fst+s'.snd)/\s'.fst<s.fst)/\((↑s.fst:Int)<(↑(128:Nat):Int)->(↑s.snd:Int)=r0)) (aT n.n+(1:Nat))):=by kernel_rfl
theorem EF (n:U64):Sat Try.prog (aq aI) 98 [.c (.u64 (n).n)] [] ⟨[],[.c (.int (((aT n.n:Int))))],none,false⟩:=by
 refine aX fp (CE n) Try.func98 (by decide) (by kernel_rfl) ?_
 rw [Da]
 intro hn
 refine ⟨(n.n,1),⟨rfl,rfl⟩,⟨hn,rfl⟩,fun s hs=>⟨fun h=>?_,fun h=>?_⟩⟩
 ·have h2:=Aj hs.2 (by omega)
  have h3:=AL hs.2 hn
  exact ⟨by omega,by constructor <;> omega,(s.1 / 128,s.2+1),⟨rfl,by simp⟩,⟨by show s.1 / 128<_; omega,h2⟩,by show s.1 / 128<s.1; omega⟩
 ·exact congrArg Int.ofNat (zN hs.2 (by omega))
theorem nP (l:List Sess) (most:Int) (r0:Bool):dx aI pE (jQ l most) Try.f37 [.c (.fz (.nm .sess) (l)),.c (.int (most)),.c (.fn 31 [] [])] [] [.c (.bool (.atom (r0)))]=((fun (q1:Nat)=>(fun (q0:Int)=>l.length*(32:Nat)<=(140737488355328:Nat)->I64 most->∃ (s0:Nat),(fun (q2:Int)=>(most=most/\q0=q2/\l=l/\(↑l.length:Int)=(↑q1:Int)/\q0=(↑s0:Int))/\(s0<=q1/\ak Sess.client most q0 (List.take s0 l)=true/\q0<=q2/\q2<=(1048576:Int))/\∀ (s:Nat),(fun (q3:Int)=>s<=q1/\ak Sess.client most q0 (List.take s l)=true/\q0<=q3/\q3<=(1048576:Int)->((↑s:Int)<(↑q1:Int)->q0<=(↑s:Int)/\(↑s:Int)<(↑l.length:Int)/\∀ (x:Sess),(fun (q4:Bool)=>l[s]? = some x->I64 x.client->I64 x.seq->I64 x.last.code->I64 x.last.n->I64 x.client->I64 (q3+(1:Int))/\(q4=false->false=r0)/\(q4=true->I64 x.client->I64 ((↑s:Int)+(1:Int))/\∃ (s':Nat),(fun (q5:Int)=>(most=most/\x.client=q5/\l=l/\(↑q1:Int)=(↑q1:Int)/\(↑s:Int)+(1:Int)=(↑s':Int))/\(s' <= q1/\ak Sess.client most q0 (List.take s' l)=true/\q0<=q5/\q5<=(1048576:Int))/\q1 - s' < q1 - s) (bm Sess.client q0 (List.take s' l)))) (bU x.client (q3+(1:Int)) most))/\((↑q1:Int)<=(↑s:Int)->true=r0)) (bm Sess.client q0 (List.take s l))) (bm Sess.client q0 (List.take s0 l))) (0:Int)) l.length):=by kernel_rfl
theorem nM (l:List Sess) (most:Int) (h0:most<=1048576):Sat Try.prog (aq aI) 37 [.c (.fz (.nm .sess) (l)),.c (.int (most)),.c (.fn 31 [] [])] [] ⟨[most<=1048576],[.c (.bool (.atom ((ak Sess.client most 0 l))))],none,false⟩:=by
 refine aX fp (jQ l most) Try.func37 (by decide) (by kernel_rfl) ?_
 rw [nP]
 (repeat' (first | with_reducible refine And.intro ?_ ?_ | with_reducible refine and_imp.2 ?_ | intro))
 all_goals try (first | (first | with_reducible rfl | with_reducible assumption | omega | (refine av ?_ ?_ <;> omega)) | exact (iK (key:=Sess.client) (by with_reducible assumption) (by with_reducible assumption) (by with_reducible assumption)) | exact (ir (key:=Sess.client) (by with_reducible assumption) (by with_reducible assumption)) | exact (iC (key:=Sess.client) (by with_reducible assumption) (by omega)) | exact (bM (key:=Sess.client) (by with_reducible assumption)) | exact (iH (key:=Sess.client) (by with_reducible assumption) (by with_reducible assumption) (by with_reducible assumption)) | exact (ij (key:=Sess.client) (by with_reducible assumption) (by with_reducible assumption) (by with_reducible assumption)) | exact rfl | exact Int.le_refl _ | exact (show (0:Int)<=1048576 by omega))
 all_goals try (refine ⟨0,?_⟩; (repeat' (first | with_reducible refine And.intro ?_ ?_ | with_reducible refine and_imp.2 ?_ | intro)))
 all_goals try (first | (first | with_reducible rfl | with_reducible assumption | omega | (refine av ?_ ?_ <;> omega)) | exact (iK (key:=Sess.client) (by with_reducible assumption) (by with_reducible assumption) (by with_reducible assumption)) | exact (ir (key:=Sess.client) (by with_reducible assumption) (by with_reducible assumption)) | exact (iC (key:=Sess.client) (by with_reducible assumption) (by omega)) | exact (bM (key:=Sess.client) (by with_reducible assumption)) | exact (iH (key:=Sess.client) (by with_reducible assumption) (by with_reducible assumption) (by with_reducible assumption)) | exact (ij (key:=Sess.client) (by with_reducible assumption) (by with_reducible assumption) (by with_reducible assumption)) | exact rfl | exact Int.le_refl _ | exact (show (0:Int)<=1048576 by omega))
 all_goals try (refine ⟨‹Nat› + 1,?_⟩; (repeat' (first | with_reducible refine And.intro ?_ ?_ | with_reducible refine and_imp.2 ?_ | intro)))
 all_goals (first | (first | with_reducible rfl | with_reducible assumption | omega | (refine av ?_ ?_ <;> omega)) | exact (iK (key:=Sess.client) (by with_reducible assumption) (by with_reducible assumption) (by with_reducible assumption)) | exact (ir (key:=Sess.client) (by with_reducible assumption) (by with_reducible assumption)) | exact (iC (key:=Sess.client) (by with_reducible assumption) (by omega)) | exact (bM (key:=Sess.client) (by with_reducible assumption)) | exact (iH (key:=Sess.client) (by with_reducible assumption) (by with_reducible assumption) (by with_reducible assumption)) | exact (ij (key:=Sess.client) (by with_reducible assumption) (by with_reducible assumption) (by with_reducible assumption)) | exact rfl | exact Int.le_refl _ | exact (show (0:Int)<=1048576 by omega))
theorem oi (l:List Opn) (most:Int) (r0:Bool):dx aI pE (jU l most) Try.f40 [.c (.fz (.nm .opn) (l)),.c (.int (most)),.c (.fn 41 [] [])] [] [.c (.bool (.atom (r0)))]=((fun (q1:Nat)=>(fun (q0:Int)=>l.length*(16:Nat)<=(140737488355328:Nat)->I64 most->∃ (s0:Nat),(fun (q2:Int)=>(most=most/\q0=q2/\l=l/\(↑l.length:Int)=(↑q1:Int)/\q0=(↑s0:Int))/\(s0<=q1/\ak Opn.set most q0 (List.take s0 l)=true/\q0<=q2/\q2<=(1048576:Int))/\∀ (s:Nat),(fun (q3:Int)=>s<=q1/\ak Opn.set most q0 (List.take s l)=true/\q0<=q3/\q3<=(1048576:Int)->((↑s:Int)<(↑q1:Int)->q0<=(↑s:Int)/\(↑s:Int)<(↑l.length:Int)/\∀ (x:Opn),(fun (q4:Bool)=>l[s]? = some x->I64 x.set->I64 x.client->I64 x.set->I64 (q3+(1:Int))/\(q4=false->false=r0)/\(q4=true->I64 x.set->I64 ((↑s:Int)+(1:Int))/\∃ (s':Nat),(fun (q5:Int)=>(most=most/\x.set=q5/\l=l/\(↑q1:Int)=(↑q1:Int)/\(↑s:Int)+(1:Int)=(↑s':Int))/\(s' <= q1/\ak Opn.set most q0 (List.take s' l)=true/\q0<=q5/\q5<=(1048576:Int))/\q1 - s' < q1 - s) (bm Opn.set q0 (List.take s' l)))) (bU x.set (q3+(1:Int)) most))/\((↑q1:Int)<=(↑s:Int)->true=r0)) (bm Opn.set q0 (List.take s l))) (bm Opn.set q0 (List.take s0 l))) (0:Int)) l.length):=by kernel_rfl
theorem oV (l:List Opn) (most:Int) (h0:most<=1048576):Sat Try.prog (aq aI) 40 [.c (.fz (.nm .opn) (l)),.c (.int (most)),.c (.fn 41 [] [])] [] ⟨[most<=1048576],[.c (.bool (.atom ((ak Opn.set most 0 l))))],none,false⟩:=by
 refine aX fp (jU l most) Try.func40 (by decide) (by kernel_rfl) ?_
 rw [oi]
 (repeat' (first | with_reducible refine And.intro ?_ ?_ | with_reducible refine and_imp.2 ?_ | intro))
 all_goals try (first | (first | with_reducible rfl | with_reducible assumption | omega | (refine av ?_ ?_ <;> omega)) | exact (iK (key:=Opn.set) (by with_reducible assumption) (by with_reducible assumption) (by with_reducible assumption)) | exact (ir (key:=Opn.set) (by with_reducible assumption) (by with_reducible assumption)) | exact (iC (key:=Opn.set) (by with_reducible assumption) (by omega)) | exact (bM (key:=Opn.set) (by with_reducible assumption)) | exact (iH (key:=Opn.set) (by with_reducible assumption) (by with_reducible assumption) (by with_reducible assumption)) | exact (ij (key:=Opn.set) (by with_reducible assumption) (by with_reducible assumption) (by with_reducible assumption)) | exact rfl | exact Int.le_refl _ | exact (show (0:Int)<=1048576 by omega))
 all_goals try (refine ⟨0,?_⟩; (repeat' (first | with_reducible refine And.intro ?_ ?_ | with_reducible refine and_imp.2 ?_ | intro)))
 all_goals try (first | (first | with_reducible rfl | with_reducible assumption | omega | (refine av ?_ ?_ <;> omega)) | exact (iK (key:=Opn.set) (by with_reducible assumption) (by with_reducible assumption) (by with_reducible assumption)) | exact (ir (key:=Opn.set) (by with_reducible assumption) (by with_reducible assumption)) | exact (iC (key:=Opn.set) (by with_reducible assumption) (by omega)) | exact (bM (key:=Opn.set) (by with_reducible assumption)) | exact (iH (key:=Opn.set) (by with_reducible assumption) (by with_reducible assumption) (by with_reducible assumption)) | exact (ij (key:=Opn.set) (by with_reducible assumption) (by with_reducible assumption) (by with_reducible assumption)) | exact rfl | exact Int.le_refl _ | exact (show (0:Int)<=1048576 by omega))
 all_goals try (refine ⟨‹Nat› + 1,?_⟩; (repeat' (first | with_reducible refine And.intro ?_ ?_ | with_reducible refine and_imp.2 ?_ | intro)))
 all_goals (first | (first | with_reducible rfl | with_reducible assumption | omega | (refine av ?_ ?_ <;> omega)) | exact (iK (key:=Opn.set) (by with_reducible assumption) (by with_reducible assumption) (by with_reducible assumption)) | exact (ir (key:=Opn.set) (by with_reducible assumption) (by with_reducible assumption)) | exact (iC (key:=Opn.set) (by with_reducible assumption) (by omega)) | exact (bM (key:=Opn.set) (by with_reducible assumption)) | exact (iH (key:=Opn.set) (by with_reducible assumption) (by with_reducible assumption) (by with_reducible assumption)) | exact (ij (key:=Opn.set) (by with_reducible assumption) (by with_reducible assumption) (by with_reducible assumption)) | exact rfl | exact Int.le_refl _ | exact (show (0:Int)<=1048576 by omega))
theorem po (l:List Snap) (most:Int) (r0:Bool):dx aI pE (jY l most) Try.f67 [.c (.fz (.nm .snap) (l)),.c (.int (most)),.c (.fn 68 [] [])] [] [.c (.bool (.atom (r0)))]=((fun (q1:Nat)=>(fun (q0:Int)=>l.length*(64:Nat)<=(140737488355328:Nat)->I64 most->∃ (s0:Nat),(fun (q2:Int)=>(most=most/\q0=q2/\l=l/\(↑l.length:Int)=(↑q1:Int)/\q0=(↑s0:Int))/\(s0<=q1/\ak Snap.id most q0 (List.take s0 l)=true/\q0<=q2/\q2<=(1048576:Int))/\∀ (s:Nat),(fun (q3:Int)=>s<=q1/\ak Snap.id most q0 (List.take s l)=true/\q0<=q3/\q3<=(1048576:Int)->((↑s:Int)<(↑q1:Int)->q0<=(↑s:Int)/\(↑s:Int)<(↑l.length:Int)/\∀ (x:Snap),(fun (q4:Int)=>l[s]? = some x->I64 x.id->I64 x.set->x.chunks.length*(8:Nat)<=(140737488355328:Nat)->x.tag.b.length<=(140737488355328:Nat)->I64 x.id->I64 q4/\(bU x.id q4 most=false->false=r0)/\(bU x.id q4 most=true->I64 x.id->I64 ((↑s:Int)+(1:Int))/\∃ (s':Nat),(fun (q5:Int)=>(most=most/\x.id=q5/\l=l/\(↑q1:Int)=(↑q1:Int)/\(↑s:Int)+(1:Int)=(↑s':Int))/\(s' <= q1/\ak Snap.id most q0 (List.take s' l)=true/\q0<=q5/\q5<=(1048576:Int))/\q1 - s' < q1 - s) (bm Snap.id q0 (List.take s' l)))) (q3+(1:Int)))/\((↑q1:Int)<=(↑s:Int)->true=r0)) (bm Snap.id q0 (List.take s l))) (bm Snap.id q0 (List.take s0 l))) (0:Int)) l.length):=by kernel_rfl
theorem oD (l:List Snap) (most:Int) (h0:most<=1048576):Sat Try.prog (aq aI) 67 [.c (.fz (.nm .snap) (l)),.c (.int (most)),.c (.fn 68 [] [])] [] ⟨[most<=1048576],[.c (.bool (.atom ((ak Snap.id most 0 l))))],none,false⟩:=by
 refine aX fp (jY l most) Try.func67 (by decide) (by kernel_rfl) ?_
 rw [po]
 (repeat' (first | with_reducible refine And.intro ?_ ?_ | with_reducible refine and_imp.2 ?_ | intro))
 all_goals try (first | (first | with_reducible rfl | with_reducible assumption | omega | (refine av ?_ ?_ <;> omega)) | exact (iK (key:=Snap.id) (by with_reducible assumption) (by with_reducible assumption) (by with_reducible assumption)) | exact (ir (key:=Snap.id) (by with_reducible assumption) (by with_reducible assumption)) | exact (iC (key:=Snap.id) (by with_reducible assumption) (by omega)) | exact (bM (key:=Snap.id) (by with_reducible assumption)) | exact (iH (key:=Snap.id) (by with_reducible assumption) (by with_reducible assumption) (by with_reducible assumption)) | exact (ij (key:=Snap.id) (by with_reducible assumption) (by with_reducible assumption) (by with_reducible assumption)) | exact rfl | exact Int.le_refl _ | exact (show (0:Int)<=1048576 by omega))
 all_goals try (refine ⟨0,?_⟩; (repeat' (first | with_reducible refine And.intro ?_ ?_ | with_reducible refine and_imp.2 ?_ | intro)))
 all_goals try (first | (first | with_reducible rfl | with_reducible assumption | omega | (refine av ?_ ?_ <;> omega)) | exact (iK (key:=Snap.id) (by with_reducible assumption) (by with_reducible assumption) (by with_reducible assumption)) | exact (ir (key:=Snap.id) (by with_reducible assumption) (by with_reducible assumption)) | exact (iC (key:=Snap.id) (by with_reducible assumption) (by omega)) | exact (bM (key:=Snap.id) (by with_reducible assumption)) | exact (iH (key:=Snap.id) (by with_reducible assumption) (by with_reducible assumption) (by with_reducible assumption)) | exact (ij (key:=Snap.id) (by with_reducible assumption) (by with_reducible assumption) (by with_reducible assumption)) | exact rfl | exact Int.le_refl _ | exact (show (0:Int)<=1048576 by omega))
 all_goals try (refine ⟨‹Nat› + 1,?_⟩; (repeat' (first | with_reducible refine And.intro ?_ ?_ | with_reducible refine and_imp.2 ?_ | intro)))
 all_goals (first | (first | with_reducible rfl | with_reducible assumption | omega | (refine av ?_ ?_ <;> omega)) | exact (iK (key:=Snap.id) (by with_reducible assumption) (by with_reducible assumption) (by with_reducible assumption)) | exact (ir (key:=Snap.id) (by with_reducible assumption) (by with_reducible assumption)) | exact (iC (key:=Snap.id) (by with_reducible assumption) (by omega)) | exact (bM (key:=Snap.id) (by with_reducible assumption)) | exact (iH (key:=Snap.id) (by with_reducible assumption) (by with_reducible assumption) (by with_reducible assumption)) | exact (ij (key:=Snap.id) (by with_reducible assumption) (by with_reducible assumption) (by with_reducible assumption)) | exact rfl | exact Int.le_refl _ | exact (show (0:Int)<=1048576 by omega))
theorem DD (x:Sess) (r0:Bool):dx aI pE [] Try.f39 [.agg (cellsOf (.nm .sess) x)] [] [.c (.bool (.atom (r0)))]=(I64 x.client->I64 x.seq->I64 x.last.code->I64 x.last.n->(bU x.seq (0:Int) (1048576:Int) && bU x.last.code (0:Int) (99:Int) && bU x.last.n (0:Int) (1048576:Int))=r0):=by kernel_rfl
theorem ED (x:Sess):Sat Try.prog (aq aI) 39 [.agg (cellsOf (.nm .sess) x)] [] ⟨[],[.c (.bool (.atom ((bJ x))))],none,false⟩:=by
 refine aX fp [] Try.func39 (by decide) (by kernel_rfl) ?_
 rw [DD]
 grind [bJ,bU]
theorem CV (x:Opn) (r0:Bool):dx aI pE [] Try.f43 [.agg (cellsOf (.nm .opn) x)] [] [.c (.bool (.atom (r0)))]=(I64 x.set->I64 x.client->bU x.client (1:Int) (8:Int)=r0):=by kernel_rfl
theorem EB (x:Opn):Sat Try.prog (aq aI) 43 [.agg (cellsOf (.nm .opn) x)] [] ⟨[],[.c (.bool (.atom ((bN x))))],none,false⟩:=by
 refine aX fp [] Try.func43 (by decide) (by kernel_rfl) ?_
 rw [CV]
 grind [bN,bU]
def ot:cu:=(bV 43 (bO (aj (kT (.nm .opn)) aR) aQ fun (x,_) (_)=>⟨[],[.c (.bool (.atom ((bN x))))],none,false⟩) (bV 39 (bO (aj (kT (.nm .sess)) aR) aQ fun (x,_) (_)=>⟨[],[.c (.bool (.atom ((bJ x))))],none,false⟩) (bV 67 (bO (aj (kC (cL (.nm .snap))) (aj (kC cI) (aj (kC (mK 68 [] [])) aR))) aQ fun (l,most,_,_) (_)=>⟨[most<=1048576],[.c (.bool (.atom ((ak Snap.id most 0 l))))],none,false⟩) (bV 40 (bO (aj (kC (cL (.nm .opn))) (aj (kC cI) (aj (kC (mK 41 [] [])) aR))) aQ fun (l,most,_,_) (_)=>⟨[most<=1048576],[.c (.bool (.atom ((ak Opn.set most 0 l))))],none,false⟩) (bV 37 (bO (aj (kC (cL (.nm .sess))) (aj (kC cI) (aj (kC (mK 31 [] [])) aR))) aQ fun (l,most,_,_) (_)=>⟨[most<=1048576],[.c (.bool (.atom ((ak Sess.client most 0 l))))],none,false⟩) (bV 98 (bO (aj (kC cU) aR) aQ fun (n,_) (_)=>⟨[],[.c (.int (((aT n.n:Int))))],none,false⟩) pE))))))
theorem ey:aP Try.prog (aq aI) ot:=(aC (aB (ae b_ al) ao fun (x,_) (_) _=>EB x ) (aC (aB (ae b_ al) ao fun (x,_) (_) _=>ED x ) (aC (aB (ae (aw cg) (ae (aw ax) (ae (aw cm) al))) ao fun (l,most,_,_) (_) hp=>oD l most (eU hp)) (aC (aB (ae (aw cg) (ae (aw ax) (ae (aw cm) al))) ao fun (l,most,_,_) (_) hp=>oV l most (eU hp)) (aC (aB (ae (aw cg) (ae (aw ax) (ae (aw cm) al))) ao fun (l,most,_,_) (_) hp=>nM l most (eU hp)) (aC (aB (ae (aw Cf) al) ao fun (n,_) (_) _=>EF n ) fp))))))
end Go.Proofs.Ytdggohppeeaipaa
namespace Go.Proofs.Ytdggohppeeaipaa
open Go.RowKit
theorem sH {n k:Nat} (h:(k:Int)<aT n):(dq n k).set k (UInt8.ofNat (n / 128 ^ k) ||| UInt8.ofNat 128)=dq n (k+1):=rL (by omega)
theorem pd {n k:Nat} (h1:k<=aT n) (h2:(aT n:Int)<=(k:Int)):(dq n k).set ((aT n:Int) - 1).toNat ((dq n k).getD ((aT n:Int) - 1).toNat (dflt Sh.u8) &&& UInt8.ofNat 127)=mA n:=by
 have e:k=aT n:=by omega
 have e2:((aT n:Int) - 1).toNat=aT n - 1:=by omega
 have hl:=eX (n:=n) (Nat.le_refl _)
 have hp:=gu n
 subst e
 have hlt:aT n - 1<(dq n (aT n)).length:=by omega
 rw [e2,List.getD_eq_getElem?_getD,List.getElem?_eq_getElem hlt,Option.getD_some,sx (List.getElem?_eq_getElem hlt)]
 rfl
def EO (n:U64):List (Nat × LI):=[(4,{ σ:=Nat,F:=fun k=>([(0,one (.u64 (n.n / 128 ^ k))),(3,one (.int (aT n.n))),(4,one (.own 0)),(10,one (.int (aT n.n))),(11,one (.int k))],[.row 5 .u8 ((dq n.n k))]),J:=fun k=>k<=aT n.n,μ:=fun k=>aT n.n - k })]
def ri (l:List Sess):List (Nat × LI):=[(2,{ σ:=Nat,F:=fun k=>([(1,one (.fn 39 [] [])),(7,one (.fz (.nm .sess) (l))),(8,one (.int (l).length)),(9,one (.int k))],[]),J:=fun k=>k<=l.length/\(l.take k).all (bJ)=true,μ:=fun k=>(l).length - k })]
def pS (l:List Opn):List (Nat × LI):=[(2,{ σ:=Nat,F:=fun k=>([(1,one (.fn 43 [] [])),(7,one (.fz (.nm .opn) (l))),(8,one (.int (l).length)),(9,one (.int k))],[]),J:=fun k=>k<=l.length/\(l.take k).all (bN)=true,μ:=fun k=>(l).length - k })]
theorem Fm (n:U64) (r0:List UInt8):sm aI ot (EO n) Try.f89 [.c (.u64 (n).n)] [] [.c (.own 0)] [.row 5 .u8 (r0)]=((fun (q2:Nat)=>(fun (q1:Int)=>(fun (q0:Int)=>n.n<(18446744073709551616:Nat)->I64 q0->(0:Int)<=q0/\q0*(↑(1:Nat):Int)<=(140737488355328:Int)/\q0=q0/\∃ (s0:Nat),(fun (q3:Int)=>(n.n=n.n / (128:Nat) ^ s0/\q0=q0/\q0=q0/\(0:Int)=(↑s0:Int)/\List.replicate q2 (dflt Sh.u8)=dq n.n s0)/\s0<=q2/\∀ (s:Nat),(fun (q4:List UInt8)=>s<=q2->((↑s:Int)<q0->(0:Int)<=(↑s:Int)/\(↑s:Int)<(↑q4.length:Int)/\(7:Nat)<(64:Nat)/\I64 ((↑s:Int)+q1)/\∃ (s':Nat),(n.n / (128:Nat) ^ s / (2:Nat) ^ (7:Nat)=n.n / (128:Nat) ^ s' /\ q0=q0/\q0=q0/\(↑s:Int)+q1=(↑s':Int)/\q4.set s (UInt8.ofNat (n.n / (128:Nat) ^ s) ||| UInt8.ofNat (128:Nat))=dq n.n s')/\s' <= q2/\q2 - s' < q2 - s)/\(q0<=(↑s:Int)->I64 q3/\(0:Int)<=q3/\q3<(↑q4.length:Int)/\(0:Int)<=q3/\q3<(↑q4.length:Int)/\q4.set q3.toNat (q4.getD q3.toNat (dflt Sh.u8) &&& UInt8.ofNat (127:Nat))=r0)) (dq n.n s)) (q0 - q1)) (↑q2:Int)) (1:Int)) (aT n.n)):=by kernel_rfl
theorem EP (n:U64):Sat Try.prog (aq aI) 89 [.c (.u64 (n).n)] [] ⟨[],[.c (.own 0)],some ([.row 5 .u8 ((mA n.n))]),true⟩:=by
 refine eC ey (EO n) Try.func89 (by decide) (by kernel_rfl) ?_
 rw [Fm]
 intro hn
 have h1:=gu n.n
 have h10:=kU hn
 (repeat' (first | with_reducible refine And.intro ?_ ?_ | with_reducible refine and_imp.2 ?_ | intro))
 all_goals try (first | (first | with_reducible rfl | with_reducible assumption | omega | (refine av ?_ ?_ <;> omega)) | exact (gH n.n) | exact (sH (by omega)) | exact (pd (by omega) (by omega)) | exact div_pow | exact (by rw [Nat.pow_zero,Nat.div_one]) | exact (by rw [eX (by omega)]; omega))
 all_goals try (refine ⟨0,?_⟩; (repeat' (first | with_reducible refine And.intro ?_ ?_ | with_reducible refine and_imp.2 ?_ | intro)))
 all_goals try (first | (first | with_reducible rfl | with_reducible assumption | omega | (refine av ?_ ?_ <;> omega)) | exact (gH n.n) | exact (sH (by omega)) | exact (pd (by omega) (by omega)) | exact div_pow | exact (by rw [Nat.pow_zero,Nat.div_one]) | exact (by rw [eX (by omega)]; omega))
 all_goals try (refine ⟨‹Nat› + 1,?_⟩; (repeat' (first | with_reducible refine And.intro ?_ ?_ | with_reducible refine and_imp.2 ?_ | intro)))
 all_goals (first | (first | with_reducible rfl | with_reducible assumption | omega | (refine av ?_ ?_ <;> omega)) | exact (gH n.n) | exact (sH (by omega)) | exact (pd (by omega) (by omega)) | exact div_pow | exact (by rw [Nat.pow_zero,Nat.div_one]) | exact (by rw [eX (by omega)]; omega))
theorem uV (l:List Sess) (r0:Bool):dx aI ot (ri l) Try.f38 [.c (.fz (.nm .sess) (l)),.c (.fn 39 [] [])] [] [.c (.bool (.atom (r0)))]=((fun (q0:Nat)=>l.length*(32:Nat)<=(140737488355328:Nat)->∃ (s0:Nat),(l=l/\(↑l.length:Int)=(↑q0:Int)/\(0:Int)=(↑s0:Int))/\(s0<=q0/\(List.take s0 l).all bJ=true)/\∀ (s:Nat),s<=q0/\(List.take s l).all bJ=true->((↑s:Int)<(↑q0:Int)->(0:Int)<=(↑s:Int)/\(↑s:Int)<(↑l.length:Int)/\∀ (x:Sess),l[s]? = some x->I64 x.client->I64 x.seq->I64 x.last.code->I64 x.last.n->(bJ x=false->false=r0)/\(bJ x=true->I64 ((↑s:Int)+(1:Int))/\∃ (s':Nat),(l=l/\(↑q0:Int)=(↑q0:Int)/\(↑s:Int)+(1:Int)=(↑s':Int))/\(s' <= q0/\(List.take s' l).all bJ=true)/\q0 - s' < q0 - s))/\((↑q0:Int)<=(↑s:Int)->true=r0)) l.length):=by kernel_rfl
theorem vr (l:List Sess):Sat Try.prog (aq aI) 38 [.c (.fz (.nm .sess) (l)),.c (.fn 39 [] [])] [] ⟨[],[.c (.bool (.atom ((l.all (bJ)))))],none,false⟩:=by
 refine aX ey (ri l) Try.func38 (by decide) (by kernel_rfl) ?_
 rw [uV]
 (repeat' (first | with_reducible refine And.intro ?_ ?_ | with_reducible refine and_imp.2 ?_ | intro))
 all_goals try (first | (first | with_reducible rfl | with_reducible assumption | omega | (refine av ?_ ?_ <;> omega)) | exact (dm (p:=bJ) (by with_reducible assumption) (by with_reducible assumption) (by with_reducible assumption)) | exact (iw (p:=bJ) (by with_reducible assumption) (by with_reducible assumption)) | exact (iy (p:=bJ) (by with_reducible assumption) (by omega)) | exact rfl)
 all_goals try (refine ⟨0,?_⟩; (repeat' (first | with_reducible refine And.intro ?_ ?_ | with_reducible refine and_imp.2 ?_ | intro)))
 all_goals try (first | (first | with_reducible rfl | with_reducible assumption | omega | (refine av ?_ ?_ <;> omega)) | exact (dm (p:=bJ) (by with_reducible assumption) (by with_reducible assumption) (by with_reducible assumption)) | exact (iw (p:=bJ) (by with_reducible assumption) (by with_reducible assumption)) | exact (iy (p:=bJ) (by with_reducible assumption) (by omega)) | exact rfl)
 all_goals try (refine ⟨‹Nat› + 1,?_⟩; (repeat' (first | with_reducible refine And.intro ?_ ?_ | with_reducible refine and_imp.2 ?_ | intro)))
 all_goals (first | (first | with_reducible rfl | with_reducible assumption | omega | (refine av ?_ ?_ <;> omega)) | exact (dm (p:=bJ) (by with_reducible assumption) (by with_reducible assumption) (by with_reducible assumption)) | exact (iw (p:=bJ) (by with_reducible assumption) (by with_reducible assumption)) | exact (iy (p:=bJ) (by with_reducible assumption) (by omega)) | exact rfl)
theorem vd (l:List Opn) (r0:Bool):dx aI ot (pS l) Try.f42 [.c (.fz (.nm .opn) (l)),.c (.fn 43 [] [])] [] [.c (.bool (.atom (r0)))]=((fun (q0:Nat)=>l.length*(16:Nat)<=(140737488355328:Nat)->∃ (s0:Nat),(l=l/\(↑l.length:Int)=(↑q0:Int)/\(0:Int)=(↑s0:Int))/\(s0<=q0/\(List.take s0 l).all bN=true)/\∀ (s:Nat),s<=q0/\(List.take s l).all bN=true->((↑s:Int)<(↑q0:Int)->(0:Int)<=(↑s:Int)/\(↑s:Int)<(↑l.length:Int)/\∀ (x:Opn),l[s]? = some x->I64 x.set->I64 x.client->(bN x=false->false=r0)/\(bN x=true->I64 ((↑s:Int)+(1:Int))/\∃ (s':Nat),(l=l/\(↑q0:Int)=(↑q0:Int)/\(↑s:Int)+(1:Int)=(↑s':Int))/\(s' <= q0/\(List.take s' l).all bN=true)/\q0 - s' < q0 - s))/\((↑q0:Int)<=(↑s:Int)->true=r0)) l.length):=by kernel_rfl
theorem uG (l:List Opn):Sat Try.prog (aq aI) 42 [.c (.fz (.nm .opn) (l)),.c (.fn 43 [] [])] [] ⟨[],[.c (.bool (.atom ((l.all (bN)))))],none,false⟩:=by
 refine aX ey (pS l) Try.func42 (by decide) (by kernel_rfl) ?_
 rw [vd]
 (repeat' (first | with_reducible refine And.intro ?_ ?_ | with_reducible refine and_imp.2 ?_ | intro))
 all_goals try (first | (first | with_reducible rfl | with_reducible assumption | omega | (refine av ?_ ?_ <;> omega)) | exact (dm (p:=bN) (by with_reducible assumption) (by with_reducible assumption) (by with_reducible assumption)) | exact (iw (p:=bN) (by with_reducible assumption) (by with_reducible assumption)) | exact (iy (p:=bN) (by with_reducible assumption) (by omega)) | exact rfl)
 all_goals try (refine ⟨0,?_⟩; (repeat' (first | with_reducible refine And.intro ?_ ?_ | with_reducible refine and_imp.2 ?_ | intro)))
 all_goals try (first | (first | with_reducible rfl | with_reducible assumption | omega | (refine av ?_ ?_ <;> omega)) | exact (dm (p:=bN) (by with_reducible assumption) (by with_reducible assumption) (by with_reducible assumption)) | exact (iw (p:=bN) (by with_reducible assumption) (by with_reducible assumption)) | exact (iy (p:=bN) (by with_reducible assumption) (by omega)) | exact rfl)
 all_goals try (refine ⟨‹Nat› + 1,?_⟩; (repeat' (first | with_reducible refine And.intro ?_ ?_ | with_reducible refine and_imp.2 ?_ | intro)))
 all_goals (first | (first | with_reducible rfl | with_reducible assumption | omega | (refine av ?_ ?_ <;> omega)) | exact (dm (p:=bN) (by with_reducible assumption) (by with_reducible assumption) (by with_reducible assumption)) | exact (iw (p:=bN) (by with_reducible assumption) (by with_reducible assumption)) | exact (iy (p:=bN) (by with_reducible assumption) (by omega)) | exact rfl)
theorem oI (l:List Sess) (r0:List Sess):sm aI ot [] Try.f18 [.c (.fz (.nm .sess) (l))] [] [.c (.own 0)] [.row 40 (.nm .sess) (r0)]=((fun (q0:Prop)=>q0->∀ (b:Bool),(b=true->l=[])->(b=true->r0=[])/\(b=false->q0/\l=r0)) (l.length*(32:Nat)<=(140737488355328:Nat))):=by kernel_rfl
theorem oW (l:List Sess):Sat Try.prog (aq aI) 18 [.c (.fz (.nm .sess) (l))] [] ⟨[],[.c (.own 0)],some ([.row 40 (.nm .sess) ((l))]),true⟩:=by
 refine eC ey [] Try.func18 (by decide) (by kernel_rfl) ?_
 rw [oI]
 exact fun h b hb=>⟨hb,fun _=>⟨h,rfl⟩⟩
theorem qz (l:List Opn) (r0:List Opn):sm aI ot [] Try.f19 [.c (.fz (.nm .opn) (l))] [] [.c (.own 0)] [.row 48 (.nm .opn) (r0)]=((fun (q0:Prop)=>q0->∀ (b:Bool),(b=true->l=[])->(b=true->r0=[])/\(b=false->q0/\l=r0)) (l.length*(16:Nat)<=(140737488355328:Nat))):=by kernel_rfl
theorem qY (l:List Opn):Sat Try.prog (aq aI) 19 [.c (.fz (.nm .opn) (l))] [] ⟨[],[.c (.own 0)],some ([.row 48 (.nm .opn) ((l))]),true⟩:=by
 refine eC ey [] Try.func19 (by decide) (by kernel_rfl) ?_
 rw [qz]
 exact fun h b hb=>⟨hb,fun _=>⟨h,rfl⟩⟩
theorem nX (l:List Snap) (r0:List Snap):sm aI ot [] Try.f20 [.c (.fz (.nm .snap) (l))] [] [.c (.own 0)] [.row 59 (.nm .snap) (r0)]=((fun (q0:Prop)=>q0->∀ (b:Bool),(b=true->l=[])->(b=true->r0=[])/\(b=false->q0/\l=r0)) (l.length*(64:Nat)<=(140737488355328:Nat))):=by kernel_rfl
theorem oQ (l:List Snap):Sat Try.prog (aq aI) 20 [.c (.fz (.nm .snap) (l))] [] ⟨[],[.c (.own 0)],some ([.row 59 (.nm .snap) ((l))]),true⟩:=by
 refine eC ey [] Try.func20 (by decide) (by kernel_rfl) ?_
 rw [nX]
 exact fun h b hb=>⟨hb,fun _=>⟨h,rfl⟩⟩
theorem qi (l:List Int) (r0:List Int):dx aI ot [] Try.f21 [.c (.fz .int (l))] [] [.c (.fz .int (r0))]=((fun (q0:Prop)=>q0->∀ (b:Bool),(b=true->l=[])->(b=true->r0=[])/\(b=false->q0/\l=r0)) (l.length*(8:Nat)<=(140737488355328:Nat))):=by kernel_rfl
theorem qa (l:List Int):Sat Try.prog (aq aI) 21 [.c (.fz .int (l))] [] ⟨[],[.c (.fz .int ((l)))],none,false⟩:=by
 refine aX ey [] Try.func21 (by decide) (by kernel_rfl) ?_
 rw [qi]
 intros; repeat' (first | refine And.intro ?_ ?_ | intro)
 all_goals first | rfl | assumption | simp_all
def qX:cu:=(bV 21 (bO (aj (kC (cL .int)) aR) aQ fun (l,_) (_)=>⟨[],[.c (.fz .int ((l)))],none,false⟩) (bV 20 (bO (aj (kC (cL (.nm .snap))) aR) aQ fun (l,_) (_)=>⟨[],[.c (.own 0)],some ([.row 59 (.nm .snap) ((l))]),true⟩) (bV 19 (bO (aj (kC (cL (.nm .opn))) aR) aQ fun (l,_) (_)=>⟨[],[.c (.own 0)],some ([.row 48 (.nm .opn) ((l))]),true⟩) (bV 18 (bO (aj (kC (cL (.nm .sess))) aR) aQ fun (l,_) (_)=>⟨[],[.c (.own 0)],some ([.row 40 (.nm .sess) ((l))]),true⟩) (bV 42 (bO (aj (kC (cL (.nm .opn))) (aj (kC (mK 43 [] [])) aR)) aQ fun (l,_,_) (_)=>⟨[],[.c (.bool (.atom ((l.all (bN)))))],none,false⟩) (bV 38 (bO (aj (kC (cL (.nm .sess))) (aj (kC (mK 39 [] [])) aR)) aQ fun (l,_,_) (_)=>⟨[],[.c (.bool (.atom ((l.all (bJ)))))],none,false⟩) (bV 89 (bO (aj (kC cU) aR) aQ fun (n,_) (_)=>⟨[],[.c (.own 0)],some ([.row 5 .u8 ((mA n.n))]),true⟩) ot)))))))
theorem fv:aP Try.prog (aq aI) qX:=(aC (aB (ae (aw cg) al) ao fun (l,_) (_) _=>qa l ) (aC (aB (ae (aw cg) al) ao fun (l,_) (_) _=>oQ l ) (aC (aB (ae (aw cg) al) ao fun (l,_) (_) _=>qY l ) (aC (aB (ae (aw cg) al) ao fun (l,_) (_) _=>oW l ) (aC (aB (ae (aw cg) (ae (aw cm) al)) ao fun (l,_,_) (_) _=>uG l ) (aC (aB (ae (aw cg) (ae (aw cm) al)) ao fun (l,_,_) (_) _=>vr l ) (aC (aB (ae (aw Cf) al) ao fun (n,_) (_) _=>EP n ) ey)))))))
end Go.Proofs.Ytdggohppeeaipaa
namespace Go.Proofs.Ytdggohppeeaipaa
open Go.RowKit
theorem sa {x:Int} {l:List Int} {k:Nat} (h:eS x (l.take k) = -1) (hk:l.length<=k):-1=eS x l:=by rw [List.take_of_length_le hk] at h; exact h.symm
theorem oo {x y:Int} {l:List Int} {k:Nat} (h:eS x (l.take k) = -1) (hy:l[k]? = some y) (e:x=y):(k:Int)=eS x l:=by
 refine xg (fun j z hj hz hc=>?_) hy e
 have hm:z ∈ l.take k:=by
  obtain ⟨h1,h2⟩:=List.getElem?_eq_some_iff.1 hz
  rw [List.mem_take_iff_getElem]; exact ⟨j,by omega,h2⟩
 have:decide (0<=eS x (l.take k))=true:=by rw [uu,List.contains_iff_mem,hc]; exact hm
 rw [decide_eq_true_eq] at this; omega
theorem rK {x y:Int} {l:List Int} {k:Nat} (h:eS x (l.take k) = -1) (hy:l[k]? = some y) (e:¬ x=y):eS x (l.take (k+1)) = -1:=by
 have h0:(l.take k).contains x=false:=by
  have:=uu x (l.take k)
  rw [<- this,h]; decide
 have h1:(l.take (k+1)).contains x=false:=by
  rw [aL hy,<- Bool.not_eq_true,List.contains_iff_mem] at *
  intro hm
  rcases List.mem_append.1 hm with hm | hm
  ·exact h0 hm
  ·exact e (List.mem_singleton.1 hm)
 rw [<- uu,decide_eq_false_iff_not] at h1
 unfold eS at h1 ⊢
 split
 ·rename_i i hi; rw [hi] at h1; dsimp only at h1; omega
 ·rfl
theorem Er {l:List Int} {k:Nat} {x:Int} (hr:di l=true) (hx:l[k]? = some x):0<=x:=Int.le_of_lt (rZ hr x (List.mem_of_getElem? hx)).1
theorem sw {l:List Int} {k:Nat} {x:Int} (hr:di l=true) (hx:l[k]? = some x):((eb (l.take k)).length+(mA x.toNat).length)*1<=140737488355328:=by
 have h1:=wV (l:=l.take k) (fun x hx=>(rZ hr x (List.mem_of_mem_take hx)).2)
 have h2:=oY hr
 have h3:=rZ hr x (List.mem_of_getElem? hx)
 have h4:=l_ (n:=x.toNat) (by omega)
 rw [List.length_take] at h1; omega
def wO (l:List Int) (x:Int):List (Nat × LI):=[(2,{ σ:=Nat,F:=fun k=>([(0,one (.fz .int (l))),(1,one (.int (x))),(7,one (.int (l).length)),(8,one (.int k))],[]),J:=fun k=>k<=l.length/\eS x (l.take k) = -1,μ:=fun k=>(l).length - k })]
def ug (l:List Int):List (Nat × LI):=[(5,{ σ:=Nat,F:=fun k=>([(4,one (.own 0)),(10,one (.fz .int (l))),(11,one (.int (l).length)),(12,one (.int k))],[.row 5 .u8 ((eb (l.take k)))]),J:=fun k=>k<=l.length/\di l=true,μ:=fun k=>(l).length - k })]
theorem Bq (l:List Int) (x:Int) (r0:Int):dx aI qX (wO l x) Try.f90 [.c (.fz .int (l)),.c (.int (x))] [] [.c (.int (r0))]=((fun (q1:Int)=>(fun (q0:Nat)=>l.length*(8:Nat)<=(140737488355328:Nat)->I64 x->∃ (s0:Nat),(l=l/\x=x/\(↑l.length:Int)=(↑q0:Int)/\(0:Int)=(↑s0:Int))/\(s0<=q0/\eS x (List.take s0 l) = -q1)/\∀ (s:Nat),s<=q0/\eS x (List.take s l) = -q1->((↑s:Int)<(↑q0:Int)->(0:Int)<=(↑s:Int)/\(↑s:Int)<(↑l.length:Int)/\∀ (x_1:Int),l[s]? = some x_1->I64 x_1->(x=x_1->(↑s:Int)=r0)/\(¬x=x_1->I64 ((↑s:Int)+q1)/\∃ (s':Nat),(l=l/\x=x/\(↑q0:Int)=(↑q0:Int)/\(↑s:Int)+q1=(↑s':Int))/\(s' <= q0/\eS x (List.take s' l) = -q1)/\q0 - s' < q0 - s))/\((↑q0:Int)<=(↑s:Int) -> -q1=r0)) l.length) (1:Int)):=by kernel_rfl
theorem A_ (l:List Int) (x:Int):Sat Try.prog (aq aI) 90 [.c (.fz .int (l)),.c (.int (x))] [] ⟨[],[.c (.int ((eS x l)))],none,false⟩:=by
 refine aX fv (wO l x) Try.func90 (by decide) (by kernel_rfl) ?_
 rw [Bq]
 (repeat' (first | with_reducible refine And.intro ?_ ?_ | with_reducible refine and_imp.2 ?_ | intro))
 all_goals try (first | (first | with_reducible rfl | with_reducible assumption | omega | (refine av ?_ ?_ <;> omega)) | exact rfl | exact (sa (by with_reducible assumption) (by omega)) | exact (oo (by with_reducible assumption) (by with_reducible assumption) (by with_reducible assumption)) | exact (rK (by with_reducible assumption) (by with_reducible assumption) (by with_reducible assumption)))
 all_goals try (refine ⟨0,?_⟩; (repeat' (first | with_reducible refine And.intro ?_ ?_ | with_reducible refine and_imp.2 ?_ | intro)))
 all_goals try (first | (first | with_reducible rfl | with_reducible assumption | omega | (refine av ?_ ?_ <;> omega)) | exact rfl | exact (sa (by with_reducible assumption) (by omega)) | exact (oo (by with_reducible assumption) (by with_reducible assumption) (by with_reducible assumption)) | exact (rK (by with_reducible assumption) (by with_reducible assumption) (by with_reducible assumption)))
 all_goals try (refine ⟨‹Nat› + 1,?_⟩; (repeat' (first | with_reducible refine And.intro ?_ ?_ | with_reducible refine and_imp.2 ?_ | intro)))
 all_goals (first | (first | with_reducible rfl | with_reducible assumption | omega | (refine av ?_ ?_ <;> omega)) | exact rfl | exact (sa (by with_reducible assumption) (by omega)) | exact (oo (by with_reducible assumption) (by with_reducible assumption) (by with_reducible assumption)) | exact (rK (by with_reducible assumption) (by with_reducible assumption) (by with_reducible assumption)))
theorem BF (n:Int) (most:Int) (named:Bool) (r0:Bool):dx aI qX [] Try.f74 [.c (.int (n)),.c (.int (most)),.c (.bool (.atom (named)))] [] [.c (.bool (.atom (r0)))]=(I64 n->I64 most->(named=true->(decide ((1:Int)<=n) && decide (n<=most))=r0)/\(named=false->decide (n=(0:Int))=r0)):=by kernel_rfl
theorem BB (n:Int) (most:Int) (named:Bool):Sat Try.prog (aq aI) 74 [.c (.int (n)),.c (.int (most)),.c (.bool (.atom (named)))] [] ⟨[],[.c (.bool (.atom ((fE n most named))))],none,false⟩:=by
 refine aX fv [] Try.func74 (by decide) (by kernel_rfl) ?_
 rw [BF]
 grind [fE]
theorem wZ (l:List Int) (r0:List UInt8) (r1:Int):dx aI qX (ug l) Try.f71 [.c (.fz .int (l))] [] [.c (.fz .u8 (r0)),.c (.int (r1))]=((fun (q1:Prop)=>(fun (q0:Nat)=>l.length*(8:Nat)<=(140737488355328:Nat)->(di l=false->r0=[]/\(1:Int)=r1)/\(q1->∃ (s0:Nat),(l=l/\(↑l.length:Int)=(↑q0:Int)/\(0:Int)=(↑s0:Int)/\eb (List.take s0 l)=[])/\(s0<=q0/\q1)/\∀ (s:Nat),s<=q0/\q1->((↑s:Int)<(↑q0:Int)->(0:Int)<=(↑s:Int)/\(↑s:Int)<(↑l.length:Int)/\∀ (x:Int),l[s]? = some x->I64 x->(0:Int)<=x/\((eb (List.take s l)).length+(mA x.toNat).length)*(1:Nat)<=(140737488355328:Nat)/\I64 ((↑s:Int)+(1:Int))/\∃ (s':Nat),(l=l/\(↑q0:Int)=(↑q0:Int)/\(↑s:Int)+(1:Int)=(↑s':Int)/\eb (List.take s l)++mA x.toNat=eb (List.take s' l))/\(s' <= q0/\q1)/\q0 - s' < q0 - s)/\((↑q0:Int)<=(↑s:Int)->eb (List.take s l)=r0/\(0:Int)=r1))) l.length) (di l=true)):=by kernel_rfl
theorem wF (l:List Int):Sat Try.prog (aq aI) 71 [.c (.fz .int (l))] [] ⟨[],[.c (.fz .u8 ((fj l))),.c (.int ((cW l)))],none,false⟩:=by
 refine aX fv (ug l) Try.func71 (by decide) (by kernel_rfl) ?_
 rw [wZ]
 (repeat' (first | with_reducible refine And.intro ?_ ?_ | with_reducible refine and_imp.2 ?_ | intro))
 all_goals try (first | (first | with_reducible rfl | with_reducible assumption | omega | (refine av ?_ ?_ <;> omega)) | exact rfl | exact (jh (by with_reducible assumption)).symm | exact (fl (by with_reducible assumption)) | exact (eB (by with_reducible assumption)) | exact (lL (by with_reducible assumption) (by omega)) | exact (jf (by with_reducible assumption)) | exact (Er (by with_reducible assumption) (by with_reducible assumption)) | exact (sw (by with_reducible assumption) (by with_reducible assumption)))
 all_goals try (refine ⟨0,?_⟩; (repeat' (first | with_reducible refine And.intro ?_ ?_ | with_reducible refine and_imp.2 ?_ | intro)))
 all_goals try (first | (first | with_reducible rfl | with_reducible assumption | omega | (refine av ?_ ?_ <;> omega)) | exact rfl | exact (jh (by with_reducible assumption)).symm | exact (fl (by with_reducible assumption)) | exact (eB (by with_reducible assumption)) | exact (lL (by with_reducible assumption) (by omega)) | exact (jf (by with_reducible assumption)) | exact (Er (by with_reducible assumption) (by with_reducible assumption)) | exact (sw (by with_reducible assumption) (by with_reducible assumption)))
 all_goals try (refine ⟨‹Nat› + 1,?_⟩; (repeat' (first | with_reducible refine And.intro ?_ ?_ | with_reducible refine and_imp.2 ?_ | intro)))
 all_goals (first | (first | with_reducible rfl | with_reducible assumption | omega | (refine av ?_ ?_ <;> omega)) | exact rfl | exact (jh (by with_reducible assumption)).symm | exact (fl (by with_reducible assumption)) | exact (eB (by with_reducible assumption)) | exact (lL (by with_reducible assumption) (by omega)) | exact (jf (by with_reducible assumption)) | exact (Er (by with_reducible assumption) (by with_reducible assumption)) | exact (sw (by with_reducible assumption) (by with_reducible assumption)))
theorem yT (s:State) (x:Int) (r0:Int):dx aI qX [] Try.f24 [.agg (cellsOf (.nm .state) s),.c (.int (x))] [] [.c (.int (r0))]=(I64 s.version->I64 s.next->I64 s.keep->I64 s.quota->s.sess.length*(32:Nat)<=(140737488355328:Nat)->s.opens.length*(16:Nat)<=(140737488355328:Nat)->s.snaps.length*(64:Nat)<=(140737488355328:Nat)->I64 x->I64 (ah Sess.client x s.sess)->ah Sess.client x s.sess=r0):=by kernel_rfl
theorem xz (s:State) (x:Int):Sat Try.prog (aq aI) 24 [.agg (cellsOf (.nm .state) s),.c (.int (x))] [] ⟨[],[.c (.int ((ah Sess.client x s.sess)))],none,false⟩:=by
 refine aX fv [] Try.func24 (by decide) (by kernel_rfl) ?_
 rw [yT]
 grind
theorem yx (s:State) (x:Int) (r0:Int):dx aI qX [] Try.f79 [.agg (cellsOf (.nm .state) s),.c (.int (x))] [] [.c (.int (r0))]=(I64 s.version->I64 s.next->I64 s.keep->I64 s.quota->s.sess.length*(32:Nat)<=(140737488355328:Nat)->s.opens.length*(16:Nat)<=(140737488355328:Nat)->s.snaps.length*(64:Nat)<=(140737488355328:Nat)->I64 x->I64 (ah Opn.set x s.opens)->ah Opn.set x s.opens=r0):=by kernel_rfl
theorem zC (s:State) (x:Int):Sat Try.prog (aq aI) 79 [.agg (cellsOf (.nm .state) s),.c (.int (x))] [] ⟨[],[.c (.int ((ah Opn.set x s.opens)))],none,false⟩:=by
 refine aX fv [] Try.func79 (by decide) (by kernel_rfl) ?_
 rw [yx]
 grind
theorem yK (s:State) (x:Int) (r0:Int):dx aI qX [] Try.f51 [.agg (cellsOf (.nm .state) s),.c (.int (x))] [] [.c (.int (r0))]=(I64 s.version->I64 s.next->I64 s.keep->I64 s.quota->s.sess.length*(32:Nat)<=(140737488355328:Nat)->s.opens.length*(16:Nat)<=(140737488355328:Nat)->s.snaps.length*(64:Nat)<=(140737488355328:Nat)->I64 x->I64 (ah Snap.id x s.snaps)->ah Snap.id x s.snaps=r0):=by kernel_rfl
theorem wq (s:State) (x:Int):Sat Try.prog (aq aI) 51 [.agg (cellsOf (.nm .state) s),.c (.int (x))] [] ⟨[],[.c (.int ((ah Snap.id x s.snaps)))],none,false⟩:=by
 refine aX fv [] Try.func51 (by decide) (by kernel_rfl) ?_
 rw [yK]
 grind
def zY:cu:=(bV 51 (bO (aj (kT (.nm .state)) (aj (kC cI) aR)) aQ fun (s,x,_) (_)=>⟨[],[.c (.int ((ah Snap.id x s.snaps)))],none,false⟩) (bV 79 (bO (aj (kT (.nm .state)) (aj (kC cI) aR)) aQ fun (s,x,_) (_)=>⟨[],[.c (.int ((ah Opn.set x s.opens)))],none,false⟩) (bV 24 (bO (aj (kT (.nm .state)) (aj (kC cI) aR)) aQ fun (s,x,_) (_)=>⟨[],[.c (.int ((ah Sess.client x s.sess)))],none,false⟩) (bV 71 (bO (aj (kC (cL .int)) aR) aQ fun (l,_) (_)=>⟨[],[.c (.fz .u8 ((fj l))),.c (.int ((cW l)))],none,false⟩) (bV 74 (bO (aj (kC cI) (aj (kC cI) (aj (kC cB) aR))) aQ fun (n,most,named,_) (_)=>⟨[],[.c (.bool (.atom ((fE n most named))))],none,false⟩) (bV 90 (bO (aj (kC (cL .int)) (aj (kC cI) aR)) aQ fun (l,x,_) (_)=>⟨[],[.c (.int ((eS x l)))],none,false⟩) qX))))))
theorem nV:aP Try.prog (aq aI) zY:=(aC (aB (ae b_ (ae (aw ax) al)) ao fun (s,x,_) (_) _=>wq s x ) (aC (aB (ae b_ (ae (aw ax) al)) ao fun (s,x,_) (_) _=>zC s x ) (aC (aB (ae b_ (ae (aw ax) al)) ao fun (s,x,_) (_) _=>xz s x ) (aC (aB (ae (aw cg) al) ao fun (l,_) (_) _=>wF l ) (aC (aB (ae (aw ax) (ae (aw ax) (ae (aw qH) al))) ao fun (n,most,named,_) (_) _=>BB n most named ) (aC (aB (ae (aw cg) (ae (aw ax) al)) ao fun (l,x,_) (_) _=>A_ l x ) fv))))))
end Go.Proofs.Ytdggohppeeaipaa
namespace Go.Proofs.Ytdggohppeeaipaa
open Go.RowKit
theorem sK (l:List Int) (x:Int) (r0:Bool):dx aI zY [] Try.f73 [.c (.fz .int (l)),.c (.int (x))] [] [.c (.bool (.atom (r0)))]=(l.length*(8:Nat)<=(140737488355328:Nat)->I64 x->I64 (eS x l)->decide ((0:Int)<=eS x l)=r0):=by kernel_rfl
theorem sj (l:List Int) (x:Int):Sat Try.prog (aq aI) 73 [.c (.fz .int (l)),.c (.int (x))] [] ⟨[],[.c (.bool (.atom ((l.contains x))))],none,false⟩:=by
 refine aX nV [] Try.func73 (by decide) (by kernel_rfl) ?_
 rw [sK]
 intros; exact uu _ _
theorem xH (x:Snap) (v:Int) (t:Int) (r0:Bool):dx aI zY [] Try.f70 [.agg (cellsOf (.nm .snap) x),.c (.ptr 0 0),.c (.ptr 1 0)] [.box 3 ([.int (v)]),.box 3 ([.int (t)])] [.c (.bool (.atom (r0)))]=(I64 x.id->I64 x.set->x.chunks.length*(8:Nat)<=(140737488355328:Nat)->x.tag.b.length<=(140737488355328:Nat)->(fj x.chunks).length*(1:Nat)<=(140737488355328:Nat)->I64 (cW x.chunks)->(decide (cW x.chunks=(0:Int)) && bU x.set (1:Int) (8:Int) && (!x.held || decide ((2:Int)<=v)) && decide ((↑x.tag.b.length:Int)<=t))=r0):=by kernel_rfl
theorem xv (x:Snap) (v:Int) (t:Int):Sat Try.prog (aq aI) 70 [.agg (cellsOf (.nm .snap) x),.c (.ptr 0 0),.c (.ptr 1 0)] [.box 3 ([.int (v)]),.box 3 ([.int (t)])] ⟨[],[.c (.bool (.atom ((bg v t x))))],none,false⟩:=by
 refine aX nV [] Try.func70 (by decide) (by kernel_rfl) ?_
 rw [xH]
 intros; rfl
def Bg:cu:=(bV 70 (bO (aj (kT (.nm .snap)) (aj (kC (bL 0 0)) (aj (kC (bL 1 0)) aR))) (ay (bI 3 (ai cI bG)) (ay (bI 3 (ai cI bG)) aQ)) fun (x,_,_,_) ((v,_),(t,_),_)=>⟨[],[.c (.bool (.atom ((bg v t x))))],none,false⟩) (bV 73 (bO (aj (kC (cL .int)) (aj (kC cI) aR)) aQ fun (l,x,_) (_)=>⟨[],[.c (.bool (.atom ((l.contains x))))],none,false⟩) zY))
theorem nR:aP Try.prog (aq aI) Bg:=(aC (aB (ae b_ (ae (aw aH) (ae (aw aH) al))) (ag (aF (ab ax aE)) (ag (aF (ab ax aE)) ao)) fun (x,_,_,_) ((v,_),(t,_),_) _=>xv x v t ) (aC (aB (ae (aw cg) (ae (aw ax) al)) ao fun (l,x,_) (_) _=>sj l x ) nV))
end Go.Proofs.Ytdggohppeeaipaa
namespace Go.Proofs.Ytdggohppeeaipaa
open Go.RowKit
def rC (l:List Snap) (v:Int) (t:Int):List (Nat × LI):=[(2,{ σ:=Nat,F:=fun k=>([(1,one (.fn 70 [] [(0,0),(1,0)])),(7,one (.fz (.nm .snap) (l))),(8,one (.int (l).length)),(9,one (.int k))],[.box 3 ([.int ((v))]),.box 3 ([.int ((t))])]),J:=fun k=>k<=l.length/\(l.take k).all ((bg v t))=true,μ:=fun k=>(l).length - k })]
theorem zV (l:List Int) (c:Command) (r0:Bool):dx aI Bg [] Try.f72 [.c (.fz .int (l)),.c (.ptr 0 0)] [.box 42 (cellsOf (.nm .command) (c))] [.c (.bool (.atom (r0)))]=(l.length*(8:Nat)<=(140737488355328:Nat)->l.contains c.kind=r0):=by kernel_rfl
theorem AE (l:List Int) (c:Command):Sat Try.prog (aq aI) 72 [.c (.fz .int (l)),.c (.ptr 0 0)] [.box 42 (cellsOf (.nm .command) (c))] ⟨[],[.c (.bool (.atom ((l.contains c.kind))))],none,false⟩:=by
 refine aX nR [] Try.func72 (by decide) (by kernel_rfl) ?_
 rw [zV]
 grind
theorem vF (l:List Snap) (v:Int) (t:Int) (r0:Bool):dx aI Bg (rC l v t) Try.f69 [.c (.fz (.nm .snap) (l)),.c (.fn 70 [] [(0,0),(1,0)])] [.box 3 ([.int (v)]),.box 3 ([.int (t)])] [.c (.bool (.atom (r0)))]=((fun (q0:Nat)=>l.length*(64:Nat)<=(140737488355328:Nat)->∃ (s0:Nat),(l=l/\(↑l.length:Int)=(↑q0:Int)/\(0:Int)=(↑s0:Int)/\v=v/\t=t)/\(s0<=q0/\(List.take s0 l).all (bg v t)=true)/\∀ (s:Nat),s<=q0/\(List.take s l).all (bg v t)=true->((↑s:Int)<(↑q0:Int)->(0:Int)<=(↑s:Int)/\(↑s:Int)<(↑l.length:Int)/\∀ (x:Snap),l[s]? = some x->I64 x.id->I64 x.set->x.chunks.length*(8:Nat)<=(140737488355328:Nat)->x.tag.b.length<=(140737488355328:Nat)->(bg v t x=false->false=r0)/\(bg v t x=true->I64 ((↑s:Int)+(1:Int))/\∃ (s':Nat),(l=l/\(↑q0:Int)=(↑q0:Int)/\(↑s:Int)+(1:Int)=(↑s':Int)/\v=v/\t=t)/\(s' <= q0/\(List.take s' l).all (bg v t)=true)/\q0 - s' < q0 - s))/\((↑q0:Int)<=(↑s:Int)->true=r0)) l.length):=by kernel_rfl
theorem vo (l:List Snap) (v:Int) (t:Int):Sat Try.prog (aq aI) 69 [.c (.fz (.nm .snap) (l)),.c (.fn 70 [] [(0,0),(1,0)])] [.box 3 ([.int (v)]),.box 3 ([.int (t)])] ⟨[],[.c (.bool (.atom ((l.all ((bg v t))))))],none,false⟩:=by
 refine aX nR (rC l v t) Try.func69 (by decide) (by kernel_rfl) ?_
 rw [vF]
 (repeat' (first | with_reducible refine And.intro ?_ ?_ | with_reducible refine and_imp.2 ?_ | intro))
 all_goals try (first | (first | with_reducible rfl | with_reducible assumption | omega | (refine av ?_ ?_ <;> omega)) | exact (dm (p:=(bg v t)) (by with_reducible assumption) (by with_reducible assumption) (by with_reducible assumption)) | exact (iw (p:=(bg v t)) (by with_reducible assumption) (by with_reducible assumption)) | exact (iy (p:=(bg v t)) (by with_reducible assumption) (by omega)) | exact rfl)
 all_goals try (refine ⟨0,?_⟩; (repeat' (first | with_reducible refine And.intro ?_ ?_ | with_reducible refine and_imp.2 ?_ | intro)))
 all_goals try (first | (first | with_reducible rfl | with_reducible assumption | omega | (refine av ?_ ?_ <;> omega)) | exact (dm (p:=(bg v t)) (by with_reducible assumption) (by with_reducible assumption) (by with_reducible assumption)) | exact (iw (p:=(bg v t)) (by with_reducible assumption) (by with_reducible assumption)) | exact (iy (p:=(bg v t)) (by with_reducible assumption) (by omega)) | exact rfl)
 all_goals try (refine ⟨‹Nat› + 1,?_⟩; (repeat' (first | with_reducible refine And.intro ?_ ?_ | with_reducible refine and_imp.2 ?_ | intro)))
 all_goals (first | (first | with_reducible rfl | with_reducible assumption | omega | (refine av ?_ ?_ <;> omega)) | exact (dm (p:=(bg v t)) (by with_reducible assumption) (by with_reducible assumption) (by with_reducible assumption)) | exact (iw (p:=(bg v t)) (by with_reducible assumption) (by with_reducible assumption)) | exact (iy (p:=(bg v t)) (by with_reducible assumption) (by omega)) | exact rfl)
def BI:cu:=(bV 69 (bO (aj (kC (cL (.nm .snap))) (aj (kC (mK 70 [] [(0,0),(1,0)])) aR)) (ay (bI 3 (ai cI bG)) (ay (bI 3 (ai cI bG)) aQ)) fun (l,_,_) ((v,_),(t,_),_)=>⟨[],[.c (.bool (.atom ((l.all ((bg v t))))))],none,false⟩) (bV 72 (bO (aj (kC (cL .int)) (aj (kC (bL 0 0)) aR)) (ay (bI 42 (px (.nm .command) bG)) aQ) fun (l,_,_) ((c,_),_)=>⟨[],[.c (.bool (.atom ((l.contains c.kind))))],none,false⟩) Bg))
theorem pq:aP Try.prog (aq aI) BI:=(aC (aB (ae (aw cg) (ae (aw cm) al)) (ag (aF (ab ax aE)) (ag (aF (ab ax aE)) ao)) fun (l,_,_) ((v,_),(t,_),_) _=>vo l v t ) (aC (aB (ae (aw cg) (ae (aw aH) al)) (ag (aF (cO aE)) ao) fun (l,_,_) ((c,_),_) _=>AE l c ) nR))
end Go.Proofs.Ytdggohppeeaipaa
namespace Go.Proofs.Ytdggohppeeaipaa
open Go.RowKit
theorem FP (k:Int):(if k=12 then some (Span.mk 0 64) else if k=8 then some (Span.mk 2 3) else if k=6 then some (Span.mk 0 8) else none).getD (dflt (.nm .span))=⟨(kN k).1,(kN k).2⟩:=by
 by_cases h1:k=12
 ·subst h1; rfl
 ·by_cases h2:k=8
  ·subst h2; rfl
  ·by_cases h3:k=6
   ·subst h3; rfl
   ·simp [kN,nq,h1,h2,h3,dflt]; rfl
theorem DQ (c:Command) (r0:Bool):dx aI BI [] Try.f47 [.agg (cellsOf (.nm .command) c)] [] [.c (.bool (.atom (r0)))]=((fun (q9:Int)=>(fun (q8:Int)=>(fun (q7:Prop)=>(fun (q6:Bool)=>(fun (q5:Bool)=>(fun (q4:Bool)=>(fun (q3:Prop)=>(fun (q2:Prop)=>(fun (q1:Prop)=>(fun (q0:den (Sh.nm NT.span))=>I64 q8->I64 c.client->I64 c.seq->I64 c.set->I64 c.id->I64 c.n->c.chunks.length*(8:Nat)<=(140737488355328:Nat)->c.text.b.length<=(140737488355328:Nat)->(q8=(3:Int)->((decide (q0.lo<=c.n) && decide (c.n<=q0.hi))=true->(di c.chunks=true->(q7->q1)/\(¬q7->q2))/\(di c.chunks=false->q2))/\((decide (q0.lo<=c.n) && decide (c.n<=q0.hi))=false->q2))/\(¬q8=(3:Int)->(q8=(11:Int)->((decide (q0.lo<=c.n) && decide (c.n<=q0.hi))=true->(q3->((↑c.text.b.length:Int)<=(16:Int)->q1)/\((16:Int)<(↑c.text.b.length:Int)->q2))/\(¬q3->q2))/\((decide (q0.lo<=c.n) && decide (c.n<=q0.hi))=false->q2))/\(¬q8=(11:Int)->((decide (q0.lo<=c.n) && decide (c.n<=q0.hi))=true->(q3->(q7->q1)/\(¬q7->q2))/\(¬q3->q2))/\((decide (q0.lo<=c.n) && decide (c.n<=q0.hi))=false->q2)))) (((fun (j:Int)=>if j=(12:Int) then some (Span.mk (0:Int) (64:Int)) else (fun (j:Int)=>if j=q9 then some (Span.mk (2:Int) (3:Int)) else (fun (j:Int)=>if j=(6:Int) then some (Span.mk (0:Int) q9) else (fun (_:Int)=>none) j) j) j) q8).getD (dflt (Sh.nm NT.span)))) ((q6=true->(q5=true->(q4=true->fE c.id (1048576:Int) ([(5:Int),(7:Int),(9:Int),(10:Int),(11:Int)].contains q8)=r0)/\(q4=false->q2))/\(q5=false->q2))/\(q6=false->q2))) (false=r0)) ((↑c.chunks.length:Int)=(0:Int))) (fE c.set q9 ([(2:Int),(3:Int),(4:Int)].contains q8))) (fE c.seq (1048576:Int) ![(1:Int),q9].contains q8)) (fE c.client q9 ![q9].contains q8)) (c.text=Str.mk [])) c.kind) (8:Int)):=by kernel_rfl
theorem Ev (c:Command):Sat Try.prog (aq aI) 47 [.agg (cellsOf (.nm .command) c)] [] ⟨[],[.c (.bool (.atom ((eg c))))],none,false⟩:=by
 refine aX pq [] Try.func47 (by decide) (by kernel_rfl) ?_
 rw [DQ]
 simp only [FP]
 (repeat' (first | with_reducible refine And.intro ?_ ?_ | with_reducible refine and_imp.2 ?_ | intro))
 all_goals ((unfold eg Gd Ge; simp_all) <;> (intros; omega))
theorem Bd (s:State) (v:Int) (r0:Bool):dx aI BI [] Try.f44 [.agg (cellsOf (.nm .state) s),.c (.int (v))] [] [.c (.bool (.atom (r0)))]=((fun (q1:Nat)=>(fun (q0:Int)=>I64 s.version->I64 s.next->I64 s.keep->I64 s.quota->s.sess.length*(32:Nat)<=(140737488355328:Nat)->s.opens.length*(16:Nat)<=(140737488355328:Nat)->q1*(64:Nat)<=(140737488355328:Nat)->I64 v->((↑q1:Int)<=(16:Int)->I64 q0/\q0<=(1048576:Int))/\((16:Int)<(↑q1:Int)\/ak Snap.id q0 (0:Int) s.snaps=false->false=r0)/\((↑q1:Int)<=(16:Int)/\ak Snap.id q0 (0:Int) s.snaps=true->(v<(3:Int)->s.snaps.all (bg v (0:Int))=r0)/\((3:Int)<=v->s.snaps.all (bg v (16:Int))=r0))) (s.next - (1:Int))) s.snaps.length):=by kernel_rfl
theorem Bs (s:State) (v:Int) (h0:1<=s.next/\s.next<=1048576):Sat Try.prog (aq aI) 44 [.agg (cellsOf (.nm .state) s),.c (.int (v))] [] ⟨[1<=s.next/\s.next<=1048576],[.c (.bool (.atom ((dr s v))))],none,false⟩:=by
 refine aX pq [] Try.func44 (by decide) (by kernel_rfl) ?_
 rw [Bd]
 (repeat' (first | with_reducible refine And.intro ?_ ?_ | with_reducible refine and_imp.2 ?_ | intro))
 all_goals (first | (first | with_reducible rfl | with_reducible assumption | omega | (refine av ?_ ?_ <;> omega)) | ((simp only [dr,dB]; simp_all) <;> (intros; omega)) | (simp only [dr,dB]; grind))
def Bt:cu:=(bV 44 (bO (aj (kT (.nm .state)) (aj (kC cI) aR)) aQ fun (s,v,_) (_)=>⟨[1<=s.next/\s.next<=1048576],[.c (.bool (.atom ((dr s v))))],none,false⟩) (bV 47 (bO (aj (kT (.nm .command)) aR) aQ fun (c,_) (_)=>⟨[],[.c (.bool (.atom ((eg c))))],none,false⟩) BI))
theorem oO:aP Try.prog (aq aI) Bt:=(aC (aB (ae b_ (ae (aw ax) al)) ao fun (s,v,_) (_) hp=>Bs s v (eU hp)) (aC (aB (ae b_ al) ao fun (c,_) (_) _=>Ev c ) pq))
end Go.Proofs.Ytdggohppeeaipaa
namespace Go.Proofs.Ytdggohppeeaipaa
open Go.RowKit
def cF (s:State) (at_:Nat) (k:Nat):Int:=(((s.snaps.drop (at_+1)).take k).filter fun x=>decide (x.set=(s.snaps.getD at_ (dflt (.nm .snap))).set)).length
def hY (s:State) (at_:Int):Bool:=if at_<0\/(s.snaps.length:Int)<=at_ then false else decide (cF s at_.toNat s.snaps.length<s.keep)
def nch (l:List Snap):Nat:=(l.flatMap Snap.chunks).length
def oq (c:Int) (l:List Snap):Nat:=(l.flatMap Snap.chunks).count c
def aW (id:Int) (l:List Snap):List Snap:=l.filter fun x=>!decide (x.id=id)
theorem gd {α:Type} {l:List α} {k:Nat} {d:α} (h:(k:Int)<l.length):l[k]? = some (l.getD k d):=by
 have hk:k<l.length:=by omega
 rw [List.getD_eq_getElem?_getD,List.getElem?_eq_getElem hk]; rfl
theorem rP {s:State} {a:Nat}:0=cF s a 0:=by simp [cF]
theorem AW {s:State} {a k:Nat}:cF s a k<=(k:Int):=by
 have h1:=List.length_filter_le (fun x:Snap=>decide (x.set=(s.snaps.getD a (dflt (.nm .snap))).set)) ((s.snaps.drop (a+1)).take k)
 have h2:((s.snaps.drop (a+1)).take k).length<=k:=by rw [List.length_take]; omega
 unfold cF; omega
theorem Ae {s:State} {a k:Nat}:0<=cF s a k:=by unfold cF; omega
theorem rW {s:State} {a k:Nat} (h:a+1+k<=s.snaps.length) (h2:s.snaps.length*64<=140737488355328):I64 (cF s a k+1):=by
 have h1:=AW (s:=s) (a:=a) (k:=k)
 have h0:=Ae (s:=s) (a:=a) (k:=k)
 constructor <;> omega
theorem sR {s:State} {a k:Nat} {x:Snap} (hx:(s.snaps.drop (a+1))[k]? = some x) (h:x.set=(s.snaps.getD a (dflt (.nm .snap))).set):cF s a k+1=cF s a (k+1):=by
 unfold cF
 rw [aL hx,List.filter_append,List.length_append]
 simp [h]
theorem sG {s:State} {a k:Nat} {x:Snap} (hx:(s.snaps.drop (a+1))[k]? = some x) (h:¬ x.set=(s.snaps.getD a (dflt (.nm .snap))).set):cF s a k=cF s a (k+1):=by
 unfold cF
 rw [aL hx,List.filter_append,List.length_append]
 rw [show List.filter (fun x:Snap=>decide (x.set=(s.snaps.getD a (dflt (.nm .snap))).set)) [x]=[] by simp only [List.filter_cons,h,decide_false,List.filter_nil]; rfl]
 simp
theorem mc {s:State} {a:Int} {k:Nat} (h0:0<=a) (ha:a<s.snaps.length) (h:(s.snaps.length:Int)<=a+1+k):decide (cF s a.toNat k<s.keep)=hY s a:=by
 unfold hY
 rw [if_neg (by omega)]
 have e:∀ m:Nat,(s.snaps.length:Int)<=a+1+m->cF s a.toNat m=cF s a.toNat s.snaps.length:=fun m hm=>by
  unfold cF
  rw [List.take_of_length_le (by rw [List.length_drop]; omega),List.take_of_length_le (by rw [List.length_drop]; omega)]
 rw [e k h]
theorem lE {s:State} {a:Int} (h:a<0\/(s.snaps.length:Int)<=a):false=hY s a:=by unfold hY; rw [if_pos h]
theorem xO {id:Int} {l:List Snap} {k:Nat} {x y:Snap} (h:¬ x.id=id) (hx:l[k]? = some x) (hy:l[k]? = some y):aW id (l.take k)++[y]=aW id (l.take (k+1)):=by
 rw [hx] at hy; cases hy
 unfold aW; rw [aL hx,List.filter_append]; simp [h]
theorem ze {id:Int} {l:List Snap} {k:Nat} {x:Snap} (hx:l[k]? = some x) (h:x.id=id):aW id (l.take k)=aW id (l.take (k+1)):=by
 unfold aW; rw [aL hx,List.filter_append]; simp [h]
theorem sr {id:Int} {l:List Snap} {k:Nat} (h:(l.length:Int)<=k):aW id (l.take k)=aW id l:=by rw [List.take_of_length_le (by omega)]
theorem rN {id:Int} {l:List Snap} {k:Nat} {x:Snap} (h:(k:Int)<l.length) (hl:l.length*64<=140737488355328):((aW id (l.take k)).length+[x].length)*64<=140737488355328:=by
 have h1:=List.length_filter_le (fun x:Snap=>!decide (x.id=id)) (l.take k)
 rw [List.length_take] at h1
 unfold aW
 simp only [List.length_cons,List.length_nil]
 omega
def Cp (st:State) (at_:Int):List (Nat × LI):=[(5,{ σ:=Nat,F:=fun k=>([(1,one (.int (at_))),(2,one (.ptr 0 0)),(5,one (.int (cF st at_.toNat k))),(21,one (.fz (.nm .snap) (st.snaps.drop (at_+1).toNat))),(22,one (.int (st.snaps.drop (at_+1).toNat).length)),(23,one (.int k))],[.box 29 (cellsOf (.nm .state) ((st)))]),J:=fun k=>at_.toNat+1+k<=st.snaps.length/\0<=at_,μ:=fun k=>st.snaps.length - k })]
theorem Bj (x:Int) (r0:Int):dx aI Bt [] Try.f11 [.c (.int (x))] [] [.c (.int (r0))]=(I64 x->(bU x (1:Int) (8:Int)=true->(1:Int)=r0)/\(bU x (1:Int) (8:Int)=false->(bU x (9:Int) (10:Int)=true->(2:Int)=r0)/\(bU x (9:Int) (10:Int)=false->(bU x (11:Int) (12:Int)=true->(3:Int)=r0)/\(bU x (11:Int) (12:Int)=false->(0:Int)=r0)))):=by kernel_rfl
theorem Ax (x:Int):Sat Try.prog (aq aI) 11 [.c (.int (x))] [] ⟨[],[.c (.int ((cN x)))],none,false⟩:=by
 refine aX oO [] Try.func11 (by decide) (by kernel_rfl) ?_
 rw [Bj]
 intro _
 by_cases h:1<=x/\x<=12
 ·rw [Cc h]; simp only [bU,Bool.and_eq_true,Bool.and_eq_false_iff,decide_eq_true_eq,decide_eq_false_iff_not]; (repeat' (first | with_reducible refine And.intro ?_ ?_ | with_reducible refine and_imp.2 ?_ | intro)) <;> (repeat split) <;> omega
 ·rw [Ai h]; exact ⟨fun h1=>absurd (mJ h1) (by omega),fun _=>⟨fun h1=>absurd (mJ h1) (by omega),fun _=>⟨fun h1=>absurd (mJ h1) (by omega),fun _=>rfl⟩⟩⟩
theorem Ey (st:State) (at_:Int) (r0:Bool):dx aI Bt (Cp st at_) Try.f86 [.agg (cellsOf (.nm .state) st),.c (.int (at_))] [] [.c (.bool (.atom (r0)))]=((fun (q8:Int)=>(fun (q7:Nat)=>(fun (q6:den (Sh.nm NT.snap))=>(fun (q5:Int)=>(fun (q4:Prop)=>(fun (q3:Nat)=>(fun (q2:List Snap)=>(fun (q1:Nat)=>(fun (q0:Prop)=>I64 st.version->I64 st.next->I64 st.keep->I64 st.quota->st.sess.length*(32:Nat)<=q7->st.opens.length*(16:Nat)<=q7->q2.length*(64:Nat)<=q7->I64 at_->(at_<q8\/(↑q2.length:Int)<=at_->false=r0)/\(q4/\at_<(↑q2.length:Int)->I64 (at_+q5)/\q8<=at_+q5/\at_+q5<=(↑q2.length:Int)/\∃ (s0:Nat),(fun (q13:Nat)=>(fun (q12:Nat)=>(fun (q11:den (Sh.nm NT.snap))=>(fun (q10:List (den (Sh.nm NT.snap)))=>(fun (q9:Int)=>(at_=at_/\q8=cF st q3 s0/\q10=q10/\(↑q10.length:Int)=q9/\q8=(↑s0:Int)/\q0)/\(q13+s0<=q12/\q4)/\∀ (s:Nat),(fun (q15:Int)=>(fun (q14:Int)=>q13+s<=q12/\q4->((↑s:Int)<q9->q8<=(↑s:Int)/\(↑s:Int)<(↑q10.length:Int)/\∀ (x:Snap),q10[s]? = some x->I64 x.id->I64 x.set->x.chunks.length*(8:Nat)<=q7->x.tag.b.length<=q7->q4/\at_<(↑q2.length:Int)/\(I64 q11.id->I64 q11.set->q11.chunks.length*(8:Nat)<=q7->q11.tag.b.length<=q7->(x.set=q11.set->I64 (q15+q5)/\I64 q14/\∃ (s':Nat),(at_=at_/\q15+q5=cF st q3 s' /\ q10=q10/\q9=q9/\q14=(↑s':Int)/\q0)/\(q13+s' <= q12/\q4)/\q12 - s' < q12 - s)/\(¬x.set=q11.set->I64 q14/\∃ (s':Nat),(at_=at_/\q15=cF st q3 s' /\ q10=q10/\q9=q9/\q14=(↑s':Int)/\q0)/\(q13+s' <= q12/\q4)/\q12 - s' < q12 - s)))/\(q9<=(↑s:Int)->decide (q15<st.keep)=r0)) ((↑s:Int)+q5)) (cF st q3 s)) (↑(List.drop q1 q2).length:Int)) (List.drop q1 q2)) (q2.getD q3 q6)) q2.length) (q3+(1:Nat)))) (st.version=st.version/\st.next=st.next/\st.keep=st.keep/\st.quota=st.quota/\st.sess=st.sess/\st.opens=st.opens/\q2=q2)) (at_+q5).toNat) st.snaps) at_.toNat) (q8<=at_)) (1:Int)) (dflt (Sh.nm NT.snap))) (140737488355328:Nat)) (0:Int)):=by kernel_rfl
theorem Dv (st:State) (at_:Int):Sat Try.prog (aq aI) 86 [.agg (cellsOf (.nm .state) st),.c (.int (at_))] [] ⟨[],[.c (.bool (.atom ((hY st at_))))],none,false⟩:=by
 refine aX oO (Cp st at_) Try.func86 (by decide) (by kernel_rfl) ?_
 rw [Ey]
 (repeat' (first | with_reducible refine And.intro ?_ ?_ | with_reducible refine and_imp.2 ?_ | intro))
 all_goals try (first | (first | with_reducible rfl | with_reducible assumption | omega | (refine av ?_ ?_ <;> omega)) | exact rP | exact (lE (by assumption)) | exact (rW (by omega) (by omega)) | exact (mc (by omega) (by omega) (by rw [List.length_drop] at *; omega)) | exact (sR (by rw [show (at_+1).toNat=at_.toNat+1 by omega] at *; assumption) (by with_reducible assumption)) | exact (by have:=‹_<((List.length (List.drop _ _):Nat):Int)›; rw [List.length_drop] at this; omega) | exact (sG (by rw [show (at_+1).toNat=at_.toNat+1 by omega] at *; assumption) (by with_reducible assumption)))
 all_goals try (refine ⟨0,?_⟩; (repeat' (first | with_reducible refine And.intro ?_ ?_ | with_reducible refine and_imp.2 ?_ | intro)))
 all_goals try (first | (first | with_reducible rfl | with_reducible assumption | omega | (refine av ?_ ?_ <;> omega)) | exact rP | exact (lE (by assumption)) | exact (rW (by omega) (by omega)) | exact (mc (by omega) (by omega) (by rw [List.length_drop] at *; omega)) | exact (sR (by rw [show (at_+1).toNat=at_.toNat+1 by omega] at *; assumption) (by with_reducible assumption)) | exact (by have:=‹_<((List.length (List.drop _ _):Nat):Int)›; rw [List.length_drop] at this; omega) | exact (sG (by rw [show (at_+1).toNat=at_.toNat+1 by omega] at *; assumption) (by with_reducible assumption)))
 all_goals try (refine ⟨‹Nat› + 1,?_⟩; (repeat' (first | with_reducible refine And.intro ?_ ?_ | with_reducible refine and_imp.2 ?_ | intro)))
 all_goals (first | (first | with_reducible rfl | with_reducible assumption | omega | (refine av ?_ ?_ <;> omega)) | exact rP | exact (lE (by assumption)) | exact (rW (by omega) (by omega)) | exact (mc (by omega) (by omega) (by rw [List.length_drop] at *; omega)) | exact (sR (by rw [show (at_+1).toNat=at_.toNat+1 by omega] at *; assumption) (by with_reducible assumption)) | exact (by have:=‹_<((List.length (List.drop _ _):Nat):Int)›; rw [List.length_drop] at this; omega) | exact (sG (by rw [show (at_+1).toNat=at_.toNat+1 by omega] at *; assumption) (by with_reducible assumption)))
def zL:cu:=(bV 86 (bO (aj (kT (.nm .state)) (aj (kC cI) aR)) aQ fun (st,at_,_) (_)=>⟨[],[.c (.bool (.atom ((hY st at_))))],none,false⟩) (bV 11 (bO (aj (kC cI) aR) aQ fun (x,_) (_)=>⟨[],[.c (.int ((cN x)))],none,false⟩) Bt))
theorem kJ:aP Try.prog (aq aI) zL:=(aC (aB (ae b_ (ae (aw ax) al)) ao fun (st,at_,_) (_) _=>Dv st at_ ) (aC (aB (ae (aw ax) al) ao fun (x,_) (_) _=>Ax x ) oO))
end Go.Proofs.Ytdggohppeeaipaa
namespace Go.Proofs.Ytdggohppeeaipaa
open Go.RowKit
theorem sg {α:Type} {l:List α} {k:Nat} {d:α} (h:(k:Int)<l.length):l.set k (l.getD k d)=l:=by
 have hk:k<l.length:=by omega
 rw [List.getD_eq_getElem?_getD,List.getElem?_eq_getElem hk]; exact List.set_getElem_self hk
def n_ (l:List Snap) (k:Nat):Nat:=((List.range k).filter fun (i:Nat)=>decide (0<oq ((i:Int)+1) l)).length
def distF (l:List Snap):Nat:=n_ l 64
theorem Ap {l:List Snap} {k:Nat}:n_ l k<=k:=by
 unfold n_; refine Nat.le_trans (List.length_filter_le _ _) ?_; simp
def wb (st:State):List (Nat × LI):=[(5,{ σ:=Nat,F:=fun k=>([(1,one (.ptr 0 0)),(2,one (.ptr 1 0)),(18,one (.int st.snaps.length)),(19,one (.int k))],[.box 29 ([.int ((st.version)),.int ((st.next)),.int ((st.keep)),.int ((st.quota)),.own 2,.own 3,.own 4]),.box 29 ([.int ((0)),.int ((0)),.int ((0)),.int ((0)),.em true,.em true,.em true]),.row 40 (.nm .sess) ((st.sess)),.row 48 (.nm .opn) ((st.opens)),.row 59 (.nm .snap) ((st.snaps))]),J:=fun k=>k<=st.snaps.length,μ:=fun k=>st.snaps.length - k })]
theorem DS (st:State) (v:Int) (r0:Int):dx aI zL [] Try.f28 [.agg (cellsOf (.nm .state) st),.c (.int (v))] [] [.c (.int (r0))]=((fun (q12:Int)=>(fun (q11:Bool)=>(fun (q10:Bool)=>(fun (q9:Int)=>(fun (q8:Int)=>(fun (q7:Int)=>(fun (q6:Int)=>(fun (q5:Int)=>(fun (q4:Int)=>(fun (q3:Prop)=>(fun (q2:Prop)=>(fun (q1:Prop)=>(fun (q0:Prop)=>I64 st.version->I64 q12->I64 st.keep->I64 q8->st.sess.length*(32:Nat)<=(140737488355328:Nat)->st.opens.length*(16:Nat)<=(140737488355328:Nat)->st.snaps.length*(64:Nat)<=(140737488355328:Nat)->I64 v->(bU v q6 q9=false->q6=r0)/\(bU v q6 q9=true->(v<q9->q5<=q7/\q5<=q7/\(((q0/\bU q8 q4 q4=true)/\q1)/\q2->q6<=q12/\q12<=q7)/\((((q3\/bU q8 q4 q4=false)\/ak Sess.client q5 q4 st.sess=false\/q11=false)\/ak Opn.set q5 q4 st.opens=false\/q10=false)\/dr st v=false->(6:Int)=r0)/\((((q0/\bU q8 q4 q4=true)/\q1)/\q2)/\dr st v=true->q4=r0))/\(q9<=v->q5<=q7/\q5<=q7/\(((q0/\bU q8 q4 (64:Int)=true)/\q1)/\q2->q6<=q12/\q12<=q7)/\((((q3\/bU q8 q4 (64:Int)=false)\/ak Sess.client q5 q4 st.sess=false\/q11=false)\/ak Opn.set q5 q4 st.opens=false\/q10=false)\/dr st v=false->(6:Int)=r0)/\((((q0/\bU q8 q4 (64:Int)=true)/\q1)/\q2)/\dr st v=true->q4=r0)))) ((bU st.version q6 q9=true/\bU q12 q6 q7=true)/\bU st.keep q4 q5=true)) (ak Sess.client q5 q4 st.sess=true/\q11=true)) (ak Opn.set q5 q4 st.opens=true/\q10=true)) ((bU st.version q6 q9=false\/bU q12 q6 q7=false)\/bU st.keep q4 q5=false)) (0:Int)) (8:Int)) (1:Int)) (1048576:Int)) st.quota) (3:Int)) (st.opens.all bN)) (st.sess.all bJ)) st.next):=by kernel_rfl
theorem EC (st:State) (v:Int):Sat Try.prog (aq aI) 28 [.agg (cellsOf (.nm .state) st),.c (.int (v))] [] ⟨[],[.c (.int ((mayF st v)))],none,false⟩:=by
 refine aX kJ [] Try.func28 (by decide) (by kernel_rfl) ?_
 rw [DS]
 (repeat' (first | with_reducible refine And.intro ?_ ?_ | with_reducible refine and_imp.2 ?_ | intro))
 all_goals (first | (first | with_reducible rfl | with_reducible assumption | omega | (refine av ?_ ?_ <;> omega)) | exact (mJ (a:=1) (b:=1048576) (by with_reducible assumption)).1 | exact (mJ (a:=1) (b:=1048576) (by with_reducible assumption)).2 | (simp only [mayF,cV,kZ,jB]; grind))
theorem Bn (c:Command) (v:Int) (r0:Int):dx aI zL [] Try.f29 [.agg (cellsOf (.nm .command) c),.c (.int (v))] [] [.c (.int (r0))]=((fun (q0:Int)=>I64 c.kind->I64 c.client->I64 c.seq->I64 c.set->I64 c.id->I64 c.n->c.chunks.length*(8:Nat)<=(140737488355328:Nat)->c.text.b.length<=(140737488355328:Nat)->I64 v->I64 q0->(jv v=false\/q0=(0:Int)->(1:Int)=r0)/\(jv v=true/\¬q0=(0:Int)->(v<q0->(10:Int)=r0)/\(q0<=v->(eg c=false->(1:Int)=r0)/\(eg c=true->(0:Int)=r0)))) (cN c.kind)):=by kernel_rfl
theorem BO (c:Command) (v:Int):Sat Try.prog (aq aI) 29 [.agg (cellsOf (.nm .command) c),.c (.int (v))] [] ⟨[],[.c (.int ((bD c v)))],none,false⟩:=by
 refine aX kJ [] Try.func29 (by decide) (by kernel_rfl) ?_
 rw [Bn]
 rw [show jv v=bU v 1 3 from rfl]
 (repeat' (first | with_reducible refine And.intro ?_ ?_ | with_reducible refine and_imp.2 ?_ | intro))
 all_goals (first | (first | with_reducible rfl | with_reducible assumption | omega | (refine av ?_ ?_ <;> omega)) | (simp only [bD]; grind))
theorem BD (st:State) (r0:Int) (r1:Int) (r2:Int) (r3:Int) (r4:List Sess) (r5:List Opn) (r6:List Snap):sm aI zL (wb st) Try.f14 [.agg (cellsOf (.nm .state) st)] [] [.agg ([.int (r0),.int (r1),.int (r2),.int (r3),.own 0,.own 1,.own 2])] [.row 40 (.nm .sess) (r4),.row 48 (.nm .opn) (r5),.row 59 (.nm .snap) (r6)]=((fun (q4:Int)=>(fun (q3:Nat)=>(fun (q2:den (Sh.nm NT.snap))=>(fun (q1:Prop)=>(fun (q0:List Snap)=>I64 q4->I64 st.next->I64 st.keep->I64 st.quota->st.sess.length*(32:Nat)<=q3->st.opens.length*(16:Nat)<=q3->q0.length*(64:Nat)<=q3->∃ (s0:Nat),(fun (q5:Nat)=>((↑q0.length:Int)=(↑q5:Int)/\(0:Int)=(↑s0:Int)/\q4=q4/\st.next=st.next/\st.keep=st.keep/\st.quota=st.quota/\q1/\q1/\q1/\q1/\st.sess=st.sess/\st.opens=st.opens/\q0=q0)/\s0<=q5/\∀ (s:Nat),(fun (q7:den (Sh.nm NT.snap))=>(fun (q6:Prop)=>s<=q5->((↑s:Int)<(↑q5:Int)->(0:Int)<=(↑s:Int)/\(↑s:Int)<(↑q0.length:Int)/\(0:Int)<=(↑s:Int)/\(↑s:Int)<(↑q0.length:Int)/\(I64 q7.id->I64 q7.set->q6->q7.tag.b.length<=q3->q6->I64 q7.id->I64 q7.set->q6->q7.tag.b.length<=q3->I64 ((↑s:Int)+(1:Int))/\∃ (s':Nat),((↑q5:Int)=(↑q5:Int)/\(↑s:Int)+(1:Int)=(↑s':Int)/\q4=q4/\st.next=st.next/\st.keep=st.keep/\st.quota=st.quota/\q1/\q1/\q1/\q1/\st.sess=st.sess/\st.opens=st.opens/\q0.set s q7=q0)/\s' <= q5/\q5 - s' < q5 - s))/\((↑q5:Int)<=(↑s:Int)->q4=r0/\st.next=r1/\st.keep=r2/\st.quota=r3/\st.sess=r4/\st.opens=r5/\q0=r6)) (q7.chunks.length*(8:Nat)<=q3)) (q0.getD s q2)) q0.length) st.snaps) ((0:Int)=(0:Int))) (dflt (Sh.nm NT.snap))) (140737488355328:Nat)) st.version):=by kernel_rfl
theorem AZ (st:State):Sat Try.prog (aq aI) 14 [.agg (cellsOf (.nm .state) st)] [] ⟨[],[.agg ([.int ((st.version)),.int ((st.next)),.int ((st.keep)),.int ((st.quota)),.own 0,.own 1,.own 2])],some ([.row 40 (.nm .sess) ((st.sess)),.row 48 (.nm .opn) ((st.opens)),.row 59 (.nm .snap) ((st.snaps))]),true⟩:=by
 refine eC kJ (wb st) Try.func14 (by decide) (by kernel_rfl) ?_
 rw [BD]
 (repeat' (first | with_reducible refine And.intro ?_ ?_ | with_reducible refine and_imp.2 ?_ | intro))
 all_goals try (first | (first | with_reducible rfl | with_reducible assumption | omega | (refine av ?_ ?_ <;> omega)) | exact rfl | exact (sg (by omega)))
 all_goals try (refine ⟨0,?_⟩; (repeat' (first | with_reducible refine And.intro ?_ ?_ | with_reducible refine and_imp.2 ?_ | intro)))
 all_goals try (first | (first | with_reducible rfl | with_reducible assumption | omega | (refine av ?_ ?_ <;> omega)) | exact rfl | exact (sg (by omega)))
 all_goals try (refine ⟨‹Nat› + 1,?_⟩; (repeat' (first | with_reducible refine And.intro ?_ ?_ | with_reducible refine and_imp.2 ?_ | intro)))
 all_goals (first | (first | with_reducible rfl | with_reducible assumption | omega | (refine av ?_ ?_ <;> omega)) | exact rfl | exact (sg (by omega)))
def tj:cu:=(bV 14 (bO (aj (kT (.nm .state)) aR) aQ fun (st,_) (_)=>⟨[],[.agg ([.int ((st.version)),.int ((st.next)),.int ((st.keep)),.int ((st.quota)),.own 0,.own 1,.own 2])],some ([.row 40 (.nm .sess) ((st.sess)),.row 48 (.nm .opn) ((st.opens)),.row 59 (.nm .snap) ((st.snaps))]),true⟩) (bV 29 (bO (aj (kT (.nm .command)) (aj (kC cI) aR)) aQ fun (c,v,_) (_)=>⟨[],[.c (.int ((bD c v)))],none,false⟩) (bV 28 (bO (aj (kT (.nm .state)) (aj (kC cI) aR)) aQ fun (st,v,_) (_)=>⟨[],[.c (.int ((mayF st v)))],none,false⟩) zL)))
theorem lP:aP Try.prog (aq aI) tj:=(aC (aB (ae b_ al) ao fun (st,_) (_) _=>AZ st ) (aC (aB (ae b_ (ae (aw ax) al)) ao fun (c,v,_) (_) _=>BO c v ) (aC (aB (ae b_ (ae (aw ax) al)) ao fun (st,v,_) (_) _=>EC st v ) kJ)))
end Go.Proofs.Ytdggohppeeaipaa
namespace Go.Proofs.Ytdggohppeeaipaa
open Go.RowKit
def iS (l:List Snap) (id:Int) (k:Nat):List Int:=((List.range k).filter fun (i:Nat)=>decide (0<oq ((i:Int)+1) l) && decide (oq ((i:Int)+1) (aW id l)=0)).map fun (i:Nat)=>(i:Int)+1
def cA (xs:List Int) (l:List Int):List Int:=l.foldl (fun xs n=>if 1<=n/\n<=64 then xs.set n.toNat (xs.getD n.toNat 0+1) else xs) xs
theorem Dd {l:List Snap} {id:Int} (h:nch l<=1048576):nch (aW id l)<=1048576:=by
 refine Nat.le_trans ?_ h
 unfold nch aW
 induction l with
 | nil=>exact Nat.le_refl _
 | cons x l ih=>
  have hl:(l.flatMap Snap.chunks).length<=1048576:=by unfold nch at h; rw [List.flatMap_cons,List.length_append] at h; omega
  have:=ih hl
  rw [List.filter_cons,List.flatMap_cons,List.length_append]
  split
  ·rw [List.flatMap_cons,List.length_append]; omega
  ·omega
def ft (l:List Snap) (id:Int):List Int:=iS l id 64
def nG (xs l:List Int):Prop:=∀ i,0<=xs.getD i 0/\xs.getD i 0+l.length<=4611686018427387904
theorem qQ {xs:List Int} {i j:Nat} {v:Int}:(xs.set j v).getD i 0=if j=i/\j<xs.length then v else xs.getD i 0:=by
 rw [List.getD_eq_getElem?_getD,List.getElem?_set,List.getD_eq_getElem?_getD]
 by_cases h:j=i
 ·subst h
  by_cases h2:j<xs.length
  ·simp [h2]
  ·simp [h2]
 ·simp [h]
theorem si:∀ (l xs:List Int) (i:Nat),xs.getD i 0<=(cA xs l).getD i 0/\(cA xs l).getD i 0<=xs.getD i 0+l.length
 | [],xs,i=>by simp [cA]
 | n :: l,xs,i=>by
  have h:=si l (if 1<=n/\n<=64 then xs.set n.toNat (xs.getD n.toNat 0+1) else xs) i
  have e:cA xs (n :: l)=cA (if 1<=n/\n<=64 then xs.set n.toNat (xs.getD n.toNat 0+1) else xs) l:=rfl
  rw [e]
  have h2:xs.getD i 0<=(if 1<=n/\n<=64 then xs.set n.toNat (xs.getD n.toNat 0+1) else xs).getD i 0/\(if 1<=n/\n<=64 then xs.set n.toNat (xs.getD n.toNat 0+1) else xs).getD i 0<=xs.getD i 0+1:=by
   split
   ·rw [qQ]; split
    ·rename_i h3; rw [h3.1]; omega
    ·omega
   ·omega
  rw [List.length_cons]; omega
theorem rh {xs l:List Int} {k:Nat} {n:Int} (hx:l[k]? = some n):cA xs (l.take (k+1))=if 1<=n/\n<=64 then (cA xs (l.take k)).set n.toNat ((cA xs (l.take k)).getD n.toNat 0+1) else cA xs (l.take k):=by
 rw [aL hx,cA,List.foldl_append]; rfl
theorem yM {xs l:List Int} {k:Nat} {n:Int} (hx:l[k]? = some n) (h:1<=n/\n<=64):(cA xs (l.take k)).set n.toNat ((cA xs (l.take k)).getD n.toNat (dflt .int)+1)=cA xs (l.take (k+1)):=by rw [rh hx,if_pos h]; rfl
theorem xN {xs l:List Int} {k:Nat} {n:Int} (hx:l[k]? = some n) (h:¬ (1<=n/\n<=64)):cA xs (l.take k)=cA xs (l.take (k+1)):=by rw [rh hx,if_neg h]
theorem yo {xs l:List Int} {k:Nat} {n:Int} (h:nG xs l):I64 ((cA xs (l.take k)).getD n.toNat (dflt .int)+1):=by
 have h1:=si (l.take k) xs n.toNat
 have h2:=h n.toNat
 rw [List.length_take] at h1
 show I64 ((cA xs (l.take k)).getD n.toNat 0+1)
 constructor <;> omega
theorem Df {l:List Snap} {id:Int} {k:Nat} {n:Int} (h:k<=64):((iS l id k).length+[n].length)*8<=140737488355328:=by
 unfold iS
 have:=List.length_filter_le (fun (i:Nat)=>decide (0<oq ((i:Int)+1) l) && decide (oq ((i:Int)+1) (aW id l)=0)) (List.range k)
 rw [List.length_range] at this
 rw [List.length_map]; simp only [List.length_cons,List.length_nil]; omega
def FJ (l:List Int) (xs:List Int):List (Nat × LI):=[(1,{ σ:=Nat,F:=fun k=>([(0,one (.ptr 0 0)),(6,one (.fz .int (l))),(7,one (.int (l).length)),(8,one (.int k))],[.arr 116 .int 65 ((cA xs (l.take k)))]),J:=fun k=>k<=l.length,μ:=fun k=>(l).length - k })]
theorem Em (st:State) (c:Command) (r0:Int):dx aI tj [] Try.f22 [.agg (cellsOf (.nm .state) st),.agg (cellsOf (.nm .command) c)] [] [.c (.int (r0))]=((fun (q0:Int)=>I64 q0->I64 st.next->I64 st.keep->I64 st.quota->st.sess.length*(32:Nat)<=(140737488355328:Nat)->st.opens.length*(16:Nat)<=(140737488355328:Nat)->st.snaps.length*(64:Nat)<=(140737488355328:Nat)->I64 c.kind->I64 c.client->I64 c.seq->I64 c.set->I64 c.id->I64 c.n->c.chunks.length*(8:Nat)<=(140737488355328:Nat)->c.text.b.length<=(140737488355328:Nat)->I64 (mayF st q0)->(¬mayF st q0=(0:Int)->(1:Int)=r0)/\(mayF st q0=(0:Int)->I64 (bD c q0)->bD c q0=r0)) st.version):=by kernel_rfl
theorem Ea (st:State) (c:Command):Sat Try.prog (aq aI) 22 [.agg (cellsOf (.nm .state) st),.agg (cellsOf (.nm .command) c)] [] ⟨[],[.c (.int ((if mayF st st.version=0 then bD c st.version else 1)))],none,false⟩:=by
 refine aX lP [] Try.func22 (by decide) (by kernel_rfl) ?_
 rw [Em]
 grind
theorem EW (l:List Int) (xs:List Int) (r0:List Int):nd aI tj (FJ l xs) Try.f94 [.c (.ptr 0 0),.c (.fz .int (l))] [.arr 116 .int 65 (xs)] [] [.arr 116 .int 65 (r0)]=((fun (q1:Int)=>(fun (q0:Nat)=>l.length*(8:Nat)<=(140737488355328:Nat)->∃ (s0:Nat),(fun (q2:Int)=>(l=l/\(↑l.length:Int)=q2/\(0:Int)=(↑s0:Int)/\xs=cA xs (List.take s0 l))/\s0<=q0/\∀ (s:Nat),(fun (q4:Int)=>(fun (q3:List Int)=>s<=q0->((↑s:Int)<q2->(0:Int)<=(↑s:Int)/\(↑s:Int)<(↑l.length:Int)/\∀ (x:Int),(fun (q5:den Sh.int)=>l[s]? = some x->I64 x->(q1<=x/\x<=(64:Int)->(0:Int)<=x/\x<(↑(65:Nat):Int)/\x.toNat<(65:Nat)/\I64 (q5+q1)/\(0:Int)<=x/\x<(↑(65:Nat):Int)/\(I64 q5->x.toNat<(65:Nat)/\I64 q4/\∃ (s':Nat),(l=l/\q2=q2/\q4=(↑s':Int)/\q3.set x.toNat (q5+q1)=cA xs (List.take s' l))/\s' <= q0/\q0 - s' < q0 - s))/\(x<q1\/(64:Int)<x->I64 q4/\∃ (s':Nat),(l=l/\q2=q2/\q4=(↑s':Int)/\q3=cA xs (List.take s' l))/\s' <= q0/\q0 - s' < q0 - s)) (q3.getD x.toNat (dflt Sh.int)))/\(q2<=(↑s:Int)->q3=r0)) (cA xs (List.take s l))) ((↑s:Int)+q1)) (↑q0:Int)) l.length) (1:Int)):=by kernel_rfl
theorem FK (l:List Int) (xs:List Int) (h0:nG xs l):Sat Try.prog (aq aI) 94 [.c (.ptr 0 0),.c (.fz .int (l))] [.arr 116 .int 65 (xs)] ⟨[nG xs l],[],some ([.arr 116 .int 65 ((cA xs l))]),false⟩:=by
 refine dv lP (FJ l xs) Try.func94 (by decide) (by kernel_rfl) ?_
 rw [EW]
 (repeat' (first | with_reducible refine And.intro ?_ ?_ | with_reducible refine and_imp.2 ?_ | intro))
 all_goals try (first | (first | with_reducible rfl | with_reducible assumption | omega | (refine av ?_ ?_ <;> omega)) | exact rfl | exact (yM (by with_reducible assumption) (by constructor <;> omega)) | exact (xN (by with_reducible assumption) (by omega)) | exact (by rw [List.take_of_length_le (by omega)]) | exact (yo (by with_reducible assumption)))
 all_goals try (refine ⟨0,?_⟩; (repeat' (first | with_reducible refine And.intro ?_ ?_ | with_reducible refine and_imp.2 ?_ | intro)))
 all_goals try (first | (first | with_reducible rfl | with_reducible assumption | omega | (refine av ?_ ?_ <;> omega)) | exact rfl | exact (yM (by with_reducible assumption) (by constructor <;> omega)) | exact (xN (by with_reducible assumption) (by omega)) | exact (by rw [List.take_of_length_le (by omega)]) | exact (yo (by with_reducible assumption)))
 all_goals try (refine ⟨‹Nat› + 1,?_⟩; (repeat' (first | with_reducible refine And.intro ?_ ?_ | with_reducible refine and_imp.2 ?_ | intro)))
 all_goals (first | (first | with_reducible rfl | with_reducible assumption | omega | (refine av ?_ ?_ <;> omega)) | exact rfl | exact (yM (by with_reducible assumption) (by constructor <;> omega)) | exact (xN (by with_reducible assumption) (by omega)) | exact (by rw [List.take_of_length_le (by omega)]) | exact (yo (by with_reducible assumption)))
def CC:cu:=(bV 94 (bO (aj (kC (bL 0 0)) (aj (kC (cL .int)) aR)) (ay (nN 116 .int 65) aQ) fun (_,l,_) (xs,_)=>⟨[nG xs l],[],some ([.arr 116 .int 65 ((cA xs l))]),false⟩) (bV 22 (bO (aj (kT (.nm .state)) (aj (kT (.nm .command)) aR)) aQ fun (st,c,_) (_)=>⟨[],[.c (.int ((if mayF st st.version=0 then bD c st.version else 1)))],none,false⟩) tj))
theorem zd:aP Try.prog (aq aI) CC:=(aC (aB (ae (aw aH) (ae (aw cg) al)) (ag fq ao) fun (_,l,_) (xs,_) hp=>FK l xs (eU hp)) (aC (aB (ae b_ (ae b_ al)) ao fun (st,c,_) (_) _=>Ea st c ) lP))
end Go.Proofs.Ytdggohppeeaipaa
namespace Go.Proofs.Ytdggohppeeaipaa
open Go.RowKit
section
variable {B:Bool} {k:Nat}
variable {st:State} {v:Int}
end
def CK:cu:=CC
theorem wN:aP Try.prog (aq aI) CK:=zd
end Go.Proofs.Ytdggohppeeaipaa
namespace Go.Proofs.Ytdggohppeeaipaa
open Go.RowKit
def mQ:cu:=CK
theorem fU:aP Try.prog (aq aI) mQ:=wN
end Go.Proofs.Ytdggohppeeaipaa
namespace Go.Proofs.Ytdggohppeeaipaa
open Go.RowKit
def de (xs:List Int) (c:Int):Bool:=decide (0<xs.getD c.toNat (dflt .int))
def cZ (xs ys:List Int) (c:Int):Bool:=decide (0<xs.getD c.toNat (dflt .int)) && decide (ys.getD c.toNat (dflt .int)=0)
def fB (p:Int->Bool) (k:Nat):List Int:=((List.range k).map fun (i:Nat)=>(i:Int)+1).filter p
theorem uS {p:Int->Bool} {k:Nat} (h:p ((k:Int)+1)=true):fB p k++[(k:Int)+1]=fB p (k+1):=by
 unfold fB; rw [List.range_succ,List.map_append,List.filter_append]; simp [h]
theorem vU {p:Int->Bool} {k:Nat} (h:p ((k:Int)+1)=false):fB p k=fB p (k+1):=by
 unfold fB; rw [List.range_succ,List.map_append,List.filter_append]; simp [h]
theorem vh {p:Int->Bool} {k:Nat} (h:k<=64) (h2:64<(k:Int)+1):fB p k=fB p 64:=by rw [show k=64 by omega]
theorem jD {p:Int->Bool} {k:Nat} {n:Int} (h:k<=64):((fB p k).length+[n].length)*8<=140737488355328:=by
 have:=List.length_filter_le p ((List.range k).map fun (i:Nat)=>(i:Int)+1)
 rw [List.length_map,List.length_range] at this
 unfold fB; simp only [List.length_cons,List.length_nil]; omega
def bA (l:List Snap):List Int:=l.foldl (fun t x=>cA t x.chunks) (List.replicate 65 0)
theorem kP:∀ (l xs:List Int),(cA xs l).length=xs.length
 | [],_=>rfl
 | n :: l,xs=>by
  show (cA (if 1<=n/\n<=64 then xs.set n.toNat (xs.getD n.toNat 0+1) else xs) l).length=_
  rw [kP l]; split
  ·rw [List.length_set]
  ·rfl
theorem fK {l:List Snap} {x:Snap}:bA (l++[x])=cA (bA l) x.chunks:=by unfold bA; rw [List.foldl_append]; rfl
theorem rQ {l:List Snap} {k:Nat} {x:Snap} (hx:l[k]? = some x):cA (bA (l.take k)) x.chunks=bA (l.take (k+1)):=by rw [aL hx,fK]
theorem pw {p:List Snap->Prop} (h0:p []) (hs:∀ l x,p l->p (l++[x])) (l:List Snap):p l:=by
 have:∀ r:List Snap,p r.reverse:=fun r=>by
  induction r with
  | nil=>exact h0
  | cons x r ih=>rw [List.reverse_cons]; exact hs _ _ ih
 have h:=this l.reverse
 rwa [List.reverse_reverse] at h
theorem dP (l:List Snap):(bA l).length=65:=by
 refine pw (p:=fun l=>(bA l).length=65) rfl (fun l x h=>?_) l
 rw [fK,kP,h]
theorem qh {l:List Snap} {x:Snap}:nch (l++[x])=nch l+x.chunks.length:=by unfold nch; simp
theorem xP (l:List Snap) (i:Nat):0<=(bA l).getD i 0/\(bA l).getD i 0<=nch l:=by
 refine pw (p:=fun l=>0<=(bA l).getD i 0/\(bA l).getD i 0<=nch l) ?_ (fun l x h=>?_) l
 ·show 0<=(List.replicate 65 (0:Int)).getD i 0/\(List.replicate 65 (0:Int)).getD i 0<=_
  rw [List.getD_eq_getElem?_getD,List.getElem?_replicate]; split <;> simp
 ·have:=si x.chunks (bA l) i
  rw [fK,qh]; omega
theorem gf {l:List Snap} {k:Nat} {x:Snap} (hx:l[k]? = some x) (h:nch l<=1048576):nG (bA (l.take k)) x.chunks:=fun i=>by
 have h1:=xP (l.take k) i
 have h2:nch (l.take (k+1))<=nch l:=by
  unfold nch; rw [<- List.take_append_drop (k+1) l,List.flatMap_append,List.length_append,List.take_append_drop]; omega
 rw [aL hx,qh] at h2
 omega
theorem tG {l:List Snap} {m:List Int} {s:Sh} (h:nch l<=1048576) (hm:m.length*8<=140737488355328):nG (lh .int (bA l) 0 65) m:=fun i=>by
 rw [dV (dP l)]
 have h1:=xP l i
 omega
theorem uj:∀ (l xs:List Int) (c:Int),1<=c->c<=64->xs.length=65->(cA xs l).getD c.toNat 0=xs.getD c.toNat 0+(l.count c:Nat)
 | [],_,_,_,_,_=>by simp [cA]
 | n :: l,xs,c,h1,h2,h3=>by
  show (cA (if 1<=n/\n<=64 then xs.set n.toNat (xs.getD n.toNat 0+1) else xs) l).getD c.toNat 0=_
  rw [uj l _ c h1 h2 (by split; rw [List.length_set,h3]; exact h3),List.count_cons]
  split
  ·rw [qQ]
   by_cases e:n=c
   ·subst e; rw [if_pos ⟨rfl,by omega⟩]; simp; omega
   ·rw [if_neg (by omega)]; simp [e]
  ·by_cases e:n=c
   ·omega
   ·simp [e]
theorem rG (l:List Snap) (c:Int) (h1:1<=c) (h2:c<=64):(bA l).getD c.toNat 0=(oq c l:Nat):=by
 refine pw (p:=fun l=>(bA l).getD c.toNat 0=(oq c l:Nat)) ?_ (fun l x h=>?_) l
 ·show (List.replicate 65 (0:Int)).getD c.toNat 0=_
  rw [List.getD_eq_getElem?_getD,List.getElem?_replicate]; split <;> simp [oq]
 ·rw [fK,uj _ _ _ h1 h2 (dP l),h]
  unfold oq; simp
theorem uz (l:List Snap):((fB (de (bA l)) 64).length:Int)=(distF l:Int):=by
 unfold fB distF n_
 rw [List.filter_map,List.length_map]
 congr 2
 apply List.filter_congr
 intro i hi
 rw [List.mem_range] at hi
 have:=rG l ((i:Int)+1) (by omega) (by omega)
 simp only [Function.comp,de]
 rw [show (dflt .int)=(0:Int) from rfl,this]
 rw [decide_eq_decide]; omega
theorem zo (l m:List Snap) (id:Int) (e:m=aW id l):fB (cZ (bA l) (bA m)) 64=ft l id:=by
 subst e
 unfold fB ft iS
 rw [List.filter_map]
 congr 1
 apply List.filter_congr
 intro i hi
 rw [List.mem_range] at hi
 have h1:=rG l ((i:Int)+1) (by omega) (by omega)
 have h2:=rG (aW id l) ((i:Int)+1) (by omega) (by omega)
 simp only [Function.comp,cZ]
 rw [show (dflt .int)=(0:Int) from rfl,h1,h2]
 congr 1 <;> (rw [decide_eq_decide]; omega)
def wU (l:List Snap):List (Nat × LI):=[(3,{ σ:=Nat,F:=fun k=>([(2,one (.ptr 0 0)),(3,one (.ptr 1 0)),(6,one (.fz (.nm .snap) (l))),(7,one (.int (l).length)),(8,one (.int k))],[.arr 116 .int 65 ((List.replicate 65 0)),.arr 116 .int 65 ((bA (l.take k)))]),J:=fun k=>k<=l.length,μ:=fun k=>l.length - k })]
def qK (l:List Snap) (id:Int):List (Nat × LI):=[(3,{ σ:=Nat,F:=fun k=>([(1,one (.int (id))),(5,one (.own 0)),(8,one (.fz (.nm .snap) (l))),(9,one (.int (l).length)),(10,one (.int k))],[.row 59 (.nm .snap) ((aW id (l.take k)))]),J:=fun k=>k<=l.length,μ:=fun k=>l.length - k })]
theorem Ak (n:Int) (xs:List Int) (r0:Bool):dx aI mQ [] Try.f96 [.c (.int (n)),.c (.ptr 0 0)] [.arr 116 .int 65 (xs)] [.c (.bool (.atom (r0)))]=(I64 n->(0:Int)<=n/\n<(↑(65:Nat):Int)/\n.toNat<(65:Nat)/\(I64 (xs.getD n.toNat (dflt Sh.int))->decide ((0:Int)<xs.getD n.toNat (dflt Sh.int))=r0)):=by kernel_rfl
theorem BN (n:Int) (xs:List Int) (h0:0<=n/\n<65):Sat Try.prog (aq aI) 96 [.c (.int (n)),.c (.ptr 0 0)] [.arr 116 .int 65 (xs)] ⟨[0<=n/\n<65],[.c (.bool (.atom ((de xs n))))],none,false⟩:=by
 refine aX fU [] Try.func96 (by decide) (by kernel_rfl) ?_
 rw [Ak]
 (repeat' (first | with_reducible refine And.intro ?_ ?_ | with_reducible refine and_imp.2 ?_ | intro)) <;> first | (first | with_reducible rfl | with_reducible assumption | omega | (refine av ?_ ?_ <;> omega)) | rfl
theorem xu (n:Int) (xs:List Int) (ys:List Int) (r0:Bool):dx aI mQ [] Try.f97 [.c (.int (n)),.c (.ptr 0 0),.c (.ptr 1 0)] [.arr 116 .int 65 (xs),.arr 116 .int 65 (ys)] [.c (.bool (.atom (r0)))]=((fun (q1:Int)=>(fun (q0:den Sh.int)=>I64 n->q1<=n/\n<(↑(65:Nat):Int)/\n.toNat<(65:Nat)/\(I64 q0->(q1<q0->q1<=n/\n<(↑(65:Nat):Int)/\n.toNat<(65:Nat))/\((q1<q0->I64 (ys.getD n.toNat (dflt Sh.int)))->(decide (q1<q0) && decide (ys.getD n.toNat (dflt Sh.int)=q1))=r0))) (xs.getD n.toNat (dflt Sh.int))) (0:Int)):=by kernel_rfl
theorem xI (n:Int) (xs:List Int) (ys:List Int) (h0:0<=n/\n<65):Sat Try.prog (aq aI) 97 [.c (.int (n)),.c (.ptr 0 0),.c (.ptr 1 0)] [.arr 116 .int 65 (xs),.arr 116 .int 65 (ys)] ⟨[0<=n/\n<65],[.c (.bool (.atom ((cZ xs ys n))))],none,false⟩:=by
 refine aX fU [] Try.func97 (by decide) (by kernel_rfl) ?_
 rw [xu]
 (repeat' (first | with_reducible refine And.intro ?_ ?_ | with_reducible refine and_imp.2 ?_ | intro)) <;> first | (first | with_reducible rfl | with_reducible assumption | omega | (refine av ?_ ?_ <;> omega)) | rfl
theorem BS (l:List Snap) (r0:List Int):dx aI mQ (wU l) Try.f85 [.c (.fz (.nm .snap) (l))] [] [.agg (jk .int (r0) 0 65)]=((fun (q5:Nat)=>(fun (q4:Nat)=>(fun (q3:Nat)=>(fun (q2:Int)=>(fun (q1:den Sh.int)=>(fun (q0:List (den Sh.int))=>l.length*(64:Nat)<=(140737488355328:Nat)->∃ (s0:Nat),(l=l/\(↑l.length:Int)=(↑q5:Int)/\q2=(↑s0:Int)/\q0=List.replicate q3 (0:den Sh.int)/\q0=bA (List.take s0 l))/\s0<=q5/\∀ (s:Nat),(fun (q7:List Int)=>(fun (q6:List (den Sh.int))=>s<=q5->((↑s:Int)<(↑q5:Int)->q2<=(↑s:Int)/\(↑s:Int)<(↑l.length:Int)/\∀ (x:Snap),l[s]? = some x->I64 x.id->I64 x.set->x.chunks.length*(8:Nat)<=(140737488355328:Nat)->x.tag.b.length<=(140737488355328:Nat)->(∀ (i:Nat),q2<=q7.getD i q2/\q7.getD i q2+(↑x.chunks.length:Int)<=(4611686018427387904:Int))/\I64 ((↑s:Int)+(1:Int))/\∃ (s':Nat),(l=l/\(↑q5:Int)=(↑q5:Int)/\(↑s:Int)+(1:Int)=(↑s':Int)/\List.replicate q3 (0:den Sh.int)=List.replicate q3 (0:den Sh.int)/\cA q7 x.chunks=bA (List.take s' l))/\s' <= q5/\q5 - s' < q5 - s)/\((↑q5:Int)<=(↑s:Int)->q6.getD q4 q1=r0.getD q4 q1/\q6.getD (1:Nat) q1=r0.getD (1:Nat) q1/\q6.getD (2:Nat) q1=r0.getD (2:Nat) q1/\q6.getD (3:Nat) q1=r0.getD (3:Nat) q1/\q6.getD (4:Nat) q1=r0.getD (4:Nat) q1/\q6.getD (5:Nat) q1=r0.getD (5:Nat) q1/\q6.getD (6:Nat) q1=r0.getD (6:Nat) q1/\q6.getD (7:Nat) q1=r0.getD (7:Nat) q1/\q6.getD (8:Nat) q1=r0.getD (8:Nat) q1/\q6.getD (9:Nat) q1=r0.getD (9:Nat) q1/\q6.getD (10:Nat) q1=r0.getD (10:Nat) q1/\q6.getD (11:Nat) q1=r0.getD (11:Nat) q1/\q6.getD (12:Nat) q1=r0.getD (12:Nat) q1/\q6.getD (13:Nat) q1=r0.getD (13:Nat) q1/\q6.getD (14:Nat) q1=r0.getD (14:Nat) q1/\q6.getD (15:Nat) q1=r0.getD (15:Nat) q1/\q6.getD (16:Nat) q1=r0.getD (16:Nat) q1/\q6.getD (17:Nat) q1=r0.getD (17:Nat) q1/\q6.getD (18:Nat) q1=r0.getD (18:Nat) q1/\q6.getD (19:Nat) q1=r0.getD (19:Nat) q1/\q6.getD (20:Nat) q1=r0.getD (20:Nat) q1/\q6.getD (21:Nat) q1=r0.getD (21:Nat) q1/\q6.getD (22:Nat) q1=r0.getD (22:Nat) q1/\q6.getD (23:Nat) q1=r0.getD (23:Nat) q1/\q6.getD (24:Nat) q1=r0.getD (24:Nat) q1/\q6.getD (25:Nat) q1=r0.getD (25:Nat) q1/\q6.getD (26:Nat) q1=r0.getD (26:Nat) q1/\q6.getD (27:Nat) q1=r0.getD (27:Nat) q1/\q6.getD (28:Nat) q1=r0.getD (28:Nat) q1/\q6.getD (29:Nat) q1=r0.getD (29:Nat) q1/\q6.getD (30:Nat) q1=r0.getD (30:Nat) q1/\q6.getD (31:Nat) q1=r0.getD (31:Nat) q1/\q6.getD (32:Nat) q1=r0.getD (32:Nat) q1/\q6.getD (33:Nat) q1=r0.getD (33:Nat) q1/\q6.getD (34:Nat) q1=r0.getD (34:Nat) q1/\q6.getD (35:Nat) q1=r0.getD (35:Nat) q1/\q6.getD (36:Nat) q1=r0.getD (36:Nat) q1/\q6.getD (37:Nat) q1=r0.getD (37:Nat) q1/\q6.getD (38:Nat) q1=r0.getD (38:Nat) q1/\q6.getD (39:Nat) q1=r0.getD (39:Nat) q1/\q6.getD (40:Nat) q1=r0.getD (40:Nat) q1/\q6.getD (41:Nat) q1=r0.getD (41:Nat) q1/\q6.getD (42:Nat) q1=r0.getD (42:Nat) q1/\q6.getD (43:Nat) q1=r0.getD (43:Nat) q1/\q6.getD (44:Nat) q1=r0.getD (44:Nat) q1/\q6.getD (45:Nat) q1=r0.getD (45:Nat) q1/\q6.getD (46:Nat) q1=r0.getD (46:Nat) q1/\q6.getD (47:Nat) q1=r0.getD (47:Nat) q1/\q6.getD (48:Nat) q1=r0.getD (48:Nat) q1/\q6.getD (49:Nat) q1=r0.getD (49:Nat) q1/\q6.getD (50:Nat) q1=r0.getD (50:Nat) q1/\q6.getD (51:Nat) q1=r0.getD (51:Nat) q1/\q6.getD (52:Nat) q1=r0.getD (52:Nat) q1/\q6.getD (53:Nat) q1=r0.getD (53:Nat) q1/\q6.getD (54:Nat) q1=r0.getD (54:Nat) q1/\q6.getD (55:Nat) q1=r0.getD (55:Nat) q1/\q6.getD (56:Nat) q1=r0.getD (56:Nat) q1/\q6.getD (57:Nat) q1=r0.getD (57:Nat) q1/\q6.getD (58:Nat) q1=r0.getD (58:Nat) q1/\q6.getD (59:Nat) q1=r0.getD (59:Nat) q1/\q6.getD (60:Nat) q1=r0.getD (60:Nat) q1/\q6.getD (61:Nat) q1=r0.getD (61:Nat) q1/\q6.getD (62:Nat) q1=r0.getD (62:Nat) q1/\q6.getD (63:Nat) q1=r0.getD (63:Nat) q1/\q6.getD (64:Nat) q1=r0.getD (64:Nat) q1)) (lh Sh.int q7 q4 q3)) (bA (List.take s l))) [q2,q2,q2,q2,q2,q2,q2,q2,q2,q2,q2,q2,q2,q2,q2,q2,q2,q2,q2,q2,q2,q2,q2,q2,q2,q2,q2,q2,q2,q2,q2,q2,q2,q2,q2,q2,q2,q2,q2,q2,q2,q2,q2,q2,q2,q2,q2,q2,q2,q2,q2,q2,q2,q2,q2,q2,q2,q2,q2,q2,q2,q2,q2,q2,q2]) (dflt Sh.int)) (0:Int)) (65:Nat)) (0:Nat)) l.length):=by kernel_rfl
theorem Af (l:List Snap) (h0:nch l<=1048576):Sat Try.prog (aq aI) 85 [.c (.fz (.nm .snap) (l))] [] ⟨[nch l<=1048576],[.agg (jk .int ((bA l)) 0 65)],none,false⟩:=by
 refine aX fU (wU l) Try.func85 (by decide) (by kernel_rfl) ?_
 rw [BS]
 (repeat' (first | with_reducible refine And.intro ?_ ?_ | with_reducible refine and_imp.2 ?_ | intro))
 all_goals try (first | (first | with_reducible rfl | with_reducible assumption | omega | (refine av ?_ ?_ <;> omega)) | exact rfl | exact (rQ (by with_reducible assumption)) | exact (gf (by with_reducible assumption) (by with_reducible assumption) _).1 | exact (gf (by with_reducible assumption) (by with_reducible assumption) _).2 | exact (by rw [dV (dP _),List.take_of_length_le (by omega)]))
 all_goals try (refine ⟨0,?_⟩; (repeat' (first | with_reducible refine And.intro ?_ ?_ | with_reducible refine and_imp.2 ?_ | intro)))
 all_goals try (first | (first | with_reducible rfl | with_reducible assumption | omega | (refine av ?_ ?_ <;> omega)) | exact rfl | exact (rQ (by with_reducible assumption)) | exact (gf (by with_reducible assumption) (by with_reducible assumption) _).1 | exact (gf (by with_reducible assumption) (by with_reducible assumption) _).2 | exact (by rw [dV (dP _),List.take_of_length_le (by omega)]))
 all_goals try (refine ⟨‹Nat› + 1,?_⟩; (repeat' (first | with_reducible refine And.intro ?_ ?_ | with_reducible refine and_imp.2 ?_ | intro)))
 all_goals (first | (first | with_reducible rfl | with_reducible assumption | omega | (refine av ?_ ?_ <;> omega)) | exact rfl | exact (rQ (by with_reducible assumption)) | exact (gf (by with_reducible assumption) (by with_reducible assumption) _).1 | exact (gf (by with_reducible assumption) (by with_reducible assumption) _).2 | exact (by rw [dV (dP _),List.take_of_length_le (by omega)]))
theorem vv (l:List Snap) (id:Int) (r0:List Snap):sm aI mQ (qK l id) Try.f88 [.c (.fz (.nm .snap) (l)),.c (.int (id))] [] [.c (.own 0)] [.row 59 (.nm .snap) (r0)]=((fun (q0:Nat)=>l.length*(64:Nat)<=(140737488355328:Nat)->I64 id->∃ (s0:Nat),(fun (q1:Int)=>(id=id/\l=l/\(↑l.length:Int)=q1/\(0:Int)=(↑s0:Int)/\aW id (List.take s0 l)=[])/\s0<=q0/\∀ (s:Nat),(fun (q3:List Snap)=>(fun (q2:Int)=>s<=q0->((↑s:Int)<q1->(0:Int)<=(↑s:Int)/\(↑s:Int)<(↑l.length:Int)/\∀ (x:Snap),(fun (q4:Prop)=>l[s]? = some x->I64 x.id->I64 x.set->q4->x.tag.b.length<=(140737488355328:Nat)->(¬x.id=id->q4->(q3.length+[x].length)*(64:Nat)<=(140737488355328:Nat)/\I64 q2/\∃ (s':Nat),(id=id/\l=l/\q1=q1/\q2=(↑s':Int)/\q3++[x]=aW id (List.take s' l))/\s' <= q0/\q0 - s' < q0 - s)/\(x.id=id->I64 q2/\∃ (s':Nat),(id=id/\l=l/\q1=q1/\q2=(↑s':Int)/\q3=aW id (List.take s' l))/\s' <= q0/\q0 - s' < q0 - s)) (x.chunks.length*(8:Nat)<=(140737488355328:Nat)))/\(q1<=(↑s:Int)->q3=r0)) ((↑s:Int)+(1:Int))) (aW id (List.take s l))) (↑q0:Int)) l.length):=by kernel_rfl
theorem vk (l:List Snap) (id:Int):Sat Try.prog (aq aI) 88 [.c (.fz (.nm .snap) (l)),.c (.int (id))] [] ⟨[],[.c (.own 0)],some ([.row 59 (.nm .snap) ((aW id l))]),true⟩:=by
 refine eC fU (qK l id) Try.func88 (by decide) (by kernel_rfl) ?_
 rw [vv]
 (repeat' (first | with_reducible refine And.intro ?_ ?_ | with_reducible refine and_imp.2 ?_ | intro))
 all_goals try (first | (first | with_reducible rfl | with_reducible assumption | omega | (refine av ?_ ?_ <;> omega)) | exact rfl | exact (xO (by with_reducible assumption) (by with_reducible assumption) (by with_reducible assumption)) | exact (ze (by with_reducible assumption) (by with_reducible assumption)) | exact (sr (by omega)) | exact (rN (by omega) (by omega)))
 all_goals try (refine ⟨0,?_⟩; (repeat' (first | with_reducible refine And.intro ?_ ?_ | with_reducible refine and_imp.2 ?_ | intro)))
 all_goals try (first | (first | with_reducible rfl | with_reducible assumption | omega | (refine av ?_ ?_ <;> omega)) | exact rfl | exact (xO (by with_reducible assumption) (by with_reducible assumption) (by with_reducible assumption)) | exact (ze (by with_reducible assumption) (by with_reducible assumption)) | exact (sr (by omega)) | exact (rN (by omega) (by omega)))
 all_goals try (refine ⟨‹Nat› + 1,?_⟩; (repeat' (first | with_reducible refine And.intro ?_ ?_ | with_reducible refine and_imp.2 ?_ | intro)))
 all_goals (first | (first | with_reducible rfl | with_reducible assumption | omega | (refine av ?_ ?_ <;> omega)) | exact rfl | exact (xO (by with_reducible assumption) (by with_reducible assumption) (by with_reducible assumption)) | exact (ze (by with_reducible assumption) (by with_reducible assumption)) | exact (sr (by omega)) | exact (rN (by omega) (by omega)))
def tM:cu:=(bV 88 (bO (aj (kC (cL (.nm .snap))) (aj (kC cI) aR)) aQ fun (l,id,_) (_)=>⟨[],[.c (.own 0)],some ([.row 59 (.nm .snap) ((aW id l))]),true⟩) (bV 85 (bO (aj (kC (cL (.nm .snap))) aR) aQ fun (l,_) (_)=>⟨[nch l<=1048576],[.agg (jk .int ((bA l)) 0 65)],none,false⟩) (bV 97 (bO (aj (kC cI) (aj (kC (bL 0 0)) (aj (kC (bL 1 0)) aR))) (ay (nN 116 .int 65) (ay (nN 116 .int 65) aQ)) fun (n,_,_,_) (xs,ys,_)=>⟨[0<=n/\n<65],[.c (.bool (.atom ((cZ xs ys n))))],none,false⟩) (bV 96 (bO (aj (kC cI) (aj (kC (bL 0 0)) aR)) (ay (nN 116 .int 65) aQ) fun (n,_,_) (xs,_)=>⟨[0<=n/\n<65],[.c (.bool (.atom ((de xs n))))],none,false⟩) mQ))))
theorem lB:aP Try.prog (aq aI) tM:=(aC (aB (ae (aw cg) (ae (aw ax) al)) ao fun (l,id,_) (_) _=>vk l id ) (aC (aB (ae (aw cg) al) ao fun (l,_) (_) hp=>Af l (eU hp)) (aC (aB (ae (aw ax) (ae (aw aH) (ae (aw aH) al))) (ag fq (ag fq ao)) fun (n,_,_,_) (xs,ys,_) hp=>xI n xs ys (eU hp)) (aC (aB (ae (aw ax) (ae (aw aH) al)) (ag fq ao) fun (n,_,_) (xs,_) hp=>BN n xs (eU hp)) fU))))
end Go.Proofs.Ytdggohppeeaipaa
namespace Go.Proofs.Ytdggohppeeaipaa
open Go.RowKit
def qq (xs:List Int):List (Nat × LI):=[(3,{ σ:=Nat,F:=fun k=>([(0,one (.fn 96 [] [(0,0)])),(3,one (.own 1)),(4,one (.int (k+1)))],[.arr 116 .int 65 ((xs)),.row 3 .int ((fB (de xs) k))]),J:=fun k=>k<=64,μ:=fun k=>64 - k })]
def pX (xs:List Int) (ys:List Int):List (Nat × LI):=[(3,{ σ:=Nat,F:=fun k=>([(0,one (.fn 97 [] [(0,0),(1,0)])),(3,one (.own 2)),(4,one (.int (k+1)))],[.arr 116 .int 65 ((xs)),.arr 116 .int 65 ((ys)),.row 3 .int ((fB (cZ xs ys) k))]),J:=fun k=>k<=64,μ:=fun k=>64 - k })]
theorem vN (xs:List Int) (r0:List Int):dx aI tM (qq xs) Try.f95 [.c (.fn 96 [] [(0,0)])] [.arr 116 .int 65 (xs)] [.c (.fz .int (r0))]=((fun (q1:Nat)=>(fun (q0:Int)=>∃ (s0:Nat),(q0=(↑s0:Int)+q0/\xs=xs/\fB (de xs) s0=[])/\s0<=q1/\∀ (s:Nat),(fun (q3:List Int)=>(fun (q2:Int)=>s<=q1->(q2<=(64:Int)->((0:Int)<=q2/\q2<(65:Int))/\(de xs q2=true->(q3.length+[q2].length)*(8:Nat)<=(140737488355328:Nat)/\I64 (q2+q0)/\∃ (s':Nat),(q2+q0=(↑s':Int)+q0/\xs=xs/\q3++[q2]=fB (de xs) s')/\s' <= q1/\q1 - s' < q1 - s)/\(de xs q2=false->I64 (q2+q0)/\∃ (s':Nat),(q2+q0=(↑s':Int)+q0/\xs=xs/\q3=fB (de xs) s')/\s' <= q1/\q1 - s' < q1 - s))/\((64:Int)<q2->q3=r0)) ((↑s:Int)+q0)) (fB (de xs) s)) (1:Int)) (64:Nat)):=by kernel_rfl
theorem uY (xs:List Int):Sat Try.prog (aq aI) 95 [.c (.fn 96 [] [(0,0)])] [.arr 116 .int 65 (xs)] ⟨[],[.c (.fz .int ((fB (de xs) 64)))],none,false⟩:=by
 refine aX lB (qq xs) Try.func95 (by decide) (by kernel_rfl) ?_
 rw [vN]
 (repeat' (first | with_reducible refine And.intro ?_ ?_ | with_reducible refine and_imp.2 ?_ | intro))
 all_goals try (first | (first | with_reducible rfl | with_reducible assumption | omega | (refine av ?_ ?_ <;> omega)) | exact rfl | exact (uS (by with_reducible assumption)) | exact (vU (by with_reducible assumption)) | exact (vh (by omega) (by omega)) | exact (jD (by omega)) | exact (And.intro (by omega) (by omega)))
 all_goals try (refine ⟨0,?_⟩; (repeat' (first | with_reducible refine And.intro ?_ ?_ | with_reducible refine and_imp.2 ?_ | intro)))
 all_goals try (first | (first | with_reducible rfl | with_reducible assumption | omega | (refine av ?_ ?_ <;> omega)) | exact rfl | exact (uS (by with_reducible assumption)) | exact (vU (by with_reducible assumption)) | exact (vh (by omega) (by omega)) | exact (jD (by omega)) | exact (And.intro (by omega) (by omega)))
 all_goals try (refine ⟨‹Nat› + 1,?_⟩; (repeat' (first | with_reducible refine And.intro ?_ ?_ | with_reducible refine and_imp.2 ?_ | intro)))
 all_goals (first | (first | with_reducible rfl | with_reducible assumption | omega | (refine av ?_ ?_ <;> omega)) | exact rfl | exact (uS (by with_reducible assumption)) | exact (vU (by with_reducible assumption)) | exact (vh (by omega) (by omega)) | exact (jD (by omega)) | exact (And.intro (by omega) (by omega)))
theorem vq (xs:List Int) (ys:List Int) (r0:List Int):dx aI tM (pX xs ys) Try.f95 [.c (.fn 97 [] [(0,0),(1,0)])] [.arr 116 .int 65 (xs),.arr 116 .int 65 (ys)] [.c (.fz .int (r0))]=((fun (q1:Nat)=>(fun (q0:Int)=>∃ (s0:Nat),(q0=(↑s0:Int)+q0/\xs=xs/\ys=ys/\fB (cZ xs ys) s0=[])/\s0<=q1/\∀ (s:Nat),(fun (q3:List Int)=>(fun (q2:Int)=>s<=q1->(q2<=(64:Int)->((0:Int)<=q2/\q2<(65:Int))/\(cZ xs ys q2=true->(q3.length+[q2].length)*(8:Nat)<=(140737488355328:Nat)/\I64 (q2+q0)/\∃ (s':Nat),(q2+q0=(↑s':Int)+q0/\xs=xs/\ys=ys/\q3++[q2]=fB (cZ xs ys) s')/\s' <= q1/\q1 - s' < q1 - s)/\(cZ xs ys q2=false->I64 (q2+q0)/\∃ (s':Nat),(q2+q0=(↑s':Int)+q0/\xs=xs/\ys=ys/\q3=fB (cZ xs ys) s')/\s' <= q1/\q1 - s' < q1 - s))/\((64:Int)<q2->q3=r0)) ((↑s:Int)+q0)) (fB (cZ xs ys) s)) (1:Int)) (64:Nat)):=by kernel_rfl
theorem vy (xs:List Int) (ys:List Int):Sat Try.prog (aq aI) 95 [.c (.fn 97 [] [(0,0),(1,0)])] [.arr 116 .int 65 (xs),.arr 116 .int 65 (ys)] ⟨[],[.c (.fz .int ((fB (cZ xs ys) 64)))],none,false⟩:=by
 refine aX lB (pX xs ys) Try.func95 (by decide) (by kernel_rfl) ?_
 rw [vq]
 (repeat' (first | with_reducible refine And.intro ?_ ?_ | with_reducible refine and_imp.2 ?_ | intro))
 all_goals try (first | (first | with_reducible rfl | with_reducible assumption | omega | (refine av ?_ ?_ <;> omega)) | exact rfl | exact (uS (by with_reducible assumption)) | exact (vU (by with_reducible assumption)) | exact (vh (by omega) (by omega)) | exact (jD (by omega)) | exact (And.intro (by omega) (by omega)))
 all_goals try (refine ⟨0,?_⟩; (repeat' (first | with_reducible refine And.intro ?_ ?_ | with_reducible refine and_imp.2 ?_ | intro)))
 all_goals try (first | (first | with_reducible rfl | with_reducible assumption | omega | (refine av ?_ ?_ <;> omega)) | exact rfl | exact (uS (by with_reducible assumption)) | exact (vU (by with_reducible assumption)) | exact (vh (by omega) (by omega)) | exact (jD (by omega)) | exact (And.intro (by omega) (by omega)))
 all_goals try (refine ⟨‹Nat› + 1,?_⟩; (repeat' (first | with_reducible refine And.intro ?_ ?_ | with_reducible refine and_imp.2 ?_ | intro)))
 all_goals (first | (first | with_reducible rfl | with_reducible assumption | omega | (refine av ?_ ?_ <;> omega)) | exact rfl | exact (uS (by with_reducible assumption)) | exact (vU (by with_reducible assumption)) | exact (vh (by omega) (by omega)) | exact (jD (by omega)) | exact (And.intro (by omega) (by omega)))
def tP:cu:=(bV 95 (bO (aj (kC (mK 97 [] [(0,0),(1,0)])) aR) (ay (nN 116 .int 65) (ay (nN 116 .int 65) aQ)) fun (_,_) (xs,ys,_)=>⟨[],[.c (.fz .int ((fB (cZ xs ys) 64)))],none,false⟩) (bV 95 (bO (aj (kC (mK 96 [] [(0,0)])) aR) (ay (nN 116 .int 65) aQ) fun (_,_) (xs,_)=>⟨[],[.c (.fz .int ((fB (de xs) 64)))],none,false⟩) tM))
theorem lX:aP Try.prog (aq aI) tP:=(aC (aB (ae (aw cm) al) (ag fq (ag fq ao)) fun (_,_) (xs,ys,_) _=>vy xs ys ) (aC (aB (ae (aw cm) al) (ag fq ao) fun (_,_) (xs,_) _=>uY xs ) lB))
end Go.Proofs.Ytdggohppeeaipaa
namespace Go.Proofs.Ytdggohppeeaipaa
open Go.RowKit
theorem CS (xs:List Int) (r0:List Int):dx aI tP [] Try.f84 [.agg (jk .int (xs) 0 65)] [] [.c (.fz .int (r0))]=((fun (q1:List Int)=>(fun (q0:den Sh.int)=>I64 (xs.getD (0:Nat) q0)->I64 (xs.getD (1:Nat) q0)->I64 (xs.getD (2:Nat) q0)->I64 (xs.getD (3:Nat) q0)->I64 (xs.getD (4:Nat) q0)->I64 (xs.getD (5:Nat) q0)->I64 (xs.getD (6:Nat) q0)->I64 (xs.getD (7:Nat) q0)->I64 (xs.getD (8:Nat) q0)->I64 (xs.getD (9:Nat) q0)->I64 (xs.getD (10:Nat) q0)->I64 (xs.getD (11:Nat) q0)->I64 (xs.getD (12:Nat) q0)->I64 (xs.getD (13:Nat) q0)->I64 (xs.getD (14:Nat) q0)->I64 (xs.getD (15:Nat) q0)->I64 (xs.getD (16:Nat) q0)->I64 (xs.getD (17:Nat) q0)->I64 (xs.getD (18:Nat) q0)->I64 (xs.getD (19:Nat) q0)->I64 (xs.getD (20:Nat) q0)->I64 (xs.getD (21:Nat) q0)->I64 (xs.getD (22:Nat) q0)->I64 (xs.getD (23:Nat) q0)->I64 (xs.getD (24:Nat) q0)->I64 (xs.getD (25:Nat) q0)->I64 (xs.getD (26:Nat) q0)->I64 (xs.getD (27:Nat) q0)->I64 (xs.getD (28:Nat) q0)->I64 (xs.getD (29:Nat) q0)->I64 (xs.getD (30:Nat) q0)->I64 (xs.getD (31:Nat) q0)->I64 (xs.getD (32:Nat) q0)->I64 (xs.getD (33:Nat) q0)->I64 (xs.getD (34:Nat) q0)->I64 (xs.getD (35:Nat) q0)->I64 (xs.getD (36:Nat) q0)->I64 (xs.getD (37:Nat) q0)->I64 (xs.getD (38:Nat) q0)->I64 (xs.getD (39:Nat) q0)->I64 (xs.getD (40:Nat) q0)->I64 (xs.getD (41:Nat) q0)->I64 (xs.getD (42:Nat) q0)->I64 (xs.getD (43:Nat) q0)->I64 (xs.getD (44:Nat) q0)->I64 (xs.getD (45:Nat) q0)->I64 (xs.getD (46:Nat) q0)->I64 (xs.getD (47:Nat) q0)->I64 (xs.getD (48:Nat) q0)->I64 (xs.getD (49:Nat) q0)->I64 (xs.getD (50:Nat) q0)->I64 (xs.getD (51:Nat) q0)->I64 (xs.getD (52:Nat) q0)->I64 (xs.getD (53:Nat) q0)->I64 (xs.getD (54:Nat) q0)->I64 (xs.getD (55:Nat) q0)->I64 (xs.getD (56:Nat) q0)->I64 (xs.getD (57:Nat) q0)->I64 (xs.getD (58:Nat) q0)->I64 (xs.getD (59:Nat) q0)->I64 (xs.getD (60:Nat) q0)->I64 (xs.getD (61:Nat) q0)->I64 (xs.getD (62:Nat) q0)->I64 (xs.getD (63:Nat) q0)->I64 (xs.getD (64:Nat) q0)->q1.length*(8:Nat)<=(140737488355328:Nat)->q1=r0) (dflt Sh.int)) (fB (de (lh Sh.int xs (0:Nat) (65:Nat))) (64:Nat))):=by kernel_rfl
theorem Es (xs:List Int) (h0:xs.length=65):Sat Try.prog (aq aI) 84 [.agg (jk .int (xs) 0 65)] [] ⟨[xs.length=65],[.c (.fz .int ((fB (de xs) 64)))],none,false⟩:=by
 refine aX lX [] Try.func84 (by decide) (by kernel_rfl) ?_
 rw [CS]
 (repeat' (first | with_reducible refine And.intro ?_ ?_ | with_reducible refine and_imp.2 ?_ | intro))
 all_goals (first | (first | with_reducible rfl | with_reducible assumption | omega | (refine av ?_ ?_ <;> omega)) | exact (by rw [dV h0]) | exact (by rw [dV h0]; assumption))
theorem wB (l:List Snap) (id:Int) (r0:List Int):dx aI tP [] Try.f87 [.c (.fz (.nm .snap) (l)),.c (.int (id))] [] [.c (.fz .int (r0))]=((fun (q3:Nat)=>(fun (q2:List Int)=>(fun (q1:den Sh.int)=>(fun (q0:List Int)=>l.length*(64:Nat)<=(140737488355328:Nat)->I64 id->nch l<=(1048576:Nat)/\(I64 (q2.getD q3 q1)->I64 (q2.getD (1:Nat) q1)->I64 (q2.getD (2:Nat) q1)->I64 (q2.getD (3:Nat) q1)->I64 (q2.getD (4:Nat) q1)->I64 (q2.getD (5:Nat) q1)->I64 (q2.getD (6:Nat) q1)->I64 (q2.getD (7:Nat) q1)->I64 (q2.getD (8:Nat) q1)->I64 (q2.getD (9:Nat) q1)->I64 (q2.getD (10:Nat) q1)->I64 (q2.getD (11:Nat) q1)->I64 (q2.getD (12:Nat) q1)->I64 (q2.getD (13:Nat) q1)->I64 (q2.getD (14:Nat) q1)->I64 (q2.getD (15:Nat) q1)->I64 (q2.getD (16:Nat) q1)->I64 (q2.getD (17:Nat) q1)->I64 (q2.getD (18:Nat) q1)->I64 (q2.getD (19:Nat) q1)->I64 (q2.getD (20:Nat) q1)->I64 (q2.getD (21:Nat) q1)->I64 (q2.getD (22:Nat) q1)->I64 (q2.getD (23:Nat) q1)->I64 (q2.getD (24:Nat) q1)->I64 (q2.getD (25:Nat) q1)->I64 (q2.getD (26:Nat) q1)->I64 (q2.getD (27:Nat) q1)->I64 (q2.getD (28:Nat) q1)->I64 (q2.getD (29:Nat) q1)->I64 (q2.getD (30:Nat) q1)->I64 (q2.getD (31:Nat) q1)->I64 (q2.getD (32:Nat) q1)->I64 (q2.getD (33:Nat) q1)->I64 (q2.getD (34:Nat) q1)->I64 (q2.getD (35:Nat) q1)->I64 (q2.getD (36:Nat) q1)->I64 (q2.getD (37:Nat) q1)->I64 (q2.getD (38:Nat) q1)->I64 (q2.getD (39:Nat) q1)->I64 (q2.getD (40:Nat) q1)->I64 (q2.getD (41:Nat) q1)->I64 (q2.getD (42:Nat) q1)->I64 (q2.getD (43:Nat) q1)->I64 (q2.getD (44:Nat) q1)->I64 (q2.getD (45:Nat) q1)->I64 (q2.getD (46:Nat) q1)->I64 (q2.getD (47:Nat) q1)->I64 (q2.getD (48:Nat) q1)->I64 (q2.getD (49:Nat) q1)->I64 (q2.getD (50:Nat) q1)->I64 (q2.getD (51:Nat) q1)->I64 (q2.getD (52:Nat) q1)->I64 (q2.getD (53:Nat) q1)->I64 (q2.getD (54:Nat) q1)->I64 (q2.getD (55:Nat) q1)->I64 (q2.getD (56:Nat) q1)->I64 (q2.getD (57:Nat) q1)->I64 (q2.getD (58:Nat) q1)->I64 (q2.getD (59:Nat) q1)->I64 (q2.getD (60:Nat) q1)->I64 (q2.getD (61:Nat) q1)->I64 (q2.getD (62:Nat) q1)->I64 (q2.getD (63:Nat) q1)->I64 (q2.getD (64:Nat) q1)->nch (aW id l)<=(1048576:Nat)/\(I64 (q0.getD q3 q1)->I64 (q0.getD (1:Nat) q1)->I64 (q0.getD (2:Nat) q1)->I64 (q0.getD (3:Nat) q1)->I64 (q0.getD (4:Nat) q1)->I64 (q0.getD (5:Nat) q1)->I64 (q0.getD (6:Nat) q1)->I64 (q0.getD (7:Nat) q1)->I64 (q0.getD (8:Nat) q1)->I64 (q0.getD (9:Nat) q1)->I64 (q0.getD (10:Nat) q1)->I64 (q0.getD (11:Nat) q1)->I64 (q0.getD (12:Nat) q1)->I64 (q0.getD (13:Nat) q1)->I64 (q0.getD (14:Nat) q1)->I64 (q0.getD (15:Nat) q1)->I64 (q0.getD (16:Nat) q1)->I64 (q0.getD (17:Nat) q1)->I64 (q0.getD (18:Nat) q1)->I64 (q0.getD (19:Nat) q1)->I64 (q0.getD (20:Nat) q1)->I64 (q0.getD (21:Nat) q1)->I64 (q0.getD (22:Nat) q1)->I64 (q0.getD (23:Nat) q1)->I64 (q0.getD (24:Nat) q1)->I64 (q0.getD (25:Nat) q1)->I64 (q0.getD (26:Nat) q1)->I64 (q0.getD (27:Nat) q1)->I64 (q0.getD (28:Nat) q1)->I64 (q0.getD (29:Nat) q1)->I64 (q0.getD (30:Nat) q1)->I64 (q0.getD (31:Nat) q1)->I64 (q0.getD (32:Nat) q1)->I64 (q0.getD (33:Nat) q1)->I64 (q0.getD (34:Nat) q1)->I64 (q0.getD (35:Nat) q1)->I64 (q0.getD (36:Nat) q1)->I64 (q0.getD (37:Nat) q1)->I64 (q0.getD (38:Nat) q1)->I64 (q0.getD (39:Nat) q1)->I64 (q0.getD (40:Nat) q1)->I64 (q0.getD (41:Nat) q1)->I64 (q0.getD (42:Nat) q1)->I64 (q0.getD (43:Nat) q1)->I64 (q0.getD (44:Nat) q1)->I64 (q0.getD (45:Nat) q1)->I64 (q0.getD (46:Nat) q1)->I64 (q0.getD (47:Nat) q1)->I64 (q0.getD (48:Nat) q1)->I64 (q0.getD (49:Nat) q1)->I64 (q0.getD (50:Nat) q1)->I64 (q0.getD (51:Nat) q1)->I64 (q0.getD (52:Nat) q1)->I64 (q0.getD (53:Nat) q1)->I64 (q0.getD (54:Nat) q1)->I64 (q0.getD (55:Nat) q1)->I64 (q0.getD (56:Nat) q1)->I64 (q0.getD (57:Nat) q1)->I64 (q0.getD (58:Nat) q1)->I64 (q0.getD (59:Nat) q1)->I64 (q0.getD (60:Nat) q1)->I64 (q0.getD (61:Nat) q1)->I64 (q0.getD (62:Nat) q1)->I64 (q0.getD (63:Nat) q1)->I64 (q0.getD (64:Nat) q1)->(fB (cZ (lh Sh.int q2 q3 (65:Nat)) (lh Sh.int q0 q3 (65:Nat))) (64:Nat)).length*(8:Nat)<=(140737488355328:Nat)->fB (cZ (lh Sh.int q2 q3 (65:Nat)) (lh Sh.int q0 q3 (65:Nat))) (64:Nat)=r0))) (bA (aW id l))) (dflt Sh.int)) (bA l)) (0:Nat)):=by kernel_rfl
theorem yU (l:List Snap) (id:Int) (h0:nch l<=1048576):Sat Try.prog (aq aI) 87 [.c (.fz (.nm .snap) (l)),.c (.int (id))] [] ⟨[nch l<=1048576],[.c (.fz .int ((ft l id)))],none,false⟩:=by
 refine aX lX [] Try.func87 (by decide) (by kernel_rfl) ?_
 rw [wB]
 (repeat' (first | with_reducible refine And.intro ?_ ?_ | with_reducible refine and_imp.2 ?_ | intro))
 all_goals (first | (first | with_reducible rfl | with_reducible assumption | omega | (refine av ?_ ?_ <;> omega)) | exact (Dd (by assumption)) | exact (by rw [dV (dP _),dV (dP _)]; exact zo _ _ _ rfl))
def sY:cu:=(bV 87 (bO (aj (kC (cL (.nm .snap))) (aj (kC cI) aR)) aQ fun (l,id,_) (_)=>⟨[nch l<=1048576],[.c (.fz .int ((ft l id)))],none,false⟩) (bV 84 (bO (aj (kA .int 65) aR) aQ fun (xs,_) (_)=>⟨[xs.length=65],[.c (.fz .int ((fB (de xs) 64)))],none,false⟩) tP))
theorem lC:aP Try.prog (aq aI) sY:=(aC (aB (ae (aw cg) (ae (aw ax) al)) ao fun (l,id,_) (_) hp=>yU l id (eU hp)) (aC (aB (ae FW al) ao fun (xs,_) (_) hp=>Es xs (eU hp)) lX))
end Go.Proofs.Ytdggohppeeaipaa
namespace Go.Proofs.Ytdggohppeeaipaa
open Go.RowKit
theorem qw (l:List Snap) (r0:Int):dx aI sY [] Try.f62 [.c (.fz (.nm .snap) (l))] [] [.c (.int (r0))]=((fun (q1:den Sh.int)=>(fun (q0:List Int)=>l.length*(64:Nat)<=(140737488355328:Nat)->nch l<=(1048576:Nat)/\(I64 (q0.getD (0:Nat) q1)->I64 (q0.getD (1:Nat) q1)->I64 (q0.getD (2:Nat) q1)->I64 (q0.getD (3:Nat) q1)->I64 (q0.getD (4:Nat) q1)->I64 (q0.getD (5:Nat) q1)->I64 (q0.getD (6:Nat) q1)->I64 (q0.getD (7:Nat) q1)->I64 (q0.getD (8:Nat) q1)->I64 (q0.getD (9:Nat) q1)->I64 (q0.getD (10:Nat) q1)->I64 (q0.getD (11:Nat) q1)->I64 (q0.getD (12:Nat) q1)->I64 (q0.getD (13:Nat) q1)->I64 (q0.getD (14:Nat) q1)->I64 (q0.getD (15:Nat) q1)->I64 (q0.getD (16:Nat) q1)->I64 (q0.getD (17:Nat) q1)->I64 (q0.getD (18:Nat) q1)->I64 (q0.getD (19:Nat) q1)->I64 (q0.getD (20:Nat) q1)->I64 (q0.getD (21:Nat) q1)->I64 (q0.getD (22:Nat) q1)->I64 (q0.getD (23:Nat) q1)->I64 (q0.getD (24:Nat) q1)->I64 (q0.getD (25:Nat) q1)->I64 (q0.getD (26:Nat) q1)->I64 (q0.getD (27:Nat) q1)->I64 (q0.getD (28:Nat) q1)->I64 (q0.getD (29:Nat) q1)->I64 (q0.getD (30:Nat) q1)->I64 (q0.getD (31:Nat) q1)->I64 (q0.getD (32:Nat) q1)->I64 (q0.getD (33:Nat) q1)->I64 (q0.getD (34:Nat) q1)->I64 (q0.getD (35:Nat) q1)->I64 (q0.getD (36:Nat) q1)->I64 (q0.getD (37:Nat) q1)->I64 (q0.getD (38:Nat) q1)->I64 (q0.getD (39:Nat) q1)->I64 (q0.getD (40:Nat) q1)->I64 (q0.getD (41:Nat) q1)->I64 (q0.getD (42:Nat) q1)->I64 (q0.getD (43:Nat) q1)->I64 (q0.getD (44:Nat) q1)->I64 (q0.getD (45:Nat) q1)->I64 (q0.getD (46:Nat) q1)->I64 (q0.getD (47:Nat) q1)->I64 (q0.getD (48:Nat) q1)->I64 (q0.getD (49:Nat) q1)->I64 (q0.getD (50:Nat) q1)->I64 (q0.getD (51:Nat) q1)->I64 (q0.getD (52:Nat) q1)->I64 (q0.getD (53:Nat) q1)->I64 (q0.getD (54:Nat) q1)->I64 (q0.getD (55:Nat) q1)->I64 (q0.getD (56:Nat) q1)->I64 (q0.getD (57:Nat) q1)->I64 (q0.getD (58:Nat) q1)->I64 (q0.getD (59:Nat) q1)->I64 (q0.getD (60:Nat) q1)->I64 (q0.getD (61:Nat) q1)->I64 (q0.getD (62:Nat) q1)->I64 (q0.getD (63:Nat) q1)->I64 (q0.getD (64:Nat) q1)->(lh Sh.int q0 (0:Nat) (65:Nat)).length=(65:Nat)/\((fB (de (lh Sh.int q0 (0:Nat) (65:Nat))) (64:Nat)).length*(8:Nat)<=(140737488355328:Nat)->(↑(fB (de (lh Sh.int q0 (0:Nat) (65:Nat))) (64:Nat)).length:Int)=r0))) (bA l)) (dflt Sh.int)):=by kernel_rfl
theorem qA (l:List Snap) (h0:nch l<=1048576):Sat Try.prog (aq aI) 62 [.c (.fz (.nm .snap) (l))] [] ⟨[nch l<=1048576],[.c (.int (((distF l:Int))))],none,false⟩:=by
 refine aX lC [] Try.func62 (by decide) (by kernel_rfl) ?_
 rw [qw]
 (repeat' (first | with_reducible refine And.intro ?_ ?_ | with_reducible refine and_imp.2 ?_ | intro))
 all_goals (first | (first | with_reducible rfl | with_reducible assumption | omega | (refine av ?_ ?_ <;> omega)) | exact (kH 65 0) | exact (by rw [dV (dP _)]; exact uz _))
theorem AA (l:List Snap) (m:List Int) (r0:Int):dx aI sY [] Try.f82 [.c (.fz (.nm .snap) (l)),.c (.fz .int (m))] [] [.c (.int (r0))]=((fun (q3:Nat)=>(fun (q2:Nat)=>(fun (q1:den Sh.int)=>(fun (q0:List Int)=>l.length*(64:Nat)<=(140737488355328:Nat)->m.length*(8:Nat)<=(140737488355328:Nat)->nch l<=(1048576:Nat)/\(I64 (q0.getD q2 q1)->I64 (q0.getD (1:Nat) q1)->I64 (q0.getD (2:Nat) q1)->I64 (q0.getD (3:Nat) q1)->I64 (q0.getD (4:Nat) q1)->I64 (q0.getD (5:Nat) q1)->I64 (q0.getD (6:Nat) q1)->I64 (q0.getD (7:Nat) q1)->I64 (q0.getD (8:Nat) q1)->I64 (q0.getD (9:Nat) q1)->I64 (q0.getD (10:Nat) q1)->I64 (q0.getD (11:Nat) q1)->I64 (q0.getD (12:Nat) q1)->I64 (q0.getD (13:Nat) q1)->I64 (q0.getD (14:Nat) q1)->I64 (q0.getD (15:Nat) q1)->I64 (q0.getD (16:Nat) q1)->I64 (q0.getD (17:Nat) q1)->I64 (q0.getD (18:Nat) q1)->I64 (q0.getD (19:Nat) q1)->I64 (q0.getD (20:Nat) q1)->I64 (q0.getD (21:Nat) q1)->I64 (q0.getD (22:Nat) q1)->I64 (q0.getD (23:Nat) q1)->I64 (q0.getD (24:Nat) q1)->I64 (q0.getD (25:Nat) q1)->I64 (q0.getD (26:Nat) q1)->I64 (q0.getD (27:Nat) q1)->I64 (q0.getD (28:Nat) q1)->I64 (q0.getD (29:Nat) q1)->I64 (q0.getD (30:Nat) q1)->I64 (q0.getD (31:Nat) q1)->I64 (q0.getD (32:Nat) q1)->I64 (q0.getD (33:Nat) q1)->I64 (q0.getD (34:Nat) q1)->I64 (q0.getD (35:Nat) q1)->I64 (q0.getD (36:Nat) q1)->I64 (q0.getD (37:Nat) q1)->I64 (q0.getD (38:Nat) q1)->I64 (q0.getD (39:Nat) q1)->I64 (q0.getD (40:Nat) q1)->I64 (q0.getD (41:Nat) q1)->I64 (q0.getD (42:Nat) q1)->I64 (q0.getD (43:Nat) q1)->I64 (q0.getD (44:Nat) q1)->I64 (q0.getD (45:Nat) q1)->I64 (q0.getD (46:Nat) q1)->I64 (q0.getD (47:Nat) q1)->I64 (q0.getD (48:Nat) q1)->I64 (q0.getD (49:Nat) q1)->I64 (q0.getD (50:Nat) q1)->I64 (q0.getD (51:Nat) q1)->I64 (q0.getD (52:Nat) q1)->I64 (q0.getD (53:Nat) q1)->I64 (q0.getD (54:Nat) q1)->I64 (q0.getD (55:Nat) q1)->I64 (q0.getD (56:Nat) q1)->I64 (q0.getD (57:Nat) q1)->I64 (q0.getD (58:Nat) q1)->I64 (q0.getD (59:Nat) q1)->I64 (q0.getD (60:Nat) q1)->I64 (q0.getD (61:Nat) q1)->I64 (q0.getD (62:Nat) q1)->I64 (q0.getD (63:Nat) q1)->I64 (q0.getD (64:Nat) q1)->(∀ (i:Nat),(fun (q4:Int)=>(0:Int)<=q4/\q4+(↑m.length:Int)<=(4611686018427387904:Int)) ((lh Sh.int q0 q2 q3).getD i (0:Int)))/\(lh Sh.int (cA (lh Sh.int q0 q2 q3) m) q2 q3).length=q3/\((fB (de (lh Sh.int (cA (lh Sh.int q0 q2 q3) m) q2 q3)) (64:Nat)).length*(8:Nat)<=(140737488355328:Nat)->(↑(fB (de (lh Sh.int (cA (lh Sh.int q0 q2 q3) m) q2 q3)) (64:Nat)).length:Int)=r0))) (bA l)) (dflt Sh.int)) (0:Nat)) (65:Nat)):=by kernel_rfl
theorem BZ (l:List Snap) (m:List Int) (h0:nch l<=1048576):Sat Try.prog (aq aI) 82 [.c (.fz (.nm .snap) (l)),.c (.fz .int (m))] [] ⟨[nch l<=1048576],[.c (.int (((distF (l++[⟨0,0,m,false,⟨[]⟩⟩]):Int))))],none,false⟩:=by
 refine aX lC [] Try.func82 (by decide) (by kernel_rfl) ?_
 rw [AA]
 (repeat' (first | with_reducible refine And.intro ?_ ?_ | with_reducible refine and_imp.2 ?_ | intro))
 all_goals (first | (first | with_reducible rfl | with_reducible assumption | omega | (refine av ?_ ?_ <;> omega)) | exact (kH 65 0) | exact (tG (s:=.int) (by assumption) (by assumption) _).1 | exact (tG (s:=.int) (by assumption) (by assumption) _).2 | exact (by rw [dV (s:=.int) (xs:=cA _ _) (by rw [kP,kH]),dV (dP l)]; have:=uz (l++[Snap.mk 0 0 m false ⟨[]⟩]); rw [fK] at this; exact this))
def iv:cu:=(bV 82 (bO (aj (kC (cL (.nm .snap))) (aj (kC (cL .int)) aR)) aQ fun (l,m,_) (_)=>⟨[nch l<=1048576],[.c (.int (((distF (l++[⟨0,0,m,false,⟨[]⟩⟩]):Int))))],none,false⟩) (bV 62 (bO (aj (kC (cL (.nm .snap))) aR) aQ fun (l,_) (_)=>⟨[nch l<=1048576],[.c (.int (((distF l:Int))))],none,false⟩) sY))
theorem dJ:aP Try.prog (aq aI) iv:=(aC (aB (ae (aw cg) (ae (aw cg) al)) ao fun (l,m,_) (_) hp=>BZ l m (eU hp)) (aC (aB (ae (aw cg) al) ao fun (l,_) (_) hp=>qA l (eU hp)) lC))
end Go.Proofs.Ytdggohppeeaipaa
