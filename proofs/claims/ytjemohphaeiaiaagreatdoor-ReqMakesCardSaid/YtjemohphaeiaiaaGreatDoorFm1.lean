/- What is told of the functions, shown: math/bits.Div64, (turnstone/wide.Int).Div, turnstone/wide.Of, (turnstone/wide.Int).Small, (turnstone/vtime.Time).Add, turnstone/pos.At, (turnstone/pos.Pos).Move, turnstone/req.due. -/
import Derived.Test.YtjemohphaeiaiaaGreatDoorFm0
namespace Go.Proofs.YtjemohphaeiaiaaGreatDoor.Fn
open Go Go.RowKit Go.Proofs.YtjemohphaeiaiaaGreatDoor.Sy
set_option linter.unusedVariables false
set_option linter.unusedSimpArgs false
set_option maxRecDepth 100000
def t72 : Tr :=
  .br (.f (.is (.eq (.v 0 2) (.n 0)) false) <|
   .br (.f (.is (.le (.v 0 2) (.v 0 0)) false) <|
    .br (.f (.is (.eq (.v 0 0) (.n 0)) true) <|
     .ok [.num (.wrap .u64 (.bin .quo (.v 0 1) (.v 0 2))), .num (.bin .rem (.v 0 1) (.v 0 2))])
    (.f (.is (.eq (.v 0 0) (.n 0)) false) <|
     .br (.f (.rel 89 [.num (.v 0 2)] 65546 [.int .i64]) <|
      .br (.f (.is (.lt (.wrap .u64 (.v 65546 0)) (.n 0)) false) <|
       .f (.is (.eq (.v 65556 0) (.bin .fdv (.wrap .u64 (.bin (.shl .u64) (.v 0 2) (.wrap .u64 (.v 65546 0)))) (.n 4294967296))) true) <|
        .f (.is (.eq (.v 65560 0) (.bin (.land .u64) (.wrap .u64 (.bin (.shl .u64) (.v 0 2) (.wrap .u64 (.v 65546 0)))) (.n 4294967295))) true) <|
         .br (.f (.is (.lt (.wrap .u64 (.bin .sub (.n 64) (.wrap .u64 (.v 65546 0)))) (.n 0)) false) <|
          .f (.is (.eq (.v 65570 0) (.bin (.shr .u64) (.v 0 1) (.wrap .u64 (.bin .sub (.n 64) (.wrap .u64 (.v 65546 0)))))) true) <|
           .f (.is (.eq (.v 65571 0) (.bin (.lor .u64) (.wrap .u64 (.bin (.shl .u64) (.v 0 0) (.wrap .u64 (.v 65546 0)))) (.v 65570 0))) true) <|
            .f (.is (.eq (.v 65579 0) (.bin .fdv (.wrap .u64 (.bin (.shl .u64) (.v 0 1) (.wrap .u64 (.v 65546 0)))) (.n 4294967296))) true) <|
             .f (.is (.eq (.v 65583 0) (.bin (.land .u64) (.wrap .u64 (.bin (.shl .u64) (.v 0 1) (.wrap .u64 (.v 65546 0)))) (.n 4294967295))) true) <|
              .br (.f (.is (.eq (.v 65556 0) (.n 0)) false) <|
               .f (.is (.eq (.v 65594 0) (.wrap .u64 (.bin .mul (.wrap .u64 (.bin .quo (.v 65571 0) (.v 65556 0))) (.v 65556 0)))) true) <|
                .br (.f (.rel 107217 [.num (.v 65556 0), .num (.v 65560 0), .num (.v 65571 0), .num (.v 65579 0), .num (.wrap .u64 (.bin .quo (.v 65571 0) (.v 65556 0))), .num (.wrap .u64 (.bin .sub (.v 65571 0) (.v 65594 0)))] 65595 [.int .u64, .int .u64]) <|
                 .br (.f (.is (.le (.n 4294967296) (.v 65595 0)) true) <|
                  .br (.f (.is (.le (.n 4294967296) (.wrap .u64 (.bin .add (.v 65595 1) (.v 65556 0)))) true) <|
                   .f (.is (.eq (.v 65626 0) (.wrap .u64 (.bin .add (.wrap .u64 (.bin .mul (.v 65571 0) (.n 4294967296))) (.v 65579 0)))) true) <|
                    .f (.is (.eq (.v 65627 0) (.wrap .u64 (.bin .mul (.wrap .u64 (.bin .sub (.v 65595 0) (.n 1))) (.wrap .u64 (.bin (.shl .u64) (.v 0 2) (.wrap .u64 (.v 65546 0))))))) true) <|
                     .f (.is (.eq (.v 65632 0) (.wrap .u64 (.bin .quo (.wrap .u64 (.bin .sub (.v 65626 0) (.v 65627 0))) (.v 65556 0)))) true) <|
                      .f (.is (.eq (.v 65639 0) (.wrap .u64 (.bin .sub (.wrap .u64 (.bin .sub (.v 65626 0) (.v 65627 0))) (.wrap .u64 (.bin .mul (.v 65632 0) (.v 65556 0)))))) true) <|
                       .br (.f (.rel 107224 [.num (.v 65556 0), .num (.v 65560 0), .num (.wrap .u64 (.bin .sub (.v 65626 0) (.v 65627 0))), .num (.v 65583 0), .num (.v 65632 0), .num (.v 65639 0)] 65640 [.int .u64, .int .u64]) <|
                        .br (.f (.is (.le (.n 4294967296) (.v 65640 0)) true) <|
                         .br (.f (.is (.le (.n 4294967296) (.wrap .u64 (.bin .add (.v 65640 1) (.v 65556 0)))) true) <|
                          .f (.is (.eq (.v 65678 0) (.wrap .u64 (.bin .mul (.wrap .u64 (.bin .sub (.v 65595 0) (.n 1))) (.n 4294967296)))) true) <|
                           .f (.is (.eq (.v 65679 0) (.wrap .u64 (.bin .add (.v 65678 0) (.wrap .u64 (.bin .sub (.v 65640 0) (.n 1)))))) true) <|
                            .f (.is (.eq (.v 65680 0) (.wrap .u64 (.bin .mul (.wrap .u64 (.bin .sub (.v 65626 0) (.v 65627 0))) (.n 4294967296)))) true) <|
                             .f (.is (.eq (.v 65681 0) (.wrap .u64 (.bin .mul (.wrap .u64 (.bin .sub (.v 65640 0) (.n 1))) (.wrap .u64 (.bin (.shl .u64) (.v 0 2) (.wrap .u64 (.v 65546 0))))))) true) <|
                              .f (.is (.eq (.v 65682 0) (.wrap .u64 (.bin .sub (.wrap .u64 (.bin .add (.v 65680 0) (.v 65583 0))) (.v 65681 0)))) true) <|
                               .ok [.num (.v 65679 0), .num (.bin (.shr .u64) (.v 65682 0) (.wrap .u64 (.v 65546 0)))])
                         (.f (.is (.le (.n 4294967296) (.wrap .u64 (.bin .add (.v 65640 1) (.v 65556 0)))) false) <|
                          .br (.f (.nrel 107224 [.num (.v 65556 0), .num (.v 65560 0), .num (.wrap .u64 (.bin .sub (.v 65626 0) (.v 65627 0))), .num (.v 65583 0), .num (.v 65632 0), .num (.v 65639 0)] [.num (.wrap .u64 (.bin .sub (.v 65640 0) (.n 1))), .num (.wrap .u64 (.bin .add (.v 65640 1) (.v 65556 0)))]) <|
                           .bad)
                          (.f (.ndec 107224 [.num (.v 65556 0), .num (.v 65560 0), .num (.wrap .u64 (.bin .sub (.v 65626 0) (.v 65627 0))), .num (.v 65583 0), .num (.v 65632 0), .num (.v 65639 0)] [.num (.v 65640 0), .num (.v 65640 1)] [.num (.wrap .u64 (.bin .sub (.v 65640 0) (.n 1))), .num (.wrap .u64 (.bin .add (.v 65640 1) (.v 65556 0)))]) <|
                           .bad)))
                        (.f (.is (.le (.n 4294967296) (.v 65640 0)) false) <|
                         .f (.is (.eq (.v 65653 0) (.wrap .u64 (.bin .add (.wrap .u64 (.bin .mul (.n 4294967296) (.v 65640 1))) (.v 65583 0)))) true) <|
                          .br (.f (.is (.lt (.v 65653 0) (.wrap .u64 (.bin .mul (.v 65640 0) (.v 65560 0)))) true) <|
                           .br (.f (.is (.le (.n 4294967296) (.wrap .u64 (.bin .add (.v 65640 1) (.v 65556 0)))) true) <|
                            .f (.is (.eq (.v 65679 0) (.wrap .u64 (.bin .mul (.wrap .u64 (.bin .sub (.v 65595 0) (.n 1))) (.n 4294967296)))) true) <|
                             .f (.is (.eq (.v 65680 0) (.wrap .u64 (.bin .add (.v 65679 0) (.wrap .u64 (.bin .sub (.v 65640 0) (.n 1)))))) true) <|
                              .f (.is (.eq (.v 65681 0) (.wrap .u64 (.bin .mul (.wrap .u64 (.bin .sub (.v 65626 0) (.v 65627 0))) (.n 4294967296)))) true) <|
                               .f (.is (.eq (.v 65682 0) (.wrap .u64 (.bin .mul (.wrap .u64 (.bin .sub (.v 65640 0) (.n 1))) (.wrap .u64 (.bin (.shl .u64) (.v 0 2) (.wrap .u64 (.v 65546 0))))))) true) <|
                                .f (.is (.eq (.v 65683 0) (.wrap .u64 (.bin .sub (.wrap .u64 (.bin .add (.v 65681 0) (.v 65583 0))) (.v 65682 0)))) true) <|
                                 .ok [.num (.v 65680 0), .num (.bin (.shr .u64) (.v 65683 0) (.wrap .u64 (.v 65546 0)))])
                           (.f (.is (.le (.n 4294967296) (.wrap .u64 (.bin .add (.v 65640 1) (.v 65556 0)))) false) <|
                            .br (.f (.nrel 107224 [.num (.v 65556 0), .num (.v 65560 0), .num (.wrap .u64 (.bin .sub (.v 65626 0) (.v 65627 0))), .num (.v 65583 0), .num (.v 65632 0), .num (.v 65639 0)] [.num (.wrap .u64 (.bin .sub (.v 65640 0) (.n 1))), .num (.wrap .u64 (.bin .add (.v 65640 1) (.v 65556 0)))]) <|
                             .bad)
                            (.f (.ndec 107224 [.num (.v 65556 0), .num (.v 65560 0), .num (.wrap .u64 (.bin .sub (.v 65626 0) (.v 65627 0))), .num (.v 65583 0), .num (.v 65632 0), .num (.v 65639 0)] [.num (.v 65640 0), .num (.v 65640 1)] [.num (.wrap .u64 (.bin .sub (.v 65640 0) (.n 1))), .num (.wrap .u64 (.bin .add (.v 65640 1) (.v 65556 0)))]) <|
                             .bad)))
                          (.f (.is (.lt (.v 65653 0) (.wrap .u64 (.bin .mul (.v 65640 0) (.v 65560 0)))) false) <|
                           .f (.is (.eq (.v 65670 0) (.wrap .u64 (.bin .mul (.wrap .u64 (.bin .sub (.v 65595 0) (.n 1))) (.n 4294967296)))) true) <|
                            .f (.is (.eq (.v 65671 0) (.wrap .u64 (.bin .mul (.wrap .u64 (.bin .sub (.v 65626 0) (.v 65627 0))) (.n 4294967296)))) true) <|
                             .f (.is (.eq (.v 65672 0) (.wrap .u64 (.bin .mul (.v 65640 0) (.wrap .u64 (.bin (.shl .u64) (.v 0 2) (.wrap .u64 (.v 65546 0))))))) true) <|
                              .f (.is (.eq (.v 65673 0) (.wrap .u64 (.bin .sub (.wrap .u64 (.bin .add (.v 65671 0) (.v 65583 0))) (.v 65672 0)))) true) <|
                               .ok [.num (.wrap .u64 (.bin .add (.v 65670 0) (.v 65640 0))), .num (.bin (.shr .u64) (.v 65673 0) (.wrap .u64 (.v 65546 0)))])))
                       (.f (.nrel 107224 [.num (.v 65556 0), .num (.v 65560 0), .num (.wrap .u64 (.bin .sub (.v 65626 0) (.v 65627 0))), .num (.v 65583 0), .num (.v 65632 0), .num (.v 65639 0)] [.num (.v 65632 0), .num (.v 65639 0)]) <|
                        .bad))
                  (.f (.is (.le (.n 4294967296) (.wrap .u64 (.bin .add (.v 65595 1) (.v 65556 0)))) false) <|
                   .br (.f (.nrel 107217 [.num (.v 65556 0), .num (.v 65560 0), .num (.v 65571 0), .num (.v 65579 0), .num (.wrap .u64 (.bin .quo (.v 65571 0) (.v 65556 0))), .num (.wrap .u64 (.bin .sub (.v 65571 0) (.v 65594 0)))] [.num (.wrap .u64 (.bin .sub (.v 65595 0) (.n 1))), .num (.wrap .u64 (.bin .add (.v 65595 1) (.v 65556 0)))]) <|
                    .bad)
                   (.f (.ndec 107217 [.num (.v 65556 0), .num (.v 65560 0), .num (.v 65571 0), .num (.v 65579 0), .num (.wrap .u64 (.bin .quo (.v 65571 0) (.v 65556 0))), .num (.wrap .u64 (.bin .sub (.v 65571 0) (.v 65594 0)))] [.num (.v 65595 0), .num (.v 65595 1)] [.num (.wrap .u64 (.bin .sub (.v 65595 0) (.n 1))), .num (.wrap .u64 (.bin .add (.v 65595 1) (.v 65556 0)))]) <|
                    .bad)))
                 (.f (.is (.le (.n 4294967296) (.v 65595 0)) false) <|
                  .f (.is (.eq (.v 65608 0) (.wrap .u64 (.bin .add (.wrap .u64 (.bin .mul (.n 4294967296) (.v 65595 1))) (.v 65579 0)))) true) <|
                   .br (.f (.is (.lt (.v 65608 0) (.wrap .u64 (.bin .mul (.v 65595 0) (.v 65560 0)))) true) <|
                    .br (.f (.is (.le (.n 4294967296) (.wrap .u64 (.bin .add (.v 65595 1) (.v 65556 0)))) true) <|
                     .f (.is (.eq (.v 65627 0) (.wrap .u64 (.bin .add (.wrap .u64 (.bin .mul (.v 65571 0) (.n 4294967296))) (.v 65579 0)))) true) <|
                      .f (.is (.eq (.v 65628 0) (.wrap .u64 (.bin .mul (.wrap .u64 (.bin .sub (.v 65595 0) (.n 1))) (.wrap .u64 (.bin (.shl .u64) (.v 0 2) (.wrap .u64 (.v 65546 0))))))) true) <|
                       .f (.is (.eq (.v 65633 0) (.wrap .u64 (.bin .quo (.wrap .u64 (.bin .sub (.v 65627 0) (.v 65628 0))) (.v 65556 0)))) true) <|
                        .f (.is (.eq (.v 65640 0) (.wrap .u64 (.bin .sub (.wrap .u64 (.bin .sub (.v 65627 0) (.v 65628 0))) (.wrap .u64 (.bin .mul (.v 65633 0) (.v 65556 0)))))) true) <|
                         .br (.f (.rel 107224 [.num (.v 65556 0), .num (.v 65560 0), .num (.wrap .u64 (.bin .sub (.v 65627 0) (.v 65628 0))), .num (.v 65583 0), .num (.v 65633 0), .num (.v 65640 0)] 65641 [.int .u64, .int .u64]) <|
                          .br (.f (.is (.le (.n 4294967296) (.v 65641 0)) true) <|
                           .br (.f (.is (.le (.n 4294967296) (.wrap .u64 (.bin .add (.v 65641 1) (.v 65556 0)))) true) <|
                            .f (.is (.eq (.v 65679 0) (.wrap .u64 (.bin .mul (.wrap .u64 (.bin .sub (.v 65595 0) (.n 1))) (.n 4294967296)))) true) <|
                             .f (.is (.eq (.v 65680 0) (.wrap .u64 (.bin .add (.v 65679 0) (.wrap .u64 (.bin .sub (.v 65641 0) (.n 1)))))) true) <|
                              .f (.is (.eq (.v 65681 0) (.wrap .u64 (.bin .mul (.wrap .u64 (.bin .sub (.v 65627 0) (.v 65628 0))) (.n 4294967296)))) true) <|
                               .f (.is (.eq (.v 65682 0) (.wrap .u64 (.bin .mul (.wrap .u64 (.bin .sub (.v 65641 0) (.n 1))) (.wrap .u64 (.bin (.shl .u64) (.v 0 2) (.wrap .u64 (.v 65546 0))))))) true) <|
                                .f (.is (.eq (.v 65683 0) (.wrap .u64 (.bin .sub (.wrap .u64 (.bin .add (.v 65681 0) (.v 65583 0))) (.v 65682 0)))) true) <|
                                 .ok [.num (.v 65680 0), .num (.bin (.shr .u64) (.v 65683 0) (.wrap .u64 (.v 65546 0)))])
                           (.f (.is (.le (.n 4294967296) (.wrap .u64 (.bin .add (.v 65641 1) (.v 65556 0)))) false) <|
                            .br (.f (.nrel 107224 [.num (.v 65556 0), .num (.v 65560 0), .num (.wrap .u64 (.bin .sub (.v 65627 0) (.v 65628 0))), .num (.v 65583 0), .num (.v 65633 0), .num (.v 65640 0)] [.num (.wrap .u64 (.bin .sub (.v 65641 0) (.n 1))), .num (.wrap .u64 (.bin .add (.v 65641 1) (.v 65556 0)))]) <|
                             .bad)
                            (.f (.ndec 107224 [.num (.v 65556 0), .num (.v 65560 0), .num (.wrap .u64 (.bin .sub (.v 65627 0) (.v 65628 0))), .num (.v 65583 0), .num (.v 65633 0), .num (.v 65640 0)] [.num (.v 65641 0), .num (.v 65641 1)] [.num (.wrap .u64 (.bin .sub (.v 65641 0) (.n 1))), .num (.wrap .u64 (.bin .add (.v 65641 1) (.v 65556 0)))]) <|
                             .bad)))
                          (.f (.is (.le (.n 4294967296) (.v 65641 0)) false) <|
                           .f (.is (.eq (.v 65654 0) (.wrap .u64 (.bin .add (.wrap .u64 (.bin .mul (.n 4294967296) (.v 65641 1))) (.v 65583 0)))) true) <|
                            .br (.f (.is (.lt (.v 65654 0) (.wrap .u64 (.bin .mul (.v 65641 0) (.v 65560 0)))) true) <|
                             .br (.f (.is (.le (.n 4294967296) (.wrap .u64 (.bin .add (.v 65641 1) (.v 65556 0)))) true) <|
                              .f (.is (.eq (.v 65680 0) (.wrap .u64 (.bin .mul (.wrap .u64 (.bin .sub (.v 65595 0) (.n 1))) (.n 4294967296)))) true) <|
                               .f (.is (.eq (.v 65681 0) (.wrap .u64 (.bin .add (.v 65680 0) (.wrap .u64 (.bin .sub (.v 65641 0) (.n 1)))))) true) <|
                                .f (.is (.eq (.v 65682 0) (.wrap .u64 (.bin .mul (.wrap .u64 (.bin .sub (.v 65627 0) (.v 65628 0))) (.n 4294967296)))) true) <|
                                 .f (.is (.eq (.v 65683 0) (.wrap .u64 (.bin .mul (.wrap .u64 (.bin .sub (.v 65641 0) (.n 1))) (.wrap .u64 (.bin (.shl .u64) (.v 0 2) (.wrap .u64 (.v 65546 0))))))) true) <|
                                  .f (.is (.eq (.v 65684 0) (.wrap .u64 (.bin .sub (.wrap .u64 (.bin .add (.v 65682 0) (.v 65583 0))) (.v 65683 0)))) true) <|
                                   .ok [.num (.v 65681 0), .num (.bin (.shr .u64) (.v 65684 0) (.wrap .u64 (.v 65546 0)))])
                             (.f (.is (.le (.n 4294967296) (.wrap .u64 (.bin .add (.v 65641 1) (.v 65556 0)))) false) <|
                              .br (.f (.nrel 107224 [.num (.v 65556 0), .num (.v 65560 0), .num (.wrap .u64 (.bin .sub (.v 65627 0) (.v 65628 0))), .num (.v 65583 0), .num (.v 65633 0), .num (.v 65640 0)] [.num (.wrap .u64 (.bin .sub (.v 65641 0) (.n 1))), .num (.wrap .u64 (.bin .add (.v 65641 1) (.v 65556 0)))]) <|
                               .bad)
                              (.f (.ndec 107224 [.num (.v 65556 0), .num (.v 65560 0), .num (.wrap .u64 (.bin .sub (.v 65627 0) (.v 65628 0))), .num (.v 65583 0), .num (.v 65633 0), .num (.v 65640 0)] [.num (.v 65641 0), .num (.v 65641 1)] [.num (.wrap .u64 (.bin .sub (.v 65641 0) (.n 1))), .num (.wrap .u64 (.bin .add (.v 65641 1) (.v 65556 0)))]) <|
                               .bad)))
                            (.f (.is (.lt (.v 65654 0) (.wrap .u64 (.bin .mul (.v 65641 0) (.v 65560 0)))) false) <|
                             .f (.is (.eq (.v 65671 0) (.wrap .u64 (.bin .mul (.wrap .u64 (.bin .sub (.v 65595 0) (.n 1))) (.n 4294967296)))) true) <|
                              .f (.is (.eq (.v 65672 0) (.wrap .u64 (.bin .mul (.wrap .u64 (.bin .sub (.v 65627 0) (.v 65628 0))) (.n 4294967296)))) true) <|
                               .f (.is (.eq (.v 65673 0) (.wrap .u64 (.bin .mul (.v 65641 0) (.wrap .u64 (.bin (.shl .u64) (.v 0 2) (.wrap .u64 (.v 65546 0))))))) true) <|
                                .f (.is (.eq (.v 65674 0) (.wrap .u64 (.bin .sub (.wrap .u64 (.bin .add (.v 65672 0) (.v 65583 0))) (.v 65673 0)))) true) <|
                                 .ok [.num (.wrap .u64 (.bin .add (.v 65671 0) (.v 65641 0))), .num (.bin (.shr .u64) (.v 65674 0) (.wrap .u64 (.v 65546 0)))])))
                         (.f (.nrel 107224 [.num (.v 65556 0), .num (.v 65560 0), .num (.wrap .u64 (.bin .sub (.v 65627 0) (.v 65628 0))), .num (.v 65583 0), .num (.v 65633 0), .num (.v 65640 0)] [.num (.v 65633 0), .num (.v 65640 0)]) <|
                          .bad))
                    (.f (.is (.le (.n 4294967296) (.wrap .u64 (.bin .add (.v 65595 1) (.v 65556 0)))) false) <|
                     .br (.f (.nrel 107217 [.num (.v 65556 0), .num (.v 65560 0), .num (.v 65571 0), .num (.v 65579 0), .num (.wrap .u64 (.bin .quo (.v 65571 0) (.v 65556 0))), .num (.wrap .u64 (.bin .sub (.v 65571 0) (.v 65594 0)))] [.num (.wrap .u64 (.bin .sub (.v 65595 0) (.n 1))), .num (.wrap .u64 (.bin .add (.v 65595 1) (.v 65556 0)))]) <|
                      .bad)
                     (.f (.ndec 107217 [.num (.v 65556 0), .num (.v 65560 0), .num (.v 65571 0), .num (.v 65579 0), .num (.wrap .u64 (.bin .quo (.v 65571 0) (.v 65556 0))), .num (.wrap .u64 (.bin .sub (.v 65571 0) (.v 65594 0)))] [.num (.v 65595 0), .num (.v 65595 1)] [.num (.wrap .u64 (.bin .sub (.v 65595 0) (.n 1))), .num (.wrap .u64 (.bin .add (.v 65595 1) (.v 65556 0)))]) <|
                      .bad)))
                   (.f (.is (.lt (.v 65608 0) (.wrap .u64 (.bin .mul (.v 65595 0) (.v 65560 0)))) false) <|
                    .f (.is (.eq (.v 65618 0) (.wrap .u64 (.bin .add (.wrap .u64 (.bin .mul (.v 65571 0) (.n 4294967296))) (.v 65579 0)))) true) <|
                     .f (.is (.eq (.v 65619 0) (.wrap .u64 (.bin .mul (.v 65595 0) (.wrap .u64 (.bin (.shl .u64) (.v 0 2) (.wrap .u64 (.v 65546 0))))))) true) <|
                      .f (.is (.eq (.v 65624 0) (.wrap .u64 (.bin .quo (.wrap .u64 (.bin .sub (.v 65618 0) (.v 65619 0))) (.v 65556 0)))) true) <|
                       .f (.is (.eq (.v 65631 0) (.wrap .u64 (.bin .sub (.wrap .u64 (.bin .sub (.v 65618 0) (.v 65619 0))) (.wrap .u64 (.bin .mul (.v 65624 0) (.v 65556 0)))))) true) <|
                        .br (.f (.rel 107224 [.num (.v 65556 0), .num (.v 65560 0), .num (.wrap .u64 (.bin .sub (.v 65618 0) (.v 65619 0))), .num (.v 65583 0), .num (.v 65624 0), .num (.v 65631 0)] 65632 [.int .u64, .int .u64]) <|
                         .br (.f (.is (.le (.n 4294967296) (.v 65632 0)) true) <|
                          .br (.f (.is (.le (.n 4294967296) (.wrap .u64 (.bin .add (.v 65632 1) (.v 65556 0)))) true) <|
                           .f (.is (.eq (.v 65670 0) (.wrap .u64 (.bin .add (.wrap .u64 (.bin .mul (.v 65595 0) (.n 4294967296))) (.wrap .u64 (.bin .sub (.v 65632 0) (.n 1)))))) true) <|
                            .f (.is (.eq (.v 65671 0) (.wrap .u64 (.bin .mul (.wrap .u64 (.bin .sub (.v 65618 0) (.v 65619 0))) (.n 4294967296)))) true) <|
                             .f (.is (.eq (.v 65672 0) (.wrap .u64 (.bin .mul (.wrap .u64 (.bin .sub (.v 65632 0) (.n 1))) (.wrap .u64 (.bin (.shl .u64) (.v 0 2) (.wrap .u64 (.v 65546 0))))))) true) <|
                              .f (.is (.eq (.v 65673 0) (.wrap .u64 (.bin .sub (.wrap .u64 (.bin .add (.v 65671 0) (.v 65583 0))) (.v 65672 0)))) true) <|
                               .ok [.num (.v 65670 0), .num (.bin (.shr .u64) (.v 65673 0) (.wrap .u64 (.v 65546 0)))])
                          (.f (.is (.le (.n 4294967296) (.wrap .u64 (.bin .add (.v 65632 1) (.v 65556 0)))) false) <|
                           .br (.f (.nrel 107224 [.num (.v 65556 0), .num (.v 65560 0), .num (.wrap .u64 (.bin .sub (.v 65618 0) (.v 65619 0))), .num (.v 65583 0), .num (.v 65624 0), .num (.v 65631 0)] [.num (.wrap .u64 (.bin .sub (.v 65632 0) (.n 1))), .num (.wrap .u64 (.bin .add (.v 65632 1) (.v 65556 0)))]) <|
                            .bad)
                           (.f (.ndec 107224 [.num (.v 65556 0), .num (.v 65560 0), .num (.wrap .u64 (.bin .sub (.v 65618 0) (.v 65619 0))), .num (.v 65583 0), .num (.v 65624 0), .num (.v 65631 0)] [.num (.v 65632 0), .num (.v 65632 1)] [.num (.wrap .u64 (.bin .sub (.v 65632 0) (.n 1))), .num (.wrap .u64 (.bin .add (.v 65632 1) (.v 65556 0)))]) <|
                            .bad)))
                         (.f (.is (.le (.n 4294967296) (.v 65632 0)) false) <|
                          .f (.is (.eq (.v 65645 0) (.wrap .u64 (.bin .add (.wrap .u64 (.bin .mul (.n 4294967296) (.v 65632 1))) (.v 65583 0)))) true) <|
                           .br (.f (.is (.lt (.v 65645 0) (.wrap .u64 (.bin .mul (.v 65632 0) (.v 65560 0)))) true) <|
                            .br (.f (.is (.le (.n 4294967296) (.wrap .u64 (.bin .add (.v 65632 1) (.v 65556 0)))) true) <|
                             .f (.is (.eq (.v 65671 0) (.wrap .u64 (.bin .add (.wrap .u64 (.bin .mul (.v 65595 0) (.n 4294967296))) (.wrap .u64 (.bin .sub (.v 65632 0) (.n 1)))))) true) <|
                              .f (.is (.eq (.v 65672 0) (.wrap .u64 (.bin .mul (.wrap .u64 (.bin .sub (.v 65618 0) (.v 65619 0))) (.n 4294967296)))) true) <|
                               .f (.is (.eq (.v 65673 0) (.wrap .u64 (.bin .mul (.wrap .u64 (.bin .sub (.v 65632 0) (.n 1))) (.wrap .u64 (.bin (.shl .u64) (.v 0 2) (.wrap .u64 (.v 65546 0))))))) true) <|
                                .f (.is (.eq (.v 65674 0) (.wrap .u64 (.bin .sub (.wrap .u64 (.bin .add (.v 65672 0) (.v 65583 0))) (.v 65673 0)))) true) <|
                                 .ok [.num (.v 65671 0), .num (.bin (.shr .u64) (.v 65674 0) (.wrap .u64 (.v 65546 0)))])
                            (.f (.is (.le (.n 4294967296) (.wrap .u64 (.bin .add (.v 65632 1) (.v 65556 0)))) false) <|
                             .br (.f (.nrel 107224 [.num (.v 65556 0), .num (.v 65560 0), .num (.wrap .u64 (.bin .sub (.v 65618 0) (.v 65619 0))), .num (.v 65583 0), .num (.v 65624 0), .num (.v 65631 0)] [.num (.wrap .u64 (.bin .sub (.v 65632 0) (.n 1))), .num (.wrap .u64 (.bin .add (.v 65632 1) (.v 65556 0)))]) <|
                              .bad)
                             (.f (.ndec 107224 [.num (.v 65556 0), .num (.v 65560 0), .num (.wrap .u64 (.bin .sub (.v 65618 0) (.v 65619 0))), .num (.v 65583 0), .num (.v 65624 0), .num (.v 65631 0)] [.num (.v 65632 0), .num (.v 65632 1)] [.num (.wrap .u64 (.bin .sub (.v 65632 0) (.n 1))), .num (.wrap .u64 (.bin .add (.v 65632 1) (.v 65556 0)))]) <|
                              .bad)))
                           (.f (.is (.lt (.v 65645 0) (.wrap .u64 (.bin .mul (.v 65632 0) (.v 65560 0)))) false) <|
                            .f (.is (.eq (.v 65662 0) (.wrap .u64 (.bin .add (.wrap .u64 (.bin .mul (.v 65595 0) (.n 4294967296))) (.v 65632 0)))) true) <|
                             .f (.is (.eq (.v 65663 0) (.wrap .u64 (.bin .mul (.wrap .u64 (.bin .sub (.v 65618 0) (.v 65619 0))) (.n 4294967296)))) true) <|
                              .f (.is (.eq (.v 65664 0) (.wrap .u64 (.bin .mul (.v 65632 0) (.wrap .u64 (.bin (.shl .u64) (.v 0 2) (.wrap .u64 (.v 65546 0))))))) true) <|
                               .f (.is (.eq (.v 65665 0) (.wrap .u64 (.bin .sub (.wrap .u64 (.bin .add (.v 65663 0) (.v 65583 0))) (.v 65664 0)))) true) <|
                                .ok [.num (.v 65662 0), .num (.bin (.shr .u64) (.v 65665 0) (.wrap .u64 (.v 65546 0)))])))
                        (.f (.nrel 107224 [.num (.v 65556 0), .num (.v 65560 0), .num (.wrap .u64 (.bin .sub (.v 65618 0) (.v 65619 0))), .num (.v 65583 0), .num (.v 65624 0), .num (.v 65631 0)] [.num (.v 65624 0), .num (.v 65631 0)]) <|
                         .bad))))
                (.f (.nrel 107217 [.num (.v 65556 0), .num (.v 65560 0), .num (.v 65571 0), .num (.v 65579 0), .num (.wrap .u64 (.bin .quo (.v 65571 0) (.v 65556 0))), .num (.wrap .u64 (.bin .sub (.v 65571 0) (.v 65594 0)))] [.num (.wrap .u64 (.bin .quo (.v 65571 0) (.v 65556 0))), .num (.wrap .u64 (.bin .sub (.v 65571 0) (.v 65594 0)))]) <|
                 .bad))
              (.f (.is (.eq (.v 65556 0) (.n 0)) true) <|
               .bad))
         (.f (.is (.lt (.wrap .u64 (.bin .sub (.n 64) (.wrap .u64 (.v 65546 0)))) (.n 0)) true) <|
          .bad))
      (.f (.is (.lt (.wrap .u64 (.v 65546 0)) (.n 0)) true) <|
       .bad))
     (.f (.npre 89 [.num (.v 0 2)]) <|
      .bad)))
   (.f (.is (.le (.v 0 2) (.v 0 0)) true) <|
    .bad))
  (.f (.is (.eq (.v 0 2) (.n 0)) true) <|
   .bad)
theorem c72 : ConS Tryz.prog T C72 := con_tr (cs := [C89]) (lcs := [L107217, L107224]) (known := []) (cons_cons c89 (cons_nil _ _)) (Known.nil _) (N := 400) (d := 40) (t := t72) (by kernel_rfl) <| by
  intro E hl hp
  clear hl
  have hp := hp rfl
  simp only [C72, show T.pre 72 = Q72 from rfl, flatS, SP.flat, dvs, List.append_nil, List.cons_append, List.nil_append, Q72, U64, U32, I64, Big, W, wv, s64, WT, PR, MR, MB] at hp
  simp only [t72, C72, Tr.good, Fact.den, LX.den, DX.ls, DV.ls, DX.den, Bx.den, Ex.den, eo_add, eo_sub, eo_mul, eo_quo, eo_rem, eo_fdv, eo_mn, eo_mx, eo_land, eo_lor, eo_lxor, eo_landn, eo_shl, eo_shr, dvs, flatS, SP.flat, ST.flat, List.map_cons, List.map_nil, List.append_nil, List.cons_append, List.nil_append, ltb_t, ltb_f, leb_t, leb_f, eqb_t, eqb_f, decide_eq_true_eq, decide_eq_false_iff_not, Bool.not_eq_true', Bool.not_eq_false', Bool.and_eq_true, Bool.and_eq_false_imp, beq_iff_eq, beq_eq_false_iff_ne, bne_iff_ne, U64, U32, I64, Big, W, wv, Told, s64, WT, PR, MR, MB, Int.zero_mul, Int.zero_add, Int.add_zero, Int.mul_zero, IntKind.wrap_u64, IntKind.wrap_i64, IntKind.wrap_u32, ne_eq, forall_const, true_implies, show T.rel 72 = R72 from rfl, R72, show T.rel 89 = R89 from rfl, R89, show T.rel 107217 = R107217 from rfl, R107217, show T.rel 107224 = R107224 from rfl, R107224, show T.mu 107217 = M107217 from rfl, M107217, show T.mu 107224 = M107224 from rfl, M107224, show T.pre 72 = Q72 from rfl, Q72, show T.pre 89 = Q89 from rfl, Q89]
  revert hp
  generalize (E.r 0).i 0 = hi
  generalize (E.r 0).i 1 = lo
  generalize (E.r 0).i 2 = y
  generalize (E.r 65546).i 0 = x10_0
  generalize (E.r 65556).i 0 = x20_0
  generalize (E.r 65560).i 0 = x24_0
  generalize (E.r 65570).i 0 = x34_0
  generalize (E.r 65571).i 0 = x35_0
  generalize (E.r 65579).i 0 = x43_0
  generalize (E.r 65583).i 0 = x47_0
  generalize (E.r 65594).i 0 = x58_0
  generalize (E.r 65595).i 0 = x59_0
  generalize (E.r 65595).i 1 = x59_1
  generalize (E.r 65608).i 0 = x72_0
  generalize (E.r 65618).i 0 = x82_0
  generalize (E.r 65619).i 0 = x83_0
  generalize (E.r 65624).i 0 = x88_0
  generalize (E.r 65626).i 0 = x90_0
  generalize (E.r 65627).i 0 = x91_0
  generalize (E.r 65628).i 0 = x92_0
  generalize (E.r 65631).i 0 = x95_0
  generalize (E.r 65632).i 0 = x96_0
  generalize (E.r 65632).i 1 = x96_1
  generalize (E.r 65633).i 0 = x97_0
  generalize (E.r 65639).i 0 = x103_0
  generalize (E.r 65640).i 0 = x104_0
  generalize (E.r 65640).i 1 = x104_1
  generalize (E.r 65641).i 0 = x105_0
  generalize (E.r 65641).i 1 = x105_1
  generalize (E.r 65645).i 0 = x109_0
  generalize (E.r 65653).i 0 = x117_0
  generalize (E.r 65654).i 0 = x118_0
  generalize (E.r 65662).i 0 = x126_0
  generalize (E.r 65663).i 0 = x127_0
  generalize (E.r 65664).i 0 = x128_0
  generalize (E.r 65665).i 0 = x129_0
  generalize (E.r 65670).i 0 = x134_0
  generalize (E.r 65671).i 0 = x135_0
  generalize (E.r 65672).i 0 = x136_0
  generalize (E.r 65673).i 0 = x137_0
  generalize (E.r 65674).i 0 = x138_0
  generalize (E.r 65678).i 0 = x142_0
  generalize (E.r 65679).i 0 = x143_0
  generalize (E.r 65680).i 0 = x144_0
  generalize (E.r 65681).i 0 = x145_0
  generalize (E.r 65682).i 0 = x146_0
  generalize (E.r 65683).i 0 = x147_0
  generalize (E.r 65684).i 0 = x148_0
  try simp only [mxI, mnI]
  try simp only [ltb, leb, eqb, Int.lt_irrefl, decide_false, Int.le_refl, decide_true]
  intro hp
  obtain ⟨⟨hi0, hi1⟩, ⟨lo0, lo1⟩, ⟨y0, y1⟩, hlt⟩ := hp
  refine ⟨fun hy0 => ⟨fun _ => ⟨fun hz => ?_, fun hz => ⟨fun e10 => ⟨fun s0 e20 e24 => ⟨fun s1 e34 e35 e43 e47 => ⟨fun n20 e58 => ⟨fun D1 => ?_, ?_⟩, ?_⟩, ?_⟩, ?_⟩, ?_⟩⟩, ?_⟩, ?_⟩
  · subst hz
    rw [Int.tdiv_eq_ediv_of_nonneg lo0, Int.tmod_eq_emod_of_nonneg lo0]
    have a := Int.ediv_nonneg lo0 (show 0 ≤ y by omega)
    have b := Int.ediv_le_self y lo0
    simp only [Int.zero_mul, Int.zero_add, and_true]
    omega
  · have F := df_of hi0 hlt lo0 lo1 y1 e10 e20 e24 e34 e35 e43 e47
    refine ⟨fun g1 => ⟨fun g2 => ?_, fun g2 => ⟨fun n => n ((dl_step D1 (Or.inl g1)).2 g2).1, fun n => n ((dl_step D1 (Or.inl g1)).2 g2).2⟩⟩, fun g1 e72 => ⟨fun g6 => ⟨fun g2 => ?_, fun g2 => ⟨fun n => n ((dl_step D1 (Or.inr (by have := dl_test D1 g1 e72; omega))).2 g2).1, fun n => n ((dl_step D1 (Or.inr (by have := dl_test D1 g1 e72; omega))).2 g2).2⟩⟩, fun g6 => ?_⟩⟩
    · intro e90 e91 e96 e103
      have hu := dl_left F.db ((dl_step D1 (Or.inl g1)).1 g2) F.hY e90 e91
      have D2' := dl_next F.db F.w0 F.w1
      rw [← hu] at D2'
      refine ⟨fun D2 => ⟨fun g3 => ⟨fun g4 => ?_, fun g4 => ⟨fun n => n ((dl_step D2 (Or.inl g3)).2 g4).1, fun n => n ((dl_step D2 (Or.inl g3)).2 g4).2⟩⟩, fun g3 e9 => ⟨fun g5 => ⟨fun g4 => ?_, fun g4 => ⟨fun n => n ((dl_step D2 (Or.inr (by have := dl_test D2 g3 e9; omega))).2 g4).1, fun n => n ((dl_step D2 (Or.inr (by have := dl_test D2 g3 e9; omega))).2 g4).2⟩⟩, fun g5 => ?_⟩⟩, fun n => n (by rw [e103]; exact dl_init D2' rfl e96)⟩
      · first
          | (intro a1 a2 a3 a4 a5; rw [a2, a1]; exact dl_last F ((dl_step D1 (Or.inl g1)).1 g2) hu ((dl_step D2 (Or.inl g3)).1 g4) a3 a4 a5)
          | (intro a1 a3 a4 a5; rw [a1]; exact dl_last F ((dl_step D1 (Or.inl g1)).1 g2) hu ((dl_step D2 (Or.inl g3)).1 g4) a3 a4 a5)
          | (intro a3 a4 a5; exact dl_last F ((dl_step D1 (Or.inl g1)).1 g2) hu ((dl_step D2 (Or.inl g3)).1 g4) a3 a4 a5)
      · first
          | (intro a1 a2 a3 a4 a5; rw [a2, a1]; exact dl_last F ((dl_step D1 (Or.inl g1)).1 g2) hu ((dl_step D2 (Or.inr (by have := dl_test D2 g3 e9; omega))).1 g4) a3 a4 a5)
          | (intro a1 a3 a4 a5; rw [a1]; exact dl_last F ((dl_step D1 (Or.inl g1)).1 g2) hu ((dl_step D2 (Or.inr (by have := dl_test D2 g3 e9; omega))).1 g4) a3 a4 a5)
          | (intro a3 a4 a5; exact dl_last F ((dl_step D1 (Or.inl g1)).1 g2) hu ((dl_step D2 (Or.inr (by have := dl_test D2 g3 e9; omega))).1 g4) a3 a4 a5)
      · first
          | (intro a1 a2 a3 a4 a5; rw [a2, a1]; exact dl_last F ((dl_step D1 (Or.inl g1)).1 g2) hu (dl_stop D2 g3 e9 g5) a3 a4 a5)
          | (intro a1 a3 a4 a5; rw [a1]; exact dl_last F ((dl_step D1 (Or.inl g1)).1 g2) hu (dl_stop D2 g3 e9 g5) a3 a4 a5)
          | (intro a3 a4 a5; exact dl_last F ((dl_step D1 (Or.inl g1)).1 g2) hu (dl_stop D2 g3 e9 g5) a3 a4 a5)
    · intro e90 e91 e96 e103
      have hu := dl_left F.db ((dl_step D1 (Or.inr (by have := dl_test D1 g1 e72; omega))).1 g2) F.hY e90 e91
      have D2' := dl_next F.db F.w0 F.w1
      rw [← hu] at D2'
      refine ⟨fun D2 => ⟨fun g3 => ⟨fun g4 => ?_, fun g4 => ⟨fun n => n ((dl_step D2 (Or.inl g3)).2 g4).1, fun n => n ((dl_step D2 (Or.inl g3)).2 g4).2⟩⟩, fun g3 e9 => ⟨fun g5 => ⟨fun g4 => ?_, fun g4 => ⟨fun n => n ((dl_step D2 (Or.inr (by have := dl_test D2 g3 e9; omega))).2 g4).1, fun n => n ((dl_step D2 (Or.inr (by have := dl_test D2 g3 e9; omega))).2 g4).2⟩⟩, fun g5 => ?_⟩⟩, fun n => n (by rw [e103]; exact dl_init D2' rfl e96)⟩
      · first
          | (intro a1 a2 a3 a4 a5; rw [a2, a1]; exact dl_last F ((dl_step D1 (Or.inr (by have := dl_test D1 g1 e72; omega))).1 g2) hu ((dl_step D2 (Or.inl g3)).1 g4) a3 a4 a5)
          | (intro a1 a3 a4 a5; rw [a1]; exact dl_last F ((dl_step D1 (Or.inr (by have := dl_test D1 g1 e72; omega))).1 g2) hu ((dl_step D2 (Or.inl g3)).1 g4) a3 a4 a5)
          | (intro a3 a4 a5; exact dl_last F ((dl_step D1 (Or.inr (by have := dl_test D1 g1 e72; omega))).1 g2) hu ((dl_step D2 (Or.inl g3)).1 g4) a3 a4 a5)
      · first
          | (intro a1 a2 a3 a4 a5; rw [a2, a1]; exact dl_last F ((dl_step D1 (Or.inr (by have := dl_test D1 g1 e72; omega))).1 g2) hu ((dl_step D2 (Or.inr (by have := dl_test D2 g3 e9; omega))).1 g4) a3 a4 a5)
          | (intro a1 a3 a4 a5; rw [a1]; exact dl_last F ((dl_step D1 (Or.inr (by have := dl_test D1 g1 e72; omega))).1 g2) hu ((dl_step D2 (Or.inr (by have := dl_test D2 g3 e9; omega))).1 g4) a3 a4 a5)
          | (intro a3 a4 a5; exact dl_last F ((dl_step D1 (Or.inr (by have := dl_test D1 g1 e72; omega))).1 g2) hu ((dl_step D2 (Or.inr (by have := dl_test D2 g3 e9; omega))).1 g4) a3 a4 a5)
      · first
          | (intro a1 a2 a3 a4 a5; rw [a2, a1]; exact dl_last F ((dl_step D1 (Or.inr (by have := dl_test D1 g1 e72; omega))).1 g2) hu (dl_stop D2 g3 e9 g5) a3 a4 a5)
          | (intro a1 a3 a4 a5; rw [a1]; exact dl_last F ((dl_step D1 (Or.inr (by have := dl_test D1 g1 e72; omega))).1 g2) hu (dl_stop D2 g3 e9 g5) a3 a4 a5)
          | (intro a3 a4 a5; exact dl_last F ((dl_step D1 (Or.inr (by have := dl_test D1 g1 e72; omega))).1 g2) hu (dl_stop D2 g3 e9 g5) a3 a4 a5)
    · intro e90 e91 e96 e103
      have hu := dl_left F.db (dl_stop D1 g1 e72 g6) F.hY e90 e91
      have D2' := dl_next F.db F.w0 F.w1
      rw [← hu] at D2'
      refine ⟨fun D2 => ⟨fun g3 => ⟨fun g4 => ?_, fun g4 => ⟨fun n => n ((dl_step D2 (Or.inl g3)).2 g4).1, fun n => n ((dl_step D2 (Or.inl g3)).2 g4).2⟩⟩, fun g3 e9 => ⟨fun g5 => ⟨fun g4 => ?_, fun g4 => ⟨fun n => n ((dl_step D2 (Or.inr (by have := dl_test D2 g3 e9; omega))).2 g4).1, fun n => n ((dl_step D2 (Or.inr (by have := dl_test D2 g3 e9; omega))).2 g4).2⟩⟩, fun g5 => ?_⟩⟩, fun n => n (by rw [e103]; exact dl_init D2' rfl e96)⟩
      · first
          | (intro a1 a2 a3 a4 a5; rw [a2, a1]; exact dl_last F (dl_stop D1 g1 e72 g6) hu ((dl_step D2 (Or.inl g3)).1 g4) a3 a4 a5)
          | (intro a1 a3 a4 a5; rw [a1]; exact dl_last F (dl_stop D1 g1 e72 g6) hu ((dl_step D2 (Or.inl g3)).1 g4) a3 a4 a5)
          | (intro a3 a4 a5; exact dl_last F (dl_stop D1 g1 e72 g6) hu ((dl_step D2 (Or.inl g3)).1 g4) a3 a4 a5)
      · first
          | (intro a1 a2 a3 a4 a5; rw [a2, a1]; exact dl_last F (dl_stop D1 g1 e72 g6) hu ((dl_step D2 (Or.inr (by have := dl_test D2 g3 e9; omega))).1 g4) a3 a4 a5)
          | (intro a1 a3 a4 a5; rw [a1]; exact dl_last F (dl_stop D1 g1 e72 g6) hu ((dl_step D2 (Or.inr (by have := dl_test D2 g3 e9; omega))).1 g4) a3 a4 a5)
          | (intro a3 a4 a5; exact dl_last F (dl_stop D1 g1 e72 g6) hu ((dl_step D2 (Or.inr (by have := dl_test D2 g3 e9; omega))).1 g4) a3 a4 a5)
      · first
          | (intro a1 a2 a3 a4 a5; rw [a2, a1]; exact dl_last F (dl_stop D1 g1 e72 g6) hu (dl_stop D2 g3 e9 g5) a3 a4 a5)
          | (intro a1 a3 a4 a5; rw [a1]; exact dl_last F (dl_stop D1 g1 e72 g6) hu (dl_stop D2 g3 e9 g5) a3 a4 a5)
          | (intro a3 a4 a5; exact dl_last F (dl_stop D1 g1 e72 g6) hu (dl_stop D2 g3 e9 g5) a3 a4 a5)
  · exact fun n => n (dl_init (df_of hi0 hlt lo0 lo1 y1 e10 e20 e24 e34 e35 e43 e47).db e58 rfl)
  all_goals try omega
  all_goals
    have F := df_of hi0 hlt lo0 lo1 y1 e10 e20 e24 e34 e35 e43 e47
    have := F.db.a0
    omega
end Go.Proofs.YtjemohphaeiaiaaGreatDoor.Fn
namespace Go.Proofs.YtjemohphaeiaiaaGreatDoor.Fn
open Go Go.RowKit Go.Proofs.YtjemohphaeiaiaaGreatDoor.Sy
set_option linter.unusedVariables false
set_option linter.unusedSimpArgs false
set_option maxRecDepth 100000
def t48 : Tr :=
  .br (.f (.is (.eq (.v 0 2) (.n 0)) true) <|
   .ok [.num (.n 0), .num (.n 0), .num (.n 0), .tru (.lt (.n 0) (.n 0))])
  (.f (.is (.eq (.v 0 2) (.n 0)) false) <|
   .br (.f (.rel 71 [.num (.v 0 0), .num (.v 0 1)] 65543 [.int .u64, .int .u64]) <|
    .br (.f (.rel 72 [.num (.bin .rem (.v 65543 0) (.v 0 2)), .num (.v 65543 1), .num (.v 0 2)] 65560 [.int .u64, .int .u64]) <|
     .br (.f (.is (.le (.n 0) (.v 0 0)) true) <|
      .ok [.num (.wrap .i64 (.wrap .u64 (.bin .quo (.v 65543 0) (.v 0 2)))), .num (.v 65560 0), .num (.v 65560 1), .tru (.le (.n 0) (.n 0))])
     (.f (.is (.le (.n 0) (.v 0 0)) false) <|
      .br (.f (.is (.lt (.n 0) (.v 65560 1)) true) <|
       .br (.f (.rel 47 [.num (.v 65560 0), .num (.n 1), .num (.n 0)] 65573 [.int .u64, .int .u64]) <|
        .f (.is (.eq (.v 65587 0) (.wrap .u64 (.bin .add (.wrap .u64 (.bin .quo (.v 65543 0) (.v 0 2))) (.v 65573 1)))) true) <|
         .br (.f (.rel 73 [.num (.wrap .i64 (.v 65587 0)), .num (.v 65573 0)] 65592 [.int .i64, .int .u64]) <|
          .ok [.num (.v 65592 0), .num (.v 65592 1), .num (.wrap .u64 (.bin .sub (.v 0 2) (.v 65560 1))), .tru (.le (.n 0) (.n 0))])
         (.f (.npre 73 [.num (.wrap .i64 (.v 65587 0)), .num (.v 65573 0)]) <|
          .bad))
       (.f (.npre 47 [.num (.v 65560 0), .num (.n 1), .num (.n 0)]) <|
        .bad))
      (.f (.is (.lt (.n 0) (.v 65560 1)) false) <|
       .br (.f (.rel 73 [.num (.wrap .i64 (.wrap .u64 (.bin .quo (.v 65543 0) (.v 0 2)))), .num (.v 65560 0)] 65575 [.int .i64, .int .u64]) <|
        .ok [.num (.v 65575 0), .num (.v 65575 1), .num (.v 65560 1), .tru (.le (.n 0) (.n 0))])
       (.f (.npre 73 [.num (.wrap .i64 (.wrap .u64 (.bin .quo (.v 65543 0) (.v 0 2)))), .num (.v 65560 0)]) <|
        .bad))))
    (.f (.npre 72 [.num (.bin .rem (.v 65543 0) (.v 0 2)), .num (.v 65543 1), .num (.v 0 2)]) <|
     .bad))
   (.f (.npre 71 [.num (.v 0 0), .num (.v 0 1)]) <|
    .bad))
theorem c48 : ConS Tryz.prog T C48 := con_tr (cs := [C47, C71, C72, C73]) (lcs := []) (known := []) (cons_cons c47 (cons_cons c71 (cons_cons c72 (cons_cons c73 (cons_nil _ _))))) (Known.nil _) (N := 400) (d := 40) (t := t48) (by kernel_rfl) <| by
  intro E hl hp
  clear hl
  have hp := hp rfl
  simp only [C48, show T.pre 48 = Q48 from rfl, flatS, SP.flat, dvs, List.append_nil, List.cons_append, List.nil_append, Q48, U64, U32, I64, Big, W, wv, s64, WT, PR, MR, MB] at hp
  simp only [t48, C48, Tr.good, Fact.den, LX.den, DX.ls, DV.ls, DX.den, Bx.den, Ex.den, eo_add, eo_sub, eo_mul, eo_quo, eo_rem, eo_fdv, eo_mn, eo_mx, eo_land, eo_lor, eo_lxor, eo_landn, eo_shl, eo_shr, dvs, flatS, SP.flat, ST.flat, List.map_cons, List.map_nil, List.append_nil, List.cons_append, List.nil_append, ltb_t, ltb_f, leb_t, leb_f, eqb_t, eqb_f, decide_eq_true_eq, decide_eq_false_iff_not, Bool.not_eq_true', Bool.not_eq_false', Bool.and_eq_true, Bool.and_eq_false_imp, beq_iff_eq, beq_eq_false_iff_ne, bne_iff_ne, U64, U32, I64, Big, W, wv, Told, s64, WT, PR, MR, MB, Int.zero_mul, Int.zero_add, Int.add_zero, Int.mul_zero, IntKind.wrap_u64, IntKind.wrap_i64, IntKind.wrap_u32, ne_eq, forall_const, true_implies, show T.rel 47 = R47 from rfl, R47, show T.rel 48 = R48 from rfl, R48, show T.rel 71 = R71 from rfl, R71, show T.rel 72 = R72 from rfl, R72, show T.rel 73 = R73 from rfl, R73, show T.pre 47 = Q47 from rfl, Q47, show T.pre 48 = Q48 from rfl, Q48, show T.pre 71 = Q71 from rfl, Q71, show T.pre 72 = Q72 from rfl, Q72, show T.pre 73 = Q73 from rfl, Q73]
  revert hp
  generalize (E.r 0).i 0 = h
  generalize (E.r 0).i 1 = l
  generalize (E.r 0).i 2 = b
  generalize (E.r 65543).i 0 = x7_0
  generalize (E.r 65543).i 1 = x7_1
  generalize (E.r 65560).i 0 = x24_0
  generalize (E.r 65560).i 1 = x24_1
  generalize (E.r 65573).i 0 = x37_0
  generalize (E.r 65573).i 1 = x37_1
  generalize (E.r 65575).i 0 = x39_0
  generalize (E.r 65575).i 1 = x39_1
  generalize (E.r 65587).i 0 = x51_0
  generalize (E.r 65592).i 0 = x56_0
  generalize (E.r 65592).i 1 = x56_1
  try simp only [mxI, mnI]
  try simp only [ltb, leb, eqb, Int.lt_irrefl, decide_false, Int.le_refl, decide_true]
  intro hp
  by_cases b0 : b = 0
  · subst b0
    simp only [not_true_eq_false, false_imp_iff, and_true, true_imp_iff, true_and, iff_self]
    omega
  simp only [b0, not_false_eq_true, false_imp_iff, true_imp_iff, true_and, and_true, true_iff, iff_self]
  refine ⟨fun f1 => ?_, by omega⟩
  obtain ⟨a1, a2, a3, a4, a5, a6, a7, a8, a9, a10, a11, a12⟩ := div_of (s0 := x7_0) (s1 := x7_1) (b := b) (by omega) (by omega) (by omega) (by omega) (by omega)
  have hn := div_neg (v := h * 18446744073709551616 + l) (m := x7_0 * 18446744073709551616 + x7_1) (b := b) (by omega)
  have hq : 0 ≤ h → (x7_0 * 18446744073709551616 + x7_1) / b = (h * 18446744073709551616 + l) / b ∧ (x7_0 * 18446744073709551616 + x7_1) % b = (h * 18446744073709551616 + l) % b := by
    intro c; rw [f1.2.2.2 c]; exact ⟨rfl, rfl⟩
  have hs : x7_0 * 18446744073709551616 + x7_1 ≤ 170141183460469231731687303715884105728 := by omega
  generalize (x7_0.tmod b * 18446744073709551616 + x7_1) / b = q1 at *
  generalize (x7_0.tmod b * 18446744073709551616 + x7_1) % b = q2 at *
  generalize (x7_0 * 18446744073709551616 + x7_1) / b = q3 at *
  generalize (x7_0 * 18446744073709551616 + x7_1) % b = q4 at *
  generalize (h * 18446744073709551616 + l) / b = q5 at *
  generalize (h * 18446744073709551616 + l) % b = q6 at *
  generalize x7_0.tdiv b = q7 at *
  generalize x7_0.tmod b = q8 at *
  repeat' (first | intro _ | refine And.intro ?_ ?_ | refine Iff.intro ?_ ?_)
  all_goals first | omega | (simp_all; done) | (simp_all; omega)
end Go.Proofs.YtjemohphaeiaiaaGreatDoor.Fn
namespace Go.Proofs.YtjemohphaeiaiaaGreatDoor.Fn
open Go Go.RowKit Go.Proofs.YtjemohphaeiaiaaGreatDoor.Sy
set_option linter.unusedVariables false
set_option linter.unusedSimpArgs false
set_option maxRecDepth 100000
def t74 : Tr :=
  .br (.f (.is (.lt (.v 0 0) (.n 0)) true) <|
   .ok [.num (.n (-1)), .num (.wrap .u64 (.v 0 0))])
  (.f (.is (.lt (.v 0 0) (.n 0)) false) <|
   .ok [.num (.n 0), .num (.wrap .u64 (.v 0 0))])
theorem c74 : ConS Tryz.prog T C74 := con_tr (cs := []) (lcs := []) (known := []) (cons_nil _ _) (Known.nil _) (N := 400) (d := 40) (t := t74) (by kernel_rfl) <| by
  intro E hl hp
  clear hl
  have hp := hp rfl
  simp only [C74, show T.pre 74 = Q74 from rfl, flatS, SP.flat, dvs, List.append_nil, List.cons_append, List.nil_append, Q74, U64, U32, I64, Big, W, wv, s64, WT, PR, MR, MB] at hp
  simp only [t74, C74, Tr.good, Fact.den, LX.den, DX.ls, DV.ls, DX.den, Bx.den, Ex.den, eo_add, eo_sub, eo_mul, eo_quo, eo_rem, eo_fdv, eo_mn, eo_mx, eo_land, eo_lor, eo_lxor, eo_landn, eo_shl, eo_shr, dvs, flatS, SP.flat, ST.flat, List.map_cons, List.map_nil, List.append_nil, List.cons_append, List.nil_append, ltb_t, ltb_f, leb_t, leb_f, eqb_t, eqb_f, decide_eq_true_eq, decide_eq_false_iff_not, Bool.not_eq_true', Bool.not_eq_false', Bool.and_eq_true, Bool.and_eq_false_imp, beq_iff_eq, beq_eq_false_iff_ne, bne_iff_ne, U64, U32, I64, Big, W, wv, Told, s64, WT, PR, MR, MB, Int.zero_mul, Int.zero_add, Int.add_zero, Int.mul_zero, IntKind.wrap_u64, IntKind.wrap_i64, IntKind.wrap_u32, ne_eq, forall_const, true_implies, show T.rel 74 = R74 from rfl, R74, show T.pre 74 = Q74 from rfl, Q74]
  revert hp
  generalize (E.r 0).i 0 = x
  try simp only [mxI, mnI]
  try simp only [ltb, leb, eqb, Int.lt_irrefl, decide_false, Int.le_refl, decide_true]
  repeat' (first | intro _ | refine And.intro ?_ ?_ | refine Iff.intro ?_ ?_)
  all_goals first | omega | (simp_all; done) | (simp_all; omega)
end Go.Proofs.YtjemohphaeiaiaaGreatDoor.Fn
namespace Go.Proofs.YtjemohphaeiaiaaGreatDoor.Fn
open Go Go.RowKit Go.Proofs.YtjemohphaeiaiaaGreatDoor.Sy
set_option linter.unusedVariables false
set_option linter.unusedSimpArgs false
set_option maxRecDepth 100000
def t49 : Tr :=
  .br (.f (.rel 74 [.num (.wrap .i64 (.v 0 1))] 65544 [.int .i64, .int .u64]) <|
   .br (.f (.is (.and (.eq (.v 65544 0) (.v 0 0)) (.and (.eq (.v 65544 1) (.v 0 1)) (.le (.n 0) (.n 0)))) false) <|
    .ok [.num (.n 0), .tru (.lt (.n 0) (.n 0))])
   (.f (.is (.and (.eq (.v 65544 0) (.v 0 0)) (.and (.eq (.v 65544 1) (.v 0 1)) (.le (.n 0) (.n 0)))) true) <|
    .ok [.num (.wrap .i64 (.v 0 1)), .tru (.le (.n 0) (.n 0))]))
  (.f (.npre 74 [.num (.wrap .i64 (.v 0 1))]) <|
   .bad)
theorem c49 : ConS Tryz.prog T C49 := con_tr (cs := [C74]) (lcs := []) (known := []) (cons_cons c74 (cons_nil _ _)) (Known.nil _) (N := 400) (d := 40) (t := t49) (by kernel_rfl) <| by
  intro E hl hp
  clear hl
  have hp := hp rfl
  simp only [C49, show T.pre 49 = Q49 from rfl, flatS, SP.flat, dvs, List.append_nil, List.cons_append, List.nil_append, Q49, U64, U32, I64, Big, W, wv, s64, WT, PR, MR, MB] at hp
  simp only [t49, C49, Tr.good, Fact.den, LX.den, DX.ls, DV.ls, DX.den, Bx.den, Ex.den, eo_add, eo_sub, eo_mul, eo_quo, eo_rem, eo_fdv, eo_mn, eo_mx, eo_land, eo_lor, eo_lxor, eo_landn, eo_shl, eo_shr, dvs, flatS, SP.flat, ST.flat, List.map_cons, List.map_nil, List.append_nil, List.cons_append, List.nil_append, ltb_t, ltb_f, leb_t, leb_f, eqb_t, eqb_f, decide_eq_true_eq, decide_eq_false_iff_not, Bool.not_eq_true', Bool.not_eq_false', Bool.and_eq_true, Bool.and_eq_false_imp, beq_iff_eq, beq_eq_false_iff_ne, bne_iff_ne, U64, U32, I64, Big, W, wv, Told, s64, WT, PR, MR, MB, Int.zero_mul, Int.zero_add, Int.add_zero, Int.mul_zero, IntKind.wrap_u64, IntKind.wrap_i64, IntKind.wrap_u32, ne_eq, forall_const, true_implies, show T.rel 49 = R49 from rfl, R49, show T.rel 74 = R74 from rfl, R74, show T.pre 49 = Q49 from rfl, Q49, show T.pre 74 = Q74 from rfl, Q74]
  revert hp
  generalize (E.r 0).i 0 = h
  generalize (E.r 0).i 1 = l
  generalize (E.r 65544).i 0 = x8_0
  generalize (E.r 65544).i 1 = x8_1
  try simp only [mxI, mnI]
  try simp only [ltb, leb, eqb, Int.lt_irrefl, decide_false, Int.le_refl, decide_true]
  repeat' (first | intro _ | refine And.intro ?_ ?_ | refine Iff.intro ?_ ?_)
  all_goals first | omega | (simp_all; done) | (simp_all; omega)
end Go.Proofs.YtjemohphaeiaiaaGreatDoor.Fn
namespace Go.Proofs.YtjemohphaeiaiaaGreatDoor.Fn
open Go Go.RowKit Go.Proofs.YtjemohphaeiaiaaGreatDoor.Sy
set_option linter.unusedVariables false
set_option linter.unusedSimpArgs false
set_option maxRecDepth 100000
def t50 : Tr :=
  .ok [.num (.wrap .u64 (.bin .add (.v 0 0) (.wrap .u64 (.v 0 1))))]
theorem c50 : ConS Tryz.prog T C50 := con_tr (cs := []) (lcs := []) (known := []) (cons_nil _ _) (Known.nil _) (N := 400) (d := 40) (t := t50) (by kernel_rfl) <| by
  intro E hl hp
  clear hl
  clear hp
  simp only [t50, C50, Tr.good, Fact.den, LX.den, DX.ls, DV.ls, DX.den, Bx.den, Ex.den, eo_add, eo_sub, eo_mul, eo_quo, eo_rem, eo_fdv, eo_mn, eo_mx, eo_land, eo_lor, eo_lxor, eo_landn, eo_shl, eo_shr, dvs, flatS, SP.flat, ST.flat, List.map_cons, List.map_nil, List.append_nil, List.cons_append, List.nil_append, ltb_t, ltb_f, leb_t, leb_f, eqb_t, eqb_f, decide_eq_true_eq, decide_eq_false_iff_not, Bool.not_eq_true', Bool.not_eq_false', Bool.and_eq_true, Bool.and_eq_false_imp, beq_iff_eq, beq_eq_false_iff_ne, bne_iff_ne, U64, U32, I64, Big, W, wv, Told, s64, WT, PR, MR, MB, Int.zero_mul, Int.zero_add, Int.add_zero, Int.mul_zero, IntKind.wrap_u64, IntKind.wrap_i64, IntKind.wrap_u32, ne_eq, forall_const, true_implies, show T.rel 50 = R50 from rfl, R50]
  generalize (E.r 0).i 0 = t
  generalize (E.r 0).i 1 = d
  try simp only [mxI, mnI]
  try simp only [ltb, leb, eqb, Int.lt_irrefl, decide_false, Int.le_refl, decide_true]
  repeat' (first | intro _ | refine And.intro ?_ ?_ | refine Iff.intro ?_ ?_)
  all_goals first | omega | (simp_all; done) | (simp_all; omega)
end Go.Proofs.YtjemohphaeiaiaaGreatDoor.Fn
namespace Go.Proofs.YtjemohphaeiaiaaGreatDoor.Fn
open Go Go.RowKit Go.Proofs.YtjemohphaeiaiaaGreatDoor.Sy
set_option linter.unusedVariables false
set_option linter.unusedSimpArgs false
set_option maxRecDepth 100000
def t36 : Tr :=
  .f (.rel 33 [.num (.v 0 3)] 65540 [.bool]) <|
   .br (.f (.is (.v 65540 0) false) <|
    .ok [.num (.n 0), .num (.n 0), .num (.n 0), .tru (.lt (.n 0) (.n 0))])
   (.f (.is (.v 65540 0) true) <|
    .br (.f (.rel 48 [.num (.v 0 1), .num (.v 0 2), .num (.wrap .u64 (.v 0 3))] 65545 [.int .i64, .int .u64, .int .u64, .bool]) <|
     .br (.f (.rel 49 [.num (.v 65545 0), .num (.v 65545 1)] 65555 [.int .i64, .bool]) <|
      .br (.f (.is (.v 65555 1) false) <|
       .ok [.num (.n 0), .num (.n 0), .num (.n 0), .tru (.lt (.n 0) (.n 0))])
      (.f (.is (.v 65555 1) true) <|
       .f (.rel 50 [.num (.v 0 0), .num (.v 65555 0)] 65565 [.int .u64]) <|
        .ok [.num (.v 65565 0), .num (.wrap .u32 (.v 65545 2)), .num (.v 0 3), .tru (.le (.n 0) (.n 0))]))
     (.f (.npre 49 [.num (.v 65545 0), .num (.v 65545 1)]) <|
      .bad))
    (.f (.npre 48 [.num (.v 0 1), .num (.v 0 2), .num (.wrap .u64 (.v 0 3))]) <|
     .bad))
theorem c36 : ConS Tryz.prog T C36 := con_tr (cs := [C33, C48, C49, C50]) (lcs := []) (known := []) (cons_cons c33 (cons_cons c48 (cons_cons c49 (cons_cons c50 (cons_nil _ _))))) (Known.nil _) (N := 400) (d := 40) (t := t36) (by kernel_rfl) <| by
  intro E hl hp
  clear hl
  have hp := hp rfl
  simp only [C36, show T.pre 36 = Q36 from rfl, flatS, SP.flat, dvs, List.append_nil, List.cons_append, List.nil_append, Q36, U64, U32, I64, Big, W, wv, s64, WT, PR, MR, MB] at hp
  simp only [t36, C36, Tr.good, Fact.den, LX.den, DX.ls, DV.ls, DX.den, Bx.den, Ex.den, eo_add, eo_sub, eo_mul, eo_quo, eo_rem, eo_fdv, eo_mn, eo_mx, eo_land, eo_lor, eo_lxor, eo_landn, eo_shl, eo_shr, dvs, flatS, SP.flat, ST.flat, List.map_cons, List.map_nil, List.append_nil, List.cons_append, List.nil_append, ltb_t, ltb_f, leb_t, leb_f, eqb_t, eqb_f, decide_eq_true_eq, decide_eq_false_iff_not, Bool.not_eq_true', Bool.not_eq_false', Bool.and_eq_true, Bool.and_eq_false_imp, beq_iff_eq, beq_eq_false_iff_ne, bne_iff_ne, U64, U32, I64, Big, W, wv, Told, s64, WT, PR, MR, MB, Int.zero_mul, Int.zero_add, Int.add_zero, Int.mul_zero, IntKind.wrap_u64, IntKind.wrap_i64, IntKind.wrap_u32, ne_eq, forall_const, true_implies, show T.rel 33 = R33 from rfl, R33, show T.rel 36 = R36 from rfl, R36, show T.rel 48 = R48 from rfl, R48, show T.rel 49 = R49 from rfl, R49, show T.rel 50 = R50 from rfl, R50, show T.pre 36 = Q36 from rfl, Q36, show T.pre 48 = Q48 from rfl, Q48, show T.pre 49 = Q49 from rfl, Q49]
  revert hp
  generalize (E.r 0).i 0 = base
  generalize (E.r 0).i 1 = h
  generalize (E.r 0).i 2 = l
  generalize (E.r 0).i 3 = w
  generalize (E.r 65540).c 0 = x4_0
  generalize (E.r 65545).i 0 = x9_0
  generalize (E.r 65545).i 1 = x9_1
  generalize (E.r 65545).i 2 = x9_2
  generalize (E.r 65545).c 3 = x9_3
  generalize (E.r 65555).i 0 = x19_0
  generalize (E.r 65555).c 1 = x19_1
  generalize (E.r 65565).i 0 = x29_0
  try simp only [mxI, mnI]
  try simp only [ltb, leb, eqb, Int.lt_irrefl, decide_false, Int.le_refl, decide_true]
  intro hp
  have e1 : w % 18446744073709551616 = w := by omega
  simp only [e1]
  repeat' (first | intro _ | refine And.intro ?_ ?_ | refine Iff.intro ?_ ?_)
  all_goals first | omega | (simp_all; done) | (simp_all; omega)
end Go.Proofs.YtjemohphaeiaiaaGreatDoor.Fn
namespace Go.Proofs.YtjemohphaeiaiaaGreatDoor.Fn
open Go Go.RowKit Go.Proofs.YtjemohphaeiaiaaGreatDoor.Sy
set_option linter.unusedVariables false
set_option linter.unusedSimpArgs false
set_option maxRecDepth 100000
def t17 : Tr :=
  .f (.rel 34 [.num (.v 0 3)] 65540 [.int .i64, .int .u64]) <|
   .f (.rel 34 [.num (.wrap .u64 (.v 0 1))] 65544 [.int .i64, .int .u64]) <|
    .br (.f (.rel 35 [.num (.v 65540 0), .num (.v 65540 1), .num (.v 65544 0), .num (.v 65544 1)] 65545 [.int .i64, .int .u64, .bool]) <|
     .br (.f (.rel 36 [.num (.v 0 0), .num (.v 65545 0), .num (.v 65545 1), .num (.v 0 2)] 65557 [.int .u64, .int .u32, .int .u32, .bool]) <|
      .ok [.num (.v 65557 0), .num (.v 65557 1), .num (.v 65557 2), .tru (.v 65557 3)])
     (.f (.npre 36 [.num (.v 0 0), .num (.v 65545 0), .num (.v 65545 1), .num (.v 0 2)]) <|
      .bad))
    (.f (.npre 35 [.num (.v 65540 0), .num (.v 65540 1), .num (.v 65544 0), .num (.v 65544 1)]) <|
     .bad)
theorem c17 : ConS Tryz.prog T C17 := con_tr (cs := [C34, C35, C36]) (lcs := []) (known := []) (cons_cons c34 (cons_cons c35 (cons_cons c36 (cons_nil _ _)))) (Known.nil _) (N := 400) (d := 40) (t := t17) (by kernel_rfl) <| by
  intro E hl hp
  clear hl
  have hp := hp rfl
  simp only [C17, show T.pre 17 = Q17 from rfl, flatS, SP.flat, dvs, List.append_nil, List.cons_append, List.nil_append, Q17, U64, U32, I64, Big, W, wv, s64, WT, PR, MR, MB] at hp
  simp only [t17, C17, Tr.good, Fact.den, LX.den, DX.ls, DV.ls, DX.den, Bx.den, Ex.den, eo_add, eo_sub, eo_mul, eo_quo, eo_rem, eo_fdv, eo_mn, eo_mx, eo_land, eo_lor, eo_lxor, eo_landn, eo_shl, eo_shr, dvs, flatS, SP.flat, ST.flat, List.map_cons, List.map_nil, List.append_nil, List.cons_append, List.nil_append, ltb_t, ltb_f, leb_t, leb_f, eqb_t, eqb_f, decide_eq_true_eq, decide_eq_false_iff_not, Bool.not_eq_true', Bool.not_eq_false', Bool.and_eq_true, Bool.and_eq_false_imp, beq_iff_eq, beq_eq_false_iff_ne, bne_iff_ne, U64, U32, I64, Big, W, wv, Told, s64, WT, PR, MR, MB, Int.zero_mul, Int.zero_add, Int.add_zero, Int.mul_zero, IntKind.wrap_u64, IntKind.wrap_i64, IntKind.wrap_u32, ne_eq, forall_const, true_implies, show T.rel 17 = R17 from rfl, R17, show T.rel 34 = R34 from rfl, R34, show T.rel 35 = R35 from rfl, R35, show T.rel 36 = R36 from rfl, R36, show T.pre 17 = Q17 from rfl, Q17, show T.pre 35 = Q35 from rfl, Q35, show T.pre 36 = Q36 from rfl, Q36]
  revert hp
  generalize (E.r 0).i 0 = t
  generalize (E.r 0).i 1 = r
  generalize (E.r 0).i 2 = w
  generalize (E.r 0).i 3 = g
  generalize (E.r 65540).i 0 = x4_0
  generalize (E.r 65540).i 1 = x4_1
  generalize (E.r 65544).i 0 = x8_0
  generalize (E.r 65544).i 1 = x8_1
  generalize (E.r 65545).i 0 = x9_0
  generalize (E.r 65545).i 1 = x9_1
  generalize (E.r 65545).c 2 = x9_2
  generalize (E.r 65557).i 0 = x21_0
  generalize (E.r 65557).i 1 = x21_1
  generalize (E.r 65557).i 2 = x21_2
  generalize (E.r 65557).c 3 = x21_3
  try simp only [mxI, mnI]
  try simp only [ltb, leb, eqb, Int.lt_irrefl, decide_false, Int.le_refl, decide_true]
  intro hp
  simp only [show r % 18446744073709551616 = r by omega, show w % 18446744073709551616 = w by omega]
  rintro ⟨rfl, rfl⟩ ⟨rfl, rfl⟩
  simp only [Int.zero_mul, Int.zero_add]
  refine ⟨fun f3 => ⟨fun f4 => ?_, by omega⟩, by omega⟩
  have e : x9_0 * 18446744073709551616 + x9_1 = x4_1 + x8_1 := by
    cases x9_2 <;> simp only [reduceCtorEq, false_imp_iff, true_imp_iff, true_and, and_true] at f3 <;> omega
  rw [e] at f4
  exact f4
end Go.Proofs.YtjemohphaeiaiaaGreatDoor.Fn
namespace Go.Proofs.YtjemohphaeiaiaaGreatDoor.Fn
open Go Go.RowKit Go.Proofs.YtjemohphaeiaiaaGreatDoor.Sy
set_option linter.unusedVariables false
set_option linter.unusedSimpArgs false
set_option maxRecDepth 100000
def t39 : Tr :=
  .br (.f (.rel 17 [.num (.v 0 0), .num (.v 0 1), .num (.v 0 2), .num (.wrap .u64 (.bin .mul (.v 0 3) (.n 1048576)))] 65541 [.int .u64, .int .u32, .int .u32, .bool]) <|
   .ok [.num (.v 65541 0), .num (.v 65541 1), .num (.v 65541 2)])
  (.f (.npre 17 [.num (.v 0 0), .num (.v 0 1), .num (.v 0 2), .num (.wrap .u64 (.bin .mul (.v 0 3) (.n 1048576)))]) <|
   .bad)
theorem c39 : ConS Tryz.prog T C39 := con_tr (cs := [C17]) (lcs := []) (known := []) (cons_cons c17 (cons_nil _ _)) (Known.nil _) (N := 400) (d := 40) (t := t39) (by kernel_rfl) <| by
  intro E hl hp
  clear hl
  have hp := hp rfl
  simp only [C39, show T.pre 39 = Q39 from rfl, flatS, SP.flat, dvs, List.append_nil, List.cons_append, List.nil_append, Q39, U64, U32, I64, Big, W, wv, s64, WT, PR, MR, MB] at hp
  simp only [t39, C39, Tr.good, Fact.den, LX.den, DX.ls, DV.ls, DX.den, Bx.den, Ex.den, eo_add, eo_sub, eo_mul, eo_quo, eo_rem, eo_fdv, eo_mn, eo_mx, eo_land, eo_lor, eo_lxor, eo_landn, eo_shl, eo_shr, dvs, flatS, SP.flat, ST.flat, List.map_cons, List.map_nil, List.append_nil, List.cons_append, List.nil_append, ltb_t, ltb_f, leb_t, leb_f, eqb_t, eqb_f, decide_eq_true_eq, decide_eq_false_iff_not, Bool.not_eq_true', Bool.not_eq_false', Bool.and_eq_true, Bool.and_eq_false_imp, beq_iff_eq, beq_eq_false_iff_ne, bne_iff_ne, U64, U32, I64, Big, W, wv, Told, s64, WT, PR, MR, MB, Int.zero_mul, Int.zero_add, Int.add_zero, Int.mul_zero, IntKind.wrap_u64, IntKind.wrap_i64, IntKind.wrap_u32, ne_eq, forall_const, true_implies, show T.rel 17 = R17 from rfl, R17, show T.rel 39 = R39 from rfl, R39, show T.pre 17 = Q17 from rfl, Q17, show T.pre 39 = Q39 from rfl, Q39]
  revert hp
  generalize (E.r 0).i 0 = t
  generalize (E.r 0).i 1 = r
  generalize (E.r 0).i 2 = w
  generalize (E.r 0).i 3 = ns
  generalize (E.r 65541).i 0 = x5_0
  generalize (E.r 65541).i 1 = x5_1
  generalize (E.r 65541).i 2 = x5_2
  generalize (E.r 65541).c 3 = x5_3
  try simp only [mxI, mnI]
  try simp only [ltb, leb, eqb, Int.lt_irrefl, decide_false, Int.le_refl, decide_true]
  intro hp
  obtain ⟨h0, h1, h2, h3⟩ := hp
  have e : ns * 1048576 % 18446744073709551616 = ns * 1048576 := by omega
  simp only [e, mvt, mvr]
  have q := fun h : 1 ≤ w => quo_le (a := ns * 1048576 + r) (w := w) (by omega) h
  generalize (ns * 1048576 + r) / w = Q at *
  generalize (ns * 1048576 + r) % w = R at *
  repeat' (first | assumption | (intro (h : _ ∧ _); obtain ⟨h1, h2⟩ := h; (first | (subst h1; revert h2) | revert h1 h2)) | (intro h; (first | subst h | skip)) | refine And.intro ?_ ?_)
  all_goals try (show False; refine absurd ?_ ‹¬ _›)
  all_goals repeat' (first | assumption | refine And.intro ?_ ?_)
  all_goals first | omega | grind
end Go.Proofs.YtjemohphaeiaiaaGreatDoor.Fn
