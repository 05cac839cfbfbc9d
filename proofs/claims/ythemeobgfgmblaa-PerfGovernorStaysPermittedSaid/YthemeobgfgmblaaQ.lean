/- The thermal laws on the pure side, all of them. -/
import Derived.Test.YthemeobgfgmblaaQ6
